/- Written by this session's own driver (wip/dprint.py): the functions that the law FnExactRangeWiden reaches, as Lean functions, each with its contract. -/
import Derived.Test.YtlipfemjlicbbaaPFnExactRangeWidenx0
import Derived.Test.YtlipfemjlicbbaaPFnExactRangeWidenx2
import Derived.Test.YtlipfemjlicbbaaPFnExactRangeWidenx5
import Derived.Test.YtlipfemjlicbbaaPFnExactRangeWidenx6
import Derived.Test.YtlipfemjlicbbaaPFnExactRangeWidenx9
import Derived.Test.YtlipfemjlicbbaaPFnExactRangeWidenx10
import Derived.Test.YtlipfemjlicbbaaSq
namespace Go.Proofs.Ytlipfemjlicbbaa.PFnExactRangeWiden
open Go.RowKit Go.Proofs.YtlipfemjlicbbaaW.PrintWords Go.Proofs.YtlipfemjlicbbaaW.PrintLast Go.Proofs.YtlipfemjlicbbaaW.PrintMore Go.Proofs.YtlipfemjlicbbaaSq
attribute [local go_sem] max2_int min2_int max_two min_two max_three min_three max_four min_four   -- for this text's walks alone
set_option linter.unusedVariables false
set_option linter.unusedSimpArgs false

/-! ### laws_FnExactRangeWiden: function 5 -/
def laws_FnExactRangeWiden.f (k : Nat) (a0_0 : Int) (a0_1 : Int) (a1_0 : Int) (a1_1 : Int) (l2 : List Int) : Option (Bool) := if (l2.length : Int) > 1048576 then (some true) else ((laws_toRange.f a0_0 a0_1).bind fun bt186 => ((laws_toRange.f a1_0 a1_1).bind fun bt188 => ((laws_toIntS.f k l2).bind fun t190 => ((spec_RangeWiden.f k bt186.1 bt186.2 bt188.1 bt188.2 t190).bind fun bt193 => ((laws_toIntS.f k l2).bind fun t196 => ((laws_toRange.f a0_0 a0_1).bind fun bt199 => ((laws_toRange.f a1_0 a1_1).bind fun bt201 => ((impl_RangeWiden.f k bt199.1 bt199.2 bt201.1 bt201.2 t196).bind fun bt203 => ((laws_eqRange.f bt203.1 bt203.2 bt193.1 bt193.2).bind fun t206 => (if t206 = true then ((laws_toIntS.f k l2).bind fun t207 => ((laws_eqIntS.f k t196 t207).bind fun t210 => (if t210 = true then (some true) else (none)))) else (none)))))))))))
theorem laws_FnExactRangeWiden.mono : ∀ a0 a1 a2 a3 a4 k, LeO (laws_FnExactRangeWiden.f k a0 a1 a2 a3 a4) (laws_FnExactRangeWiden.f (k + 1) a0 a1 a2 a3 a4) := by
 intro a0 a1 a2 a3 a4 k
 unfold laws_FnExactRangeWiden.f
 repeat' first
   | (with_reducible exact impl_RangeWiden.mono _ _ _ _ _ _)
   | (with_reducible exact laws_eqIntS.mono _ _ _)
   | (with_reducible exact laws_toIntS.mono _ _)
   | (with_reducible exact spec_RangeWiden.mono _ _ _ _ _ _)
   | (with_reducible exact LeO.refl _)
   | (with_reducible exact LeO.none _)
   | (with_reducible refine LeO.ite ?_ ?_)
   | (with_reducible refine LeO.bind ?_ (fun _ => ?_))
   | exact impl_RangeWiden.mono _ _ _ _ _ _
   | exact laws_eqIntS.mono _ _ _
   | exact laws_toIntS.mono _ _
   | exact spec_RangeWiden.mono _ _ _ _ _ _
   | exact LeO.none _
   | refine LeO.ite ?_ ?_
   | refine LeO.bind ?_ (fun _ => ?_)
def laws_FnExactRangeWiden.T3 : Bool × List (List Nat × List Nat) := (true, [([], []), ([0], [0]), ([], []), ([2, 1], [2]), ([], []), ([4, 3], [4]), ([1, 3, 5, 5], [1, 3, 5]), ([], []), ([7, 6, 6, 0, 1, 2, 3, 4, 5, 6, 7], [6, 7])])
def laws_FnExactRangeWiden.B3 : List Nat := [0, 1, 0, 7, 0, 31, 63, 0, 255]
theorem laws_FnExactRangeWiden.tab3 : rtab .any (opsOf Try.f5 3) = laws_FnExactRangeWiden.T3 := by kernel_rfl
theorem laws_FnExactRangeWiden.bits3 : waitsOk laws_FnExactRangeWiden.T3.2 laws_FnExactRangeWiden.B3 = true := by kernel_rfl
def laws_FnExactRangeWiden.T5 : Bool × List (List Nat × List Nat) := (true, [([], []), ([0], [0]), ([], []), ([2, 1], [2]), ([], []), ([1, 3, 4, 3], [1, 3, 4]), ([], []), ([6, 5, 5, 0, 1, 2, 3, 4, 5, 6], [5, 6])])
def laws_FnExactRangeWiden.B5 : List Nat := [0, 1, 0, 7, 0, 31, 0, 127]
theorem laws_FnExactRangeWiden.tab5 : rtab .any (opsOf Try.f5 5) = laws_FnExactRangeWiden.T5 := by kernel_rfl
theorem laws_FnExactRangeWiden.bits5 : waitsOk laws_FnExactRangeWiden.T5.2 laws_FnExactRangeWiden.B5 = true := by kernel_rfl
set_option maxHeartbeats 8000000 in
set_option maxRecDepth 100000 in
theorem laws_FnExactRangeWiden.calls (k : Nat) (a0_0 : Int) (a0_1 : Int) (a1_0 : Int) (a1_1 : Int) (A2 : Option Addr) (c2 : Nat) (l2 : List Int) (r : Bool) (w : World) (hr2 : Kd.C (Kd.int .i64) w A2 l2.length l2) (hc2 : l2.length ≤ c2) (h : laws_FnExactRangeWiden.f k a0_0 a0_1 a1_0 a1_1 l2 = some r) :
  Calls Try.prog 5 #[.agg #[.int .i64 a0_0, .int .i64 a0_1], .agg #[.int .i64 a1_0, .int .i64 a1_1], .slice A2 l2.length c2] w fun e w' => e = .returned (.bool r) ∧ Below w.heap.size w w' := by
 have hu23 := Try.underlying23
 have hu24 := Try.underlying24
 have HR2 := Aside0.mk hr2
 have HC2 := Aside0.mk hc2
 clear hr2 hc2
 have HB := Aside0.mk (Below.refl w.heap.size w)
 have H : (if (l2.length : Int) > 1048576 then (some true) else ((laws_toRange.f a0_0 a0_1).bind fun bt186 => ((laws_toRange.f a1_0 a1_1).bind fun bt188 => ((laws_toIntS.f k l2).bind fun t190 => ((spec_RangeWiden.f k bt186.1 bt186.2 bt188.1 bt188.2 t190).bind fun bt193 => ((laws_toIntS.f k l2).bind fun t196 => ((laws_toRange.f a0_0 a0_1).bind fun bt199 => ((laws_toRange.f a1_0 a1_1).bind fun bt201 => ((impl_RangeWiden.f k bt199.1 bt199.2 bt201.1 bt201.2 t196).bind fun bt203 => ((laws_eqRange.f bt203.1 bt203.2 bt193.1 bt193.2).bind fun t206 => (if t206 = true then ((laws_toIntS.f k l2).bind fun t207 => ((laws_eqIntS.f k t196 t207).bind fun t210 => (if t210 = true then (some true) else (none)))) else (none)))))))))))) = some r := h
 clear h
 by_cases c4 : (l2.length : Int) > 1048576
 ·rw [if_pos c4] at H
  have c4b0 : decide (1048576 < (l2.length : Int)) = true := decide_eq_true c4
  have c4b1 : decide (1048576 < l2.length) = true := decide_eq_true (by omega)
  clear c4
  obtain rfl := Option.some.inj H
  go_enter Try.func5, Try.ntmps5
  go_wp2_with (first | ((with_reducible refine gate_dst (N := 3) rfl ?_); refine box_event ?hg (N := 3) ?hd (cs := #[.int .i64 a0_0, .int .i64 a0_1]) (t := 23) ?hr ?_; (case hd => rfl); (case hg => rfl); (case hr => first | (go_simp; done) | (go_simp; rfl)); intro gb184 hg w5 hbox hb; have n0_ := Aside0.mk (below_step (hz HB.out) hb); have n1_ := Aside0.mk (hbox); have n2_ := Aside0.mk ((by rw [hg]; exact (below_size (hz HB.out)) : w.heap.size ≤ gb184)); have n3_ := Aside0.mk ((by rw [hg]; exact (below_size (hz HB.out)) : w.heap.size ≤ gb184)); clear HB; have HB := n0_; have BK184 := n1_; have GW184 := n2_; have GE184 := n3_; clear n0_ n1_ n2_ n3_; clear hb hbox hg) | ((with_reducible refine gate_dst (N := 4) rfl ?_); refine box_event ?hg (N := 4) ?hd (cs := #[.int .i64 a1_0, .int .i64 a1_1]) (t := 23) ?hr ?_; (case hd => rfl); (case hg => rfl); (case hr => first | (go_simp; done) | (go_simp; rfl)); intro gb185 hg w6 hbox hb; have n0_ := Aside0.mk (blk_below (g := gb184) (o := .cells #[.int .i64 a0_0, .int .i64 a0_1] 23 (0, 0)) (bz BK184.out) hb); have n1_ := Aside0.mk (below_step (hz1 HB.out GE184.out) hb); have n2_ := Aside0.mk (hbox); have n3_ := Aside0.mk ((by rw [hg]; exact (below_size (hz1 HB.out GE184.out)) : w.heap.size ≤ gb185)); have n4_ := Aside0.mk ((by rw [hg]; exact (below_size (hz1 HB.out GE184.out)) : w.heap.size ≤ gb185)); have n5_ := Aside0.mk ((by rw [hg]; exact Nat.ne_of_lt (blk_lt (g := gb184) (o := .cells #[.int .i64 a0_0, .int .i64 a0_1] 23 (0, 0)) (bz BK184.out)) : gb184 ≠ gb185)); have n6_ := Aside0.mk ((by rw [hg]; exact Nat.ne_of_gt (blk_lt (g := gb184) (o := .cells #[.int .i64 a0_0, .int .i64 a0_1] 23 (0, 0)) (bz BK184.out)) : gb185 ≠ gb184)); clear BK184; clear HB; have BK184 := n0_; have HB := n1_; have BK185 := n2_; have GW185 := n3_; have GE185 := n4_; have NB184_185 := n5_; have NB185_184 := n6_; clear n0_ n1_ n2_ n3_ n4_ n5_ n6_; clear hb hbox hg))
  go_ret
  exact ⟨by first | rfl | (simp [errW_none, errW_some] <;> rfl) | (simp [*, errW_none, errW_some] <;> rfl), hz2 HB.out GE184.out GE185.out⟩
 ·rw [if_neg c4] at H
  have c4b0 : decide (1048576 < (l2.length : Int)) = false := decide_eq_false c4
  have c4b1 : decide (1048576 < l2.length) = false := decide_eq_false (by omega)
  clear c4
  replace H := Option.bind_eq_some_iff.mp H
  obtain ⟨⟨t186, t187⟩, A70, H⟩ := H
  replace H : ((laws_toRange.f a1_0 a1_1).bind fun bt188 => ((laws_toIntS.f k l2).bind fun t190 => ((spec_RangeWiden.f k t186 t187 bt188.1 bt188.2 t190).bind fun bt193 => ((laws_toIntS.f k l2).bind fun t196 => ((laws_toRange.f a0_0 a0_1).bind fun bt199 => ((laws_toRange.f a1_0 a1_1).bind fun bt201 => ((impl_RangeWiden.f k bt199.1 bt199.2 bt201.1 bt201.2 t196).bind fun bt203 => ((laws_eqRange.f bt203.1 bt203.2 bt193.1 bt193.2).bind fun t206 => (if t206 = true then ((laws_toIntS.f k l2).bind fun t207 => ((laws_eqIntS.f k t196 t207).bind fun t210 => (if t210 = true then (some true) else (none)))) else (none)))))))))) = some r := H
  have A7 := Aside0.mk A70
  clear A70
  replace H := Option.bind_eq_some_iff.mp H
  obtain ⟨⟨t188, t189⟩, A80, H⟩ := H
  replace H : ((laws_toIntS.f k l2).bind fun t190 => ((spec_RangeWiden.f k t186 t187 t188 t189 t190).bind fun bt193 => ((laws_toIntS.f k l2).bind fun t196 => ((laws_toRange.f a0_0 a0_1).bind fun bt199 => ((laws_toRange.f a1_0 a1_1).bind fun bt201 => ((impl_RangeWiden.f k bt199.1 bt199.2 bt201.1 bt201.2 t196).bind fun bt203 => ((laws_eqRange.f bt203.1 bt203.2 bt193.1 bt193.2).bind fun t206 => (if t206 = true then ((laws_toIntS.f k l2).bind fun t207 => ((laws_eqIntS.f k t196 t207).bind fun t210 => (if t210 = true then (some true) else (none)))) else (none))))))))) = some r := H
  have A8 := Aside0.mk A80
  clear A80
  replace H := Option.bind_eq_some_iff.mp H
  obtain ⟨t190, A90, H⟩ := H
  replace H : ((spec_RangeWiden.f k t186 t187 t188 t189 t190).bind fun bt193 => ((laws_toIntS.f k l2).bind fun t196 => ((laws_toRange.f a0_0 a0_1).bind fun bt199 => ((laws_toRange.f a1_0 a1_1).bind fun bt201 => ((impl_RangeWiden.f k bt199.1 bt199.2 bt201.1 bt201.2 t196).bind fun bt203 => ((laws_eqRange.f bt203.1 bt203.2 bt193.1 bt193.2).bind fun t206 => (if t206 = true then ((laws_toIntS.f k l2).bind fun t207 => ((laws_eqIntS.f k t196 t207).bind fun t210 => (if t210 = true then (some true) else (none)))) else (none)))))))) = some r := H
  have A9 := Aside0.mk A90
  clear A90
  replace H := Option.bind_eq_some_iff.mp H
  obtain ⟨⟨t193, t194⟩, A100, H⟩ := H
  replace H : ((laws_toIntS.f k l2).bind fun t196 => ((laws_toRange.f a0_0 a0_1).bind fun bt199 => ((laws_toRange.f a1_0 a1_1).bind fun bt201 => ((impl_RangeWiden.f k bt199.1 bt199.2 bt201.1 bt201.2 t196).bind fun bt203 => ((laws_eqRange.f bt203.1 bt203.2 t193 t194).bind fun t206 => (if t206 = true then ((laws_toIntS.f k l2).bind fun t207 => ((laws_eqIntS.f k t196 t207).bind fun t210 => (if t210 = true then (some true) else (none)))) else (none))))))) = some r := H
  have A10 := Aside0.mk A100
  clear A100
  replace H := Option.bind_eq_some_iff.mp H
  obtain ⟨t196, A110, H⟩ := H
  replace H : ((laws_toRange.f a0_0 a0_1).bind fun bt199 => ((laws_toRange.f a1_0 a1_1).bind fun bt201 => ((impl_RangeWiden.f k bt199.1 bt199.2 bt201.1 bt201.2 t196).bind fun bt203 => ((laws_eqRange.f bt203.1 bt203.2 t193 t194).bind fun t206 => (if t206 = true then ((laws_toIntS.f k l2).bind fun t207 => ((laws_eqIntS.f k t196 t207).bind fun t210 => (if t210 = true then (some true) else (none)))) else (none)))))) = some r := H
  have A11 := Aside0.mk A110
  clear A110
  replace H := Option.bind_eq_some_iff.mp H
  obtain ⟨⟨t199, t200⟩, A120, H⟩ := H
  replace H : ((laws_toRange.f a1_0 a1_1).bind fun bt201 => ((impl_RangeWiden.f k t199 t200 bt201.1 bt201.2 t196).bind fun bt203 => ((laws_eqRange.f bt203.1 bt203.2 t193 t194).bind fun t206 => (if t206 = true then ((laws_toIntS.f k l2).bind fun t207 => ((laws_eqIntS.f k t196 t207).bind fun t210 => (if t210 = true then (some true) else (none)))) else (none))))) = some r := H
  have A12 := Aside0.mk A120
  clear A120
  replace H := Option.bind_eq_some_iff.mp H
  obtain ⟨⟨t201, t202⟩, A130, H⟩ := H
  replace H : ((impl_RangeWiden.f k t199 t200 t201 t202 t196).bind fun bt203 => ((laws_eqRange.f bt203.1 bt203.2 t193 t194).bind fun t206 => (if t206 = true then ((laws_toIntS.f k l2).bind fun t207 => ((laws_eqIntS.f k t196 t207).bind fun t210 => (if t210 = true then (some true) else (none)))) else (none)))) = some r := H
  have A13 := Aside0.mk A130
  clear A130
  replace H := Option.bind_eq_some_iff.mp H
  obtain ⟨⟨t203, t204⟩, A140, H⟩ := H
  replace H : ((laws_eqRange.f t203 t204 t193 t194).bind fun t206 => (if t206 = true then ((laws_toIntS.f k l2).bind fun t207 => ((laws_eqIntS.f k t196 t207).bind fun t210 => (if t210 = true then (some true) else (none)))) else (none))) = some r := H
  have A14 := Aside0.mk A140
  clear A140
  replace H := Option.bind_eq_some_iff.mp H
  obtain ⟨t206, A150, H⟩ := H
  replace H : (if t206 = true then ((laws_toIntS.f k l2).bind fun t207 => ((laws_eqIntS.f k t196 t207).bind fun t210 => (if t210 = true then (some true) else (none)))) else (none)) = some r := H
  have A15 := Aside0.mk A150
  clear A150
  by_cases c16 : t206 = true
  ·subst c16
   have H1 : ((laws_toIntS.f k l2).bind fun t207 => ((laws_eqIntS.f k t196 t207).bind fun t210 => (if t210 = true then (some true) else (none)))) = some r := by rw [if_pos rfl] at H; exact H
   clear H
   have H := H1
   clear H1
   replace H := Option.bind_eq_some_iff.mp H
   obtain ⟨t207, A170, H⟩ := H
   replace H : ((laws_eqIntS.f k t196 t207).bind fun t210 => (if t210 = true then (some true) else (none))) = some r := H
   have A17 := Aside0.mk A170
   clear A170
   replace H := Option.bind_eq_some_iff.mp H
   obtain ⟨t210, A180, H⟩ := H
   replace H : (if t210 = true then (some true) else (none)) = some r := H
   have A18 := Aside0.mk A180
   clear A180
   by_cases c19 : t210 = true
   ·subst c19
    have H1 : (some true) = some r := by rw [if_pos rfl] at H; exact H
    clear H
    have H := H1
    clear H1
    obtain rfl := Option.some.inj H
    go_enter Try.func5, Try.ntmps5
    try go_wp2_with (first | ((with_reducible refine gate_dst (N := 3) rfl ?_); refine box_event ?hg (N := 3) ?hd (cs := #[.int .i64 a0_0, .int .i64 a0_1]) (t := 23) ?hr ?_; (case hd => rfl); (case hg => rfl); (case hr => first | (go_simp; done) | (go_simp; rfl)); intro gb184 hg w20 hbox hb; have n0_ := Aside0.mk (below_step (hz HB.out) hb); have n1_ := Aside0.mk (hbox); have n2_ := Aside0.mk ((by rw [hg]; exact (below_size (hz HB.out)) : w.heap.size ≤ gb184)); have n3_ := Aside0.mk ((by rw [hg]; exact (below_size (hz HB.out)) : w.heap.size ≤ gb184)); clear HB; have HB := n0_; have BK184 := n1_; have GW184 := n2_; have GE184 := n3_; clear n0_ n1_ n2_ n3_; clear hb hbox hg) | ((with_reducible refine gate_dst (N := 4) rfl ?_); refine box_event ?hg (N := 4) ?hd (cs := #[.int .i64 a1_0, .int .i64 a1_1]) (t := 23) ?hr ?_; (case hd => rfl); (case hg => rfl); (case hr => first | (go_simp; done) | (go_simp; rfl)); intro gb185 hg w21 hbox hb; have n0_ := Aside0.mk (blk_below (g := gb184) (o := .cells #[.int .i64 a0_0, .int .i64 a0_1] 23 (0, 0)) (bz BK184.out) hb); have n1_ := Aside0.mk (below_step (hz1 HB.out GE184.out) hb); have n2_ := Aside0.mk (hbox); have n3_ := Aside0.mk ((by rw [hg]; exact (below_size (hz1 HB.out GE184.out)) : w.heap.size ≤ gb185)); have n4_ := Aside0.mk ((by rw [hg]; exact (below_size (hz1 HB.out GE184.out)) : w.heap.size ≤ gb185)); have n5_ := Aside0.mk ((by rw [hg]; exact Nat.ne_of_lt (blk_lt (g := gb184) (o := .cells #[.int .i64 a0_0, .int .i64 a0_1] 23 (0, 0)) (bz BK184.out)) : gb184 ≠ gb185)); have n6_ := Aside0.mk ((by rw [hg]; exact Nat.ne_of_gt (blk_lt (g := gb184) (o := .cells #[.int .i64 a0_0, .int .i64 a0_1] 23 (0, 0)) (bz BK184.out)) : gb185 ≠ gb184)); clear BK184; clear HB; have BK184 := n0_; have HB := n1_; have BK185 := n2_; have GW185 := n3_; have GE185 := n4_; have NB184_185 := n5_; have NB185_184 := n6_; clear n0_ n1_ n2_ n3_ n4_ n5_ n6_; clear hb hbox hg))
    have n0_ := Aside0.mk (blk_drew BK184.out)
    have n1_ := Aside0.mk (blk_drew BK185.out)
    have n2_ := Aside0.mk (below_drew1 HB.out)
    clear BK184
    clear BK185
    clear HB
    have BK184 := n0_
    have BK185 := n1_
    have HB := n2_
    clear n0_ n1_ n2_
    refine start_ (n := 9) (S := fun w' => w'.cell? ⟨gb184, 0, none⟩ = some (.int .i64 a0_0) ∧ w'.cell? ⟨gb184, 1, none⟩ = some (.int .i64 a0_1) ∧ w'.cell? ⟨gb185, 0, none⟩ = some (.int .i64 a1_0) ∧ w'.cell? ⟨gb185, 1, none⟩ = some (.int .i64 a1_1)) (ds := []) #[false, false, false, false, false, false, false, false, false] (by kernel_rfl) rfl rfl ⟨(blk_cell BK184.out 0).trans rfl, (blk_cell BK184.out 1).trans rfl, (blk_cell BK185.out 0).trans rfl, (blk_cell BK185.out 1).trans rfl⟩ (fun hHeld => ?_); refine with_tabW laws_FnExactRangeWiden.tab3 laws_FnExactRangeWiden.bits3 (fun HT_ HW_ => ?_)
    generalize w21.drew = w22 at BK184 BK185 HB hHeld ⊢
    refine pure_ (i := 4) (N := some 17) (v := ?_) (a' := ?_) #[false, false, false, false, true, false, false, false, false] rfl rfl (any_of HT_.out (by kernel_rfl)) (fun _ _ _ h => h) (Or.inl ⟨by rfl, ?_⟩) ?_ ?_
    rotate_left
    ·intro w'
     go_simp
     with_reducible rfl
    rotate_left
    ·exact pz
    refine take_ (i := 0) (N := some 13) (v := ?_) (a' := ?_) #[true, false, false, false, true, false, false, false, false] rfl rfl (take_ofW HT_.out HW_.out (by kernel_rfl)) (fun _ _ _ h => h) (Or.inl ⟨by rfl, ?_⟩) hHeld ?_ ?_
    rotate_left
    ·rintro w' ⟨s0, s1, s2, s3⟩
     go_simp
     with_reducible rfl
    rotate_left
    ·exact pz
    refine take_ (i := 2) (N := some 15) (v := ?_) (a' := ?_) #[true, false, true, false, true, false, false, false, false] rfl rfl (take_ofW HT_.out HW_.out (by kernel_rfl)) (fun _ _ _ h => h) (Or.inl ⟨by rfl, ?_⟩) hHeld ?_ ?_
    rotate_left
    ·rintro w' ⟨s0, s1, s2, s3⟩
     go_simp
     with_reducible rfl
    rotate_left
    ·exact pz
    refine join_ (σ := Value × Nat) 1 #[true, true, true, true, true, true, true, true, false] (fun s_ => [(14, .agg #[.int .i64 t186, .int .i64 t187]), (16, .agg #[.int .i64 t188, .int .i64 t189]), (18, s_.1), (19, .agg #[.int .i64 t193, .int .i64 t194]), (7, .pointer (some ⟨s_.2, 0, none⟩))]) (fun s_ w' => (w'.cell? ⟨gb184, 0, none⟩ = some (.int .i64 a0_0) ∧ w'.cell? ⟨gb184, 1, none⟩ = some (.int .i64 a0_1) ∧ w'.cell? ⟨gb185, 0, none⟩ = some (.int .i64 a1_0) ∧ w'.cell? ⟨gb185, 1, none⟩ = some (.int .i64 a1_1)) ∧ (Kd.R (Kd.int .i64) 3 w' w.heap.size (fun _ => True) s_.1 t190) ∧ (w'.heap[gb184]? = some (.cells #[.int .i64 a0_0, .int .i64 a0_1] 23 (0, 0))) ∧ (w'.heap[gb185]? = some (.cells #[.int .i64 a1_0, .int .i64 a1_1] 23 (0, 0))) ∧ (w'.heap[s_.2]? = some (.cells #[.int .i64 0, .int .i64 0] 24 (0, 0))) ∧ (w.heap.size ≤ s_.2) ∧ (w.heap.size ≤ s_.2) ∧ (gb184 ≠ s_.2) ∧ (s_.2 ≠ gb184) ∧ (gb185 ≠ s_.2) ∧ (s_.2 ≠ gb185) ∧ (Below w.heap.size w w')) ?_ ?_
    rotate_left
    ·intro hJ1_3_5_6_7
     refine join_ (σ := Value) 2 #[true, true, true, true, true, true, true, false, false] (fun s_ => [(14, .agg #[.int .i64 t186, .int .i64 t187]), (16, .agg #[.int .i64 t188, .int .i64 t189]), (18, s_), (19, .agg #[.int .i64 t193, .int .i64 t194])]) (fun s_ w' => (w'.cell? ⟨gb184, 0, none⟩ = some (.int .i64 a0_0) ∧ w'.cell? ⟨gb184, 1, none⟩ = some (.int .i64 a0_1) ∧ w'.cell? ⟨gb185, 0, none⟩ = some (.int .i64 a1_0) ∧ w'.cell? ⟨gb185, 1, none⟩ = some (.int .i64 a1_1)) ∧ (Kd.R (Kd.int .i64) 3 w' w.heap.size (fun _ => True) s_ t190) ∧ (w'.heap[gb184]? = some (.cells #[.int .i64 a0_0, .int .i64 a0_1] 23 (0, 0))) ∧ (w'.heap[gb185]? = some (.cells #[.int .i64 a1_0, .int .i64 a1_1] 23 (0, 0))) ∧ (Below w.heap.size w w')) ?_ ?_
     rotate_left
     ·intro hJ1_3_5_6
      refine join_ (σ := Value × Nat) 2 #[true, true, true, true, true, true, false, true, false] (fun s_ => [(14, .agg #[.int .i64 t186, .int .i64 t187]), (16, .agg #[.int .i64 t188, .int .i64 t189]), (18, s_.1), (7, .pointer (some ⟨s_.2, 0, none⟩))]) (fun s_ w' => (w'.cell? ⟨gb184, 0, none⟩ = some (.int .i64 a0_0) ∧ w'.cell? ⟨gb184, 1, none⟩ = some (.int .i64 a0_1) ∧ w'.cell? ⟨gb185, 0, none⟩ = some (.int .i64 a1_0) ∧ w'.cell? ⟨gb185, 1, none⟩ = some (.int .i64 a1_1)) ∧ (Kd.R (Kd.int .i64) 3 w' w.heap.size (fun _ => True) s_.1 t190) ∧ (w'.heap[gb184]? = some (.cells #[.int .i64 a0_0, .int .i64 a0_1] 23 (0, 0))) ∧ (w'.heap[gb185]? = some (.cells #[.int .i64 a1_0, .int .i64 a1_1] 23 (0, 0))) ∧ (w'.heap[s_.2]? = some (.cells #[.int .i64 0, .int .i64 0] 24 (0, 0))) ∧ (w.heap.size ≤ s_.2) ∧ (w.heap.size ≤ s_.2) ∧ (gb184 ≠ s_.2) ∧ (s_.2 ≠ gb184) ∧ (gb185 ≠ s_.2) ∧ (s_.2 ≠ gb185) ∧ (Below w.heap.size w w')) ?_ ?_
      rotate_left
      ·intro hJ1_3_5_7
       refine join_ (σ := Value) 3 #[true, true, true, true, true, true, false, false, false] (fun s_ => [(14, .agg #[.int .i64 t186, .int .i64 t187]), (16, .agg #[.int .i64 t188, .int .i64 t189]), (18, s_)]) (fun s_ w' => (w'.cell? ⟨gb184, 0, none⟩ = some (.int .i64 a0_0) ∧ w'.cell? ⟨gb184, 1, none⟩ = some (.int .i64 a0_1) ∧ w'.cell? ⟨gb185, 0, none⟩ = some (.int .i64 a1_0) ∧ w'.cell? ⟨gb185, 1, none⟩ = some (.int .i64 a1_1)) ∧ (Kd.R (Kd.int .i64) 3 w' w.heap.size (fun _ => True) s_ t190) ∧ (w'.heap[gb184]? = some (.cells #[.int .i64 a0_0, .int .i64 a0_1] 23 (0, 0))) ∧ (w'.heap[gb185]? = some (.cells #[.int .i64 a1_0, .int .i64 a1_1] 23 (0, 0))) ∧ (Below w.heap.size w w')) ?_ ?_
       rotate_left
       ·intro hJ1_3_5
        refine join_ (σ := Nat) 3 #[true, true, true, true, true, false, false, true, false] (fun s_ => [(14, .agg #[.int .i64 t186, .int .i64 t187]), (16, .agg #[.int .i64 t188, .int .i64 t189]), (7, .pointer (some ⟨s_, 0, none⟩))]) (fun s_ w' => (w'.cell? ⟨gb184, 0, none⟩ = some (.int .i64 a0_0) ∧ w'.cell? ⟨gb184, 1, none⟩ = some (.int .i64 a0_1) ∧ w'.cell? ⟨gb185, 0, none⟩ = some (.int .i64 a1_0) ∧ w'.cell? ⟨gb185, 1, none⟩ = some (.int .i64 a1_1)) ∧ (w'.heap[gb184]? = some (.cells #[.int .i64 a0_0, .int .i64 a0_1] 23 (0, 0))) ∧ (w'.heap[gb185]? = some (.cells #[.int .i64 a1_0, .int .i64 a1_1] 23 (0, 0))) ∧ (w'.heap[s_]? = some (.cells #[.int .i64 0, .int .i64 0] 24 (0, 0))) ∧ (w.heap.size ≤ s_) ∧ (w.heap.size ≤ s_) ∧ (gb184 ≠ s_) ∧ (s_ ≠ gb184) ∧ (gb185 ≠ s_) ∧ (s_ ≠ gb185) ∧ (Below w.heap.size w w')) ?_ ?_
        rotate_left
        ·intro hJ1_3_7
         refine join_ (σ := Unit) 4 #[true, true, true, true, true, false, false, false, false] (fun s_ => [(14, .agg #[.int .i64 t186, .int .i64 t187]), (16, .agg #[.int .i64 t188, .int .i64 t189])]) (fun s_ w' => (w'.cell? ⟨gb184, 0, none⟩ = some (.int .i64 a0_0) ∧ w'.cell? ⟨gb184, 1, none⟩ = some (.int .i64 a0_1) ∧ w'.cell? ⟨gb185, 0, none⟩ = some (.int .i64 a1_0) ∧ w'.cell? ⟨gb185, 1, none⟩ = some (.int .i64 a1_1)) ∧ (w'.heap[gb184]? = some (.cells #[.int .i64 a0_0, .int .i64 a0_1] 23 (0, 0))) ∧ (w'.heap[gb185]? = some (.cells #[.int .i64 a1_0, .int .i64 a1_1] 23 (0, 0))) ∧ (Below w.heap.size w w')) ?_ ?_
         rotate_left
         ·intro hJ1_3
          refine join_ (σ := Nat) 4 #[true, true, true, false, true, false, false, true, false] (fun s_ => [(14, .agg #[.int .i64 t186, .int .i64 t187]), (7, .pointer (some ⟨s_, 0, none⟩))]) (fun s_ w' => (w'.cell? ⟨gb184, 0, none⟩ = some (.int .i64 a0_0) ∧ w'.cell? ⟨gb184, 1, none⟩ = some (.int .i64 a0_1) ∧ w'.cell? ⟨gb185, 0, none⟩ = some (.int .i64 a1_0) ∧ w'.cell? ⟨gb185, 1, none⟩ = some (.int .i64 a1_1)) ∧ (w'.heap[gb184]? = some (.cells #[.int .i64 a0_0, .int .i64 a0_1] 23 (0, 0))) ∧ (w'.heap[gb185]? = some (.cells #[.int .i64 a1_0, .int .i64 a1_1] 23 (0, 0))) ∧ (w'.heap[s_]? = some (.cells #[.int .i64 0, .int .i64 0] 24 (0, 0))) ∧ (w.heap.size ≤ s_) ∧ (w.heap.size ≤ s_) ∧ (gb184 ≠ s_) ∧ (s_ ≠ gb184) ∧ (gb185 ≠ s_) ∧ (s_ ≠ gb185) ∧ (Below w.heap.size w w')) ?_ ?_
          rotate_left
          ·intro hJ1_7
           refine join_ (σ := Unit) 5 #[true, true, true, false, true, false, false, false, false] (fun s_ => [(14, .agg #[.int .i64 t186, .int .i64 t187])]) (fun s_ w' => (w'.cell? ⟨gb184, 0, none⟩ = some (.int .i64 a0_0) ∧ w'.cell? ⟨gb184, 1, none⟩ = some (.int .i64 a0_1) ∧ w'.cell? ⟨gb185, 0, none⟩ = some (.int .i64 a1_0) ∧ w'.cell? ⟨gb185, 1, none⟩ = some (.int .i64 a1_1)) ∧ (w'.heap[gb184]? = some (.cells #[.int .i64 a0_0, .int .i64 a0_1] 23 (0, 0))) ∧ (w'.heap[gb185]? = some (.cells #[.int .i64 a1_0, .int .i64 a1_1] 23 (0, 0))) ∧ (Below w.heap.size w w')) ?_ ?_
           rotate_left
           ·intro hJ1
            refine join_ (σ := Nat) 5 #[true, false, true, false, true, false, false, true, false] (fun s_ => [(7, .pointer (some ⟨s_, 0, none⟩))]) (fun s_ w' => (w'.cell? ⟨gb184, 0, none⟩ = some (.int .i64 a0_0) ∧ w'.cell? ⟨gb184, 1, none⟩ = some (.int .i64 a0_1) ∧ w'.cell? ⟨gb185, 0, none⟩ = some (.int .i64 a1_0) ∧ w'.cell? ⟨gb185, 1, none⟩ = some (.int .i64 a1_1)) ∧ (w'.heap[gb184]? = some (.cells #[.int .i64 a0_0, .int .i64 a0_1] 23 (0, 0))) ∧ (w'.heap[gb185]? = some (.cells #[.int .i64 a1_0, .int .i64 a1_1] 23 (0, 0))) ∧ (w'.heap[s_]? = some (.cells #[.int .i64 0, .int .i64 0] 24 (0, 0))) ∧ (w.heap.size ≤ s_) ∧ (w.heap.size ≤ s_) ∧ (gb184 ≠ s_) ∧ (s_ ≠ gb184) ∧ (gb185 ≠ s_) ∧ (s_ ≠ gb185) ∧ (Below w.heap.size w w')) ?_ ?_
            rotate_left
            ·intro hJ7
             refine two_ (i := 1) (j := 7) (Ni := some 14) (Nj := some 7) #[true, true, true, false, true, false, false, false, false] #[true, false, true, false, true, false, false, true, false] rfl rfl rfl rfl (two_of HT_.out (by kernel_rfl)) (by decide) (by decide) (fun K hK => ?_) (fun K hK => ?_)
             ·skip
              refine goes_ Try.func16 (by kernel_rfl) rfl #[.agg #[.int .i64 a0_0, .int .i64 a0_1]] (by rfl) rfl rfl mz ?_
              with_reducible refine (laws_toRange.calls a0_0 a0_1 t186 t187 _ A7.out).mono ?_
              rintro e w23 ⟨rfl, hb⟩
              refine ⟨_, rfl, ?_⟩
              have n0_ := Aside0.mk (blk_below (g := gb184) (o := .cells #[.int .i64 a0_0, .int .i64 a0_1] 23 (0, 0)) (bz BK184.out) hb)
              have n1_ := Aside0.mk (blk_below (g := gb185) (o := .cells #[.int .i64 a1_0, .int .i64 a1_1] 23 (0, 0)) (bz BK185.out) hb)
              have n2_ := Aside0.mk (below_step (hz2 HB.out GE184.out GE185.out) hb)
              clear BK184
              clear BK185
              clear HB
              have BK184 := n0_
              have BK185 := n1_
              have HB := n2_
              clear n0_ n1_ n2_
              (try clear hb)
              (try clear hb2)
              (try clear hk)
              (try clear hi)
              refine hK.out _ _ ⟨(blk_cell BK184.out 0).trans rfl, (blk_cell BK184.out 1).trans rfl, (blk_cell BK185.out 0).trans rfl, (blk_cell BK185.out 1).trans rfl⟩ (fun hHeld => ?_)
              clear hK K
              refine norm_ (a' := ?_) ?_ ?_
              rotate_left
              ·show Act.put _ (some 14) _ = _
               simp only [Act.put, List.setIfInBounds_toArray, List.set_cons_zero, List.set_cons_succ, i64_w, i32_w]
               rfl
              exact norm_ (by first | (simp only [putAll, Act.put, List.setIfInBounds_toArray, List.set_cons_zero, List.set_cons_succ]; done) | (simp only [putAll, Act.put, List.setIfInBounds_toArray, List.set_cons_zero, List.set_cons_succ]; rfl)) (hJ1 () _ ⟨hHeld, (bz BK184.out), (bz BK185.out), (hz2 HB.out GE184.out GE185.out)⟩)
             ·skip
              refine box_step ?hg (N := 7) ?hd (cs := #[.int .i64 0, .int .i64 0]) (t := 24) ?hr ?_; (case hd => rfl); (case hg => rfl); (case hr => first | (go_simp; done) | (go_simp; rfl))
              intro gb195 hg w23 hbox hb
              have n0_ := Aside0.mk (blk_below (g := gb184) (o := .cells #[.int .i64 a0_0, .int .i64 a0_1] 23 (0, 0)) (bz BK184.out) hb)
              have n1_ := Aside0.mk (blk_below (g := gb185) (o := .cells #[.int .i64 a1_0, .int .i64 a1_1] 23 (0, 0)) (bz BK185.out) hb)
              have n2_ := Aside0.mk (below_step (hz2 HB.out GE184.out GE185.out) hb)
              have n3_ := Aside0.mk (hbox)
              have n4_ := Aside0.mk ((by rw [hg]; exact (below_size (hz2 HB.out GE184.out GE185.out)) : w.heap.size ≤ gb195))
              have n5_ := Aside0.mk ((by rw [hg]; exact (below_size (hz2 HB.out GE184.out GE185.out)) : w.heap.size ≤ gb195))
              have n6_ := Aside0.mk ((by rw [hg]; exact Nat.ne_of_lt (blk_lt (g := gb184) (o := .cells #[.int .i64 a0_0, .int .i64 a0_1] 23 (0, 0)) (bz BK184.out)) : gb184 ≠ gb195))
              have n7_ := Aside0.mk ((by rw [hg]; exact Nat.ne_of_gt (blk_lt (g := gb184) (o := .cells #[.int .i64 a0_0, .int .i64 a0_1] 23 (0, 0)) (bz BK184.out)) : gb195 ≠ gb184))
              have n8_ := Aside0.mk ((by rw [hg]; exact Nat.ne_of_lt (blk_lt (g := gb185) (o := .cells #[.int .i64 a1_0, .int .i64 a1_1] 23 (0, 0)) (bz BK185.out)) : gb185 ≠ gb195))
              have n9_ := Aside0.mk ((by rw [hg]; exact Nat.ne_of_gt (blk_lt (g := gb185) (o := .cells #[.int .i64 a1_0, .int .i64 a1_1] 23 (0, 0)) (bz BK185.out)) : gb195 ≠ gb185))
              clear BK184
              clear BK185
              clear HB
              have BK184 := n0_
              have BK185 := n1_
              have HB := n2_
              have BK195 := n3_
              have GW195 := n4_
              have GE195 := n5_
              have NB184_195 := n6_
              have NB195_184 := n7_
              have NB185_195 := n8_
              have NB195_185 := n9_
              clear n0_ n1_ n2_ n3_ n4_ n5_ n6_ n7_ n8_ n9_
              clear hb hbox hg
              refine hK.out _ _ ⟨(blk_cell BK184.out 0).trans rfl, (blk_cell BK184.out 1).trans rfl, (blk_cell BK185.out 0).trans rfl, (blk_cell BK185.out 1).trans rfl⟩ (fun hHeld => ?_)
              clear hK K
              refine norm_ (a' := ?_) ?_ ?_
              rotate_left
              ·show Act.put _ (some 7) _ = _
               simp only [Act.put, List.setIfInBounds_toArray, List.set_cons_zero, List.set_cons_succ, i64_w, i32_w]
               rfl
              exact norm_ (by first | (simp only [putAll, Act.put, List.setIfInBounds_toArray, List.set_cons_zero, List.set_cons_succ]; done) | (simp only [putAll, Act.put, List.setIfInBounds_toArray, List.set_cons_zero, List.set_cons_succ]; rfl)) (hJ7 (gb195) _ ⟨hHeld, (bz BK184.out), (bz BK185.out), (bz BK195.out), GW195.out, GE195.out, NB184_195.out, NB195_184.out, NB185_195.out, NB195_185.out, (hz3 HB.out GE184.out GE185.out GE195.out)⟩)
            ·skip
             rintro gb195 w24 ⟨hS_, h0_, h1_, h2_, h3_, h4_, h5_, h6_, h7_, h8_, h9_⟩
             have n0_ : Aside0 (w24.heap[gb184]? = some (.cells #[.int .i64 a0_0, .int .i64 a0_1] 23 (0, 0))) := ⟨h0_⟩
             have n1_ : Aside0 (w24.heap[gb185]? = some (.cells #[.int .i64 a1_0, .int .i64 a1_1] 23 (0, 0))) := ⟨h1_⟩
             have n2_ : Aside0 (w24.heap[gb195]? = some (.cells #[.int .i64 0, .int .i64 0] 24 (0, 0))) := ⟨h2_⟩
             have n3_ : Aside0 (w.heap.size ≤ gb195) := ⟨h3_⟩
             have n4_ : Aside0 (w.heap.size ≤ gb195) := ⟨h4_⟩
             have n5_ : Aside0 (gb184 ≠ gb195) := ⟨h5_⟩
             have n6_ : Aside0 (gb195 ≠ gb184) := ⟨h6_⟩
             have n7_ : Aside0 (gb185 ≠ gb195) := ⟨h7_⟩
             have n8_ : Aside0 (gb195 ≠ gb185) := ⟨h8_⟩
             have n9_ : Aside0 (Below w.heap.size w w24) := ⟨h9_⟩
             clear BK184
             clear BK185
             clear HB
             clear h0_ h1_ h2_ h3_ h4_ h5_ h6_ h7_ h8_ h9_
             have BK184 := n0_
             have BK185 := n1_
             have BK195 := n2_
             have GW195 := n3_
             have GE195 := n4_
             have NB184_195 := n5_
             have NB195_184 := n6_
             have NB185_195 := n7_
             have NB195_185 := n8_
             have HB := n9_
             clear n0_ n1_ n2_ n3_ n4_ n5_ n6_ n7_ n8_ n9_
             have hHeld : w24.cell? ⟨gb184, 0, none⟩ = some (.int .i64 a0_0) ∧ w24.cell? ⟨gb184, 1, none⟩ = some (.int .i64 a0_1) ∧ w24.cell? ⟨gb185, 0, none⟩ = some (.int .i64 a1_0) ∧ w24.cell? ⟨gb185, 1, none⟩ = some (.int .i64 a1_1) := hS_
             refine norm_ (a' := ?_) ?_ ?_
             rotate_left
             ·simp only [putAll, Act.put, List.setIfInBounds_toArray, List.set_cons_zero, List.set_cons_succ]
              rfl
             refine one_ (i := 1) (N := some 14) #[true, true, true, false, true, false, false, true, false] rfl rfl (one_of HT_.out (by kernel_rfl)) (by decide) (fun K hK => ?_)
             refine goes_ Try.func16 (by kernel_rfl) rfl #[.agg #[.int .i64 a0_0, .int .i64 a0_1]] (by rfl) rfl rfl mz ?_
             with_reducible refine (laws_toRange.calls a0_0 a0_1 t186 t187 _ A7.out).mono ?_
             rintro e w25 ⟨rfl, hb⟩
             refine ⟨_, rfl, ?_⟩
             have n0_ := Aside0.mk (blk_below (g := gb184) (o := .cells #[.int .i64 a0_0, .int .i64 a0_1] 23 (0, 0)) (bz BK184.out) hb)
             have n1_ := Aside0.mk (blk_below (g := gb185) (o := .cells #[.int .i64 a1_0, .int .i64 a1_1] 23 (0, 0)) (bz BK185.out) hb)
             have n2_ := Aside0.mk (blk_below (g := gb195) (o := .cells #[.int .i64 0, .int .i64 0] 24 (0, 0)) (bz BK195.out) hb)
             have n3_ := Aside0.mk (below_step (hz3 HB.out GE184.out GE185.out GE195.out) hb)
             clear BK184
             clear BK185
             clear BK195
             clear HB
             have BK184 := n0_
             have BK185 := n1_
             have BK195 := n2_
             have HB := n3_
             clear n0_ n1_ n2_ n3_
             (try clear hb)
             (try clear hb2)
             (try clear hk)
             (try clear hi)
             refine hK.out _ _ ⟨(blk_cell BK184.out 0).trans rfl, (blk_cell BK184.out 1).trans rfl, (blk_cell BK185.out 0).trans rfl, (blk_cell BK185.out 1).trans rfl⟩ (fun hHeld => ?_)
             clear hK K
             refine norm_ (a' := ?_) ?_ ?_
             rotate_left
             ·show Act.put _ (some 14) _ = _
              simp only [Act.put, List.setIfInBounds_toArray, List.set_cons_zero, List.set_cons_succ, i64_w, i32_w]
              rfl
             exact norm_ (by first | (simp only [putAll, Act.put, List.setIfInBounds_toArray, List.set_cons_zero, List.set_cons_succ]; done) | (simp only [putAll, Act.put, List.setIfInBounds_toArray, List.set_cons_zero, List.set_cons_succ]; rfl)) (hJ1_7 (gb195) _ ⟨hHeld, (bz BK184.out), (bz BK185.out), (bz BK195.out), GW195.out, GE195.out, NB184_195.out, NB195_184.out, NB185_195.out, NB195_185.out, (hz3 HB.out GE184.out GE185.out GE195.out)⟩)
           ·skip
            rintro _ w24 ⟨hS_, h0_, h1_, h2_⟩
            have n0_ : Aside0 (w24.heap[gb184]? = some (.cells #[.int .i64 a0_0, .int .i64 a0_1] 23 (0, 0))) := ⟨h0_⟩
            have n1_ : Aside0 (w24.heap[gb185]? = some (.cells #[.int .i64 a1_0, .int .i64 a1_1] 23 (0, 0))) := ⟨h1_⟩
            have n2_ : Aside0 (Below w.heap.size w w24) := ⟨h2_⟩
            clear BK184
            clear BK185
            clear HB
            clear h0_ h1_ h2_
            have BK184 := n0_
            have BK185 := n1_
            have HB := n2_
            clear n0_ n1_ n2_
            have hHeld : w24.cell? ⟨gb184, 0, none⟩ = some (.int .i64 a0_0) ∧ w24.cell? ⟨gb184, 1, none⟩ = some (.int .i64 a0_1) ∧ w24.cell? ⟨gb185, 0, none⟩ = some (.int .i64 a1_0) ∧ w24.cell? ⟨gb185, 1, none⟩ = some (.int .i64 a1_1) := hS_
            refine norm_ (a' := ?_) ?_ ?_
            rotate_left
            ·simp only [putAll, Act.put, List.setIfInBounds_toArray, List.set_cons_zero, List.set_cons_succ]
             rfl
            refine two_ (i := 3) (j := 7) (Ni := some 16) (Nj := some 7) #[true, true, true, true, true, false, false, false, false] #[true, true, true, false, true, false, false, true, false] rfl rfl rfl rfl (two_of HT_.out (by kernel_rfl)) (by decide) (by decide) (fun K hK => ?_) (fun K hK => ?_)
            ·skip
             refine goes_ Try.func16 (by kernel_rfl) rfl #[.agg #[.int .i64 a1_0, .int .i64 a1_1]] (by rfl) rfl rfl mz ?_
             with_reducible refine (laws_toRange.calls a1_0 a1_1 t188 t189 _ A8.out).mono ?_
             rintro e w25 ⟨rfl, hb⟩
             refine ⟨_, rfl, ?_⟩
             have n0_ := Aside0.mk (blk_below (g := gb184) (o := .cells #[.int .i64 a0_0, .int .i64 a0_1] 23 (0, 0)) (bz BK184.out) hb)
             have n1_ := Aside0.mk (blk_below (g := gb185) (o := .cells #[.int .i64 a1_0, .int .i64 a1_1] 23 (0, 0)) (bz BK185.out) hb)
             have n2_ := Aside0.mk (below_step (hz2 HB.out GE184.out GE185.out) hb)
             clear BK184
             clear BK185
             clear HB
             have BK184 := n0_
             have BK185 := n1_
             have HB := n2_
             clear n0_ n1_ n2_
             (try clear hb)
             (try clear hb2)
             (try clear hk)
             (try clear hi)
             refine hK.out _ _ ⟨(blk_cell BK184.out 0).trans rfl, (blk_cell BK184.out 1).trans rfl, (blk_cell BK185.out 0).trans rfl, (blk_cell BK185.out 1).trans rfl⟩ (fun hHeld => ?_)
             clear hK K
             refine norm_ (a' := ?_) ?_ ?_
             rotate_left
             ·show Act.put _ (some 16) _ = _
              simp only [Act.put, List.setIfInBounds_toArray, List.set_cons_zero, List.set_cons_succ, i64_w, i32_w]
              rfl
             exact norm_ (by first | (simp only [putAll, Act.put, List.setIfInBounds_toArray, List.set_cons_zero, List.set_cons_succ]; done) | (simp only [putAll, Act.put, List.setIfInBounds_toArray, List.set_cons_zero, List.set_cons_succ]; rfl)) (hJ1_3 () _ ⟨hHeld, (bz BK184.out), (bz BK185.out), (hz2 HB.out GE184.out GE185.out)⟩)
            ·skip
             refine box_step ?hg (N := 7) ?hd (cs := #[.int .i64 0, .int .i64 0]) (t := 24) ?hr ?_; (case hd => rfl); (case hg => rfl); (case hr => first | (go_simp; done) | (go_simp; rfl))
             intro gb195 hg w25 hbox hb
             have n0_ := Aside0.mk (blk_below (g := gb184) (o := .cells #[.int .i64 a0_0, .int .i64 a0_1] 23 (0, 0)) (bz BK184.out) hb)
             have n1_ := Aside0.mk (blk_below (g := gb185) (o := .cells #[.int .i64 a1_0, .int .i64 a1_1] 23 (0, 0)) (bz BK185.out) hb)
             have n2_ := Aside0.mk (below_step (hz2 HB.out GE184.out GE185.out) hb)
             have n3_ := Aside0.mk (hbox)
             have n4_ := Aside0.mk ((by rw [hg]; exact (below_size (hz2 HB.out GE184.out GE185.out)) : w.heap.size ≤ gb195))
             have n5_ := Aside0.mk ((by rw [hg]; exact (below_size (hz2 HB.out GE184.out GE185.out)) : w.heap.size ≤ gb195))
             have n6_ := Aside0.mk ((by rw [hg]; exact Nat.ne_of_lt (blk_lt (g := gb184) (o := .cells #[.int .i64 a0_0, .int .i64 a0_1] 23 (0, 0)) (bz BK184.out)) : gb184 ≠ gb195))
             have n7_ := Aside0.mk ((by rw [hg]; exact Nat.ne_of_gt (blk_lt (g := gb184) (o := .cells #[.int .i64 a0_0, .int .i64 a0_1] 23 (0, 0)) (bz BK184.out)) : gb195 ≠ gb184))
             have n8_ := Aside0.mk ((by rw [hg]; exact Nat.ne_of_lt (blk_lt (g := gb185) (o := .cells #[.int .i64 a1_0, .int .i64 a1_1] 23 (0, 0)) (bz BK185.out)) : gb185 ≠ gb195))
             have n9_ := Aside0.mk ((by rw [hg]; exact Nat.ne_of_gt (blk_lt (g := gb185) (o := .cells #[.int .i64 a1_0, .int .i64 a1_1] 23 (0, 0)) (bz BK185.out)) : gb195 ≠ gb185))
             clear BK184
             clear BK185
             clear HB
             have BK184 := n0_
             have BK185 := n1_
             have HB := n2_
             have BK195 := n3_
             have GW195 := n4_
             have GE195 := n5_
             have NB184_195 := n6_
             have NB195_184 := n7_
             have NB185_195 := n8_
             have NB195_185 := n9_
             clear n0_ n1_ n2_ n3_ n4_ n5_ n6_ n7_ n8_ n9_
             clear hb hbox hg
             refine hK.out _ _ ⟨(blk_cell BK184.out 0).trans rfl, (blk_cell BK184.out 1).trans rfl, (blk_cell BK185.out 0).trans rfl, (blk_cell BK185.out 1).trans rfl⟩ (fun hHeld => ?_)
             clear hK K
             refine norm_ (a' := ?_) ?_ ?_
             rotate_left
             ·show Act.put _ (some 7) _ = _
              simp only [Act.put, List.setIfInBounds_toArray, List.set_cons_zero, List.set_cons_succ, i64_w, i32_w]
              rfl
             exact norm_ (by first | (simp only [putAll, Act.put, List.setIfInBounds_toArray, List.set_cons_zero, List.set_cons_succ]; done) | (simp only [putAll, Act.put, List.setIfInBounds_toArray, List.set_cons_zero, List.set_cons_succ]; rfl)) (hJ1_7 (gb195) _ ⟨hHeld, (bz BK184.out), (bz BK185.out), (bz BK195.out), GW195.out, GE195.out, NB184_195.out, NB195_184.out, NB185_195.out, NB195_185.out, (hz3 HB.out GE184.out GE185.out GE195.out)⟩)
          ·skip
           rintro gb195 w25 ⟨hS_, h0_, h1_, h2_, h3_, h4_, h5_, h6_, h7_, h8_, h9_⟩
           have n0_ : Aside0 (w25.heap[gb184]? = some (.cells #[.int .i64 a0_0, .int .i64 a0_1] 23 (0, 0))) := ⟨h0_⟩
           have n1_ : Aside0 (w25.heap[gb185]? = some (.cells #[.int .i64 a1_0, .int .i64 a1_1] 23 (0, 0))) := ⟨h1_⟩
           have n2_ : Aside0 (w25.heap[gb195]? = some (.cells #[.int .i64 0, .int .i64 0] 24 (0, 0))) := ⟨h2_⟩
           have n3_ : Aside0 (w.heap.size ≤ gb195) := ⟨h3_⟩
           have n4_ : Aside0 (w.heap.size ≤ gb195) := ⟨h4_⟩
           have n5_ : Aside0 (gb184 ≠ gb195) := ⟨h5_⟩
           have n6_ : Aside0 (gb195 ≠ gb184) := ⟨h6_⟩
           have n7_ : Aside0 (gb185 ≠ gb195) := ⟨h7_⟩
           have n8_ : Aside0 (gb195 ≠ gb185) := ⟨h8_⟩
           have n9_ : Aside0 (Below w.heap.size w w25) := ⟨h9_⟩
           clear BK184
           clear BK185
           clear HB
           clear h0_ h1_ h2_ h3_ h4_ h5_ h6_ h7_ h8_ h9_
           have BK184 := n0_
           have BK185 := n1_
           have BK195 := n2_
           have GW195 := n3_
           have GE195 := n4_
           have NB184_195 := n5_
           have NB195_184 := n6_
           have NB185_195 := n7_
           have NB195_185 := n8_
           have HB := n9_
           clear n0_ n1_ n2_ n3_ n4_ n5_ n6_ n7_ n8_ n9_
           have hHeld : w25.cell? ⟨gb184, 0, none⟩ = some (.int .i64 a0_0) ∧ w25.cell? ⟨gb184, 1, none⟩ = some (.int .i64 a0_1) ∧ w25.cell? ⟨gb185, 0, none⟩ = some (.int .i64 a1_0) ∧ w25.cell? ⟨gb185, 1, none⟩ = some (.int .i64 a1_1) := hS_
           refine norm_ (a' := ?_) ?_ ?_
           rotate_left
           ·simp only [putAll, Act.put, List.setIfInBounds_toArray, List.set_cons_zero, List.set_cons_succ]
            rfl
           refine one_ (i := 3) (N := some 16) #[true, true, true, true, true, false, false, true, false] rfl rfl (one_of HT_.out (by kernel_rfl)) (by decide) (fun K hK => ?_)
           refine goes_ Try.func16 (by kernel_rfl) rfl #[.agg #[.int .i64 a1_0, .int .i64 a1_1]] (by rfl) rfl rfl mz ?_
           with_reducible refine (laws_toRange.calls a1_0 a1_1 t188 t189 _ A8.out).mono ?_
           rintro e w26 ⟨rfl, hb⟩
           refine ⟨_, rfl, ?_⟩
           have n0_ := Aside0.mk (blk_below (g := gb184) (o := .cells #[.int .i64 a0_0, .int .i64 a0_1] 23 (0, 0)) (bz BK184.out) hb)
           have n1_ := Aside0.mk (blk_below (g := gb185) (o := .cells #[.int .i64 a1_0, .int .i64 a1_1] 23 (0, 0)) (bz BK185.out) hb)
           have n2_ := Aside0.mk (blk_below (g := gb195) (o := .cells #[.int .i64 0, .int .i64 0] 24 (0, 0)) (bz BK195.out) hb)
           have n3_ := Aside0.mk (below_step (hz3 HB.out GE184.out GE185.out GE195.out) hb)
           clear BK184
           clear BK185
           clear BK195
           clear HB
           have BK184 := n0_
           have BK185 := n1_
           have BK195 := n2_
           have HB := n3_
           clear n0_ n1_ n2_ n3_
           (try clear hb)
           (try clear hb2)
           (try clear hk)
           (try clear hi)
           refine hK.out _ _ ⟨(blk_cell BK184.out 0).trans rfl, (blk_cell BK184.out 1).trans rfl, (blk_cell BK185.out 0).trans rfl, (blk_cell BK185.out 1).trans rfl⟩ (fun hHeld => ?_)
           clear hK K
           refine norm_ (a' := ?_) ?_ ?_
           rotate_left
           ·show Act.put _ (some 16) _ = _
            simp only [Act.put, List.setIfInBounds_toArray, List.set_cons_zero, List.set_cons_succ, i64_w, i32_w]
            rfl
           exact norm_ (by first | (simp only [putAll, Act.put, List.setIfInBounds_toArray, List.set_cons_zero, List.set_cons_succ]; done) | (simp only [putAll, Act.put, List.setIfInBounds_toArray, List.set_cons_zero, List.set_cons_succ]; rfl)) (hJ1_3_7 (gb195) _ ⟨hHeld, (bz BK184.out), (bz BK185.out), (bz BK195.out), GW195.out, GE195.out, NB184_195.out, NB195_184.out, NB185_195.out, NB195_185.out, (hz3 HB.out GE184.out GE185.out GE195.out)⟩)
         ·skip
          rintro _ w25 ⟨hS_, h0_, h1_, h2_⟩
          have n0_ : Aside0 (w25.heap[gb184]? = some (.cells #[.int .i64 a0_0, .int .i64 a0_1] 23 (0, 0))) := ⟨h0_⟩
          have n1_ : Aside0 (w25.heap[gb185]? = some (.cells #[.int .i64 a1_0, .int .i64 a1_1] 23 (0, 0))) := ⟨h1_⟩
          have n2_ : Aside0 (Below w.heap.size w w25) := ⟨h2_⟩
          clear BK184
          clear BK185
          clear HB
          clear h0_ h1_ h2_
          have BK184 := n0_
          have BK185 := n1_
          have HB := n2_
          clear n0_ n1_ n2_
          have hHeld : w25.cell? ⟨gb184, 0, none⟩ = some (.int .i64 a0_0) ∧ w25.cell? ⟨gb184, 1, none⟩ = some (.int .i64 a0_1) ∧ w25.cell? ⟨gb185, 0, none⟩ = some (.int .i64 a1_0) ∧ w25.cell? ⟨gb185, 1, none⟩ = some (.int .i64 a1_1) := hS_
          refine norm_ (a' := ?_) ?_ ?_
          rotate_left
          ·simp only [putAll, Act.put, List.setIfInBounds_toArray, List.set_cons_zero, List.set_cons_succ]
           rfl
          refine two_ (i := 5) (j := 7) (Ni := some 18) (Nj := some 7) #[true, true, true, true, true, true, false, false, false] #[true, true, true, true, true, false, false, true, false] rfl rfl rfl rfl (two_of HT_.out (by kernel_rfl)) (by decide) (by decide) (fun K hK => ?_) (fun K hK => ?_)
          ·skip
           refine goes_ Try.func22 (by kernel_rfl) rfl #[.slice A2 l2.length c2] (by rfl) rfl rfl mz ?_
           with_reducible refine (laws_toIntS.calls k _ _ l2 t190 _ ?side1 ?side2 A9.out).mono ?_
           (case side1 => repeat (first | exact (Kd.C_below HR2.out HB.out) | (with_reducible refine Kd.C_alloc ?_ _) | (with_reducible refine Kd.C_drewN ?_ _) | (with_reducible refine Kd.C_drew ?_)))
           (case side2 => exact HC2.out)
           rintro e w26 ⟨v191, rfl, ho0, hb⟩
           refine ⟨_, rfl, ?_⟩
           have n0_ := Aside0.mk (Kd.R_lower ho0 (below_size (hz2 HB.out GE184.out GE185.out)))
           have n1_ := Aside0.mk (blk_below (g := gb184) (o := .cells #[.int .i64 a0_0, .int .i64 a0_1] 23 (0, 0)) (bz BK184.out) hb)
           have n2_ := Aside0.mk (blk_below (g := gb185) (o := .cells #[.int .i64 a1_0, .int .i64 a1_1] 23 (0, 0)) (bz BK185.out) hb)
           have n3_ := Aside0.mk (below_step (hz2 HB.out GE184.out GE185.out) hb)
           clear BK184
           clear BK185
           clear HB
           have HO192 := n0_
           have BK184 := n1_
           have BK185 := n2_
           have HB := n3_
           clear n0_ n1_ n2_ n3_
           (try clear hb)
           (try clear hb2)
           (try clear hk)
           (try clear hi)
           (try clear ho0)
           refine hK.out _ _ ⟨(blk_cell BK184.out 0).trans rfl, (blk_cell BK184.out 1).trans rfl, (blk_cell BK185.out 0).trans rfl, (blk_cell BK185.out 1).trans rfl⟩ (fun hHeld => ?_)
           clear hK K
           refine norm_ (a' := ?_) ?_ ?_
           rotate_left
           ·show Act.put _ (some 18) _ = _
            simp only [Act.put, List.setIfInBounds_toArray, List.set_cons_zero, List.set_cons_succ, i64_w, i32_w]
            rfl
           exact norm_ (by first | (simp only [putAll, Act.put, List.setIfInBounds_toArray, List.set_cons_zero, List.set_cons_succ]; done) | (simp only [putAll, Act.put, List.setIfInBounds_toArray, List.set_cons_zero, List.set_cons_succ]; rfl)) (hJ1_3_5 (v191) _ ⟨hHeld, (by (with_reducible repeat (first | apply Kd.R_alloc | apply Kd.R_drewN | apply Kd.R_drew)); exact HO192.out), (bz BK184.out), (bz BK185.out), (hz2 HB.out GE184.out GE185.out)⟩)
          ·skip
           refine box_step ?hg (N := 7) ?hd (cs := #[.int .i64 0, .int .i64 0]) (t := 24) ?hr ?_; (case hd => rfl); (case hg => rfl); (case hr => first | (go_simp; done) | (go_simp; rfl))
           intro gb195 hg w26 hbox hb
           have n0_ := Aside0.mk (blk_below (g := gb184) (o := .cells #[.int .i64 a0_0, .int .i64 a0_1] 23 (0, 0)) (bz BK184.out) hb)
           have n1_ := Aside0.mk (blk_below (g := gb185) (o := .cells #[.int .i64 a1_0, .int .i64 a1_1] 23 (0, 0)) (bz BK185.out) hb)
           have n2_ := Aside0.mk (below_step (hz2 HB.out GE184.out GE185.out) hb)
           have n3_ := Aside0.mk (hbox)
           have n4_ := Aside0.mk ((by rw [hg]; exact (below_size (hz2 HB.out GE184.out GE185.out)) : w.heap.size ≤ gb195))
           have n5_ := Aside0.mk ((by rw [hg]; exact (below_size (hz2 HB.out GE184.out GE185.out)) : w.heap.size ≤ gb195))
           have n6_ := Aside0.mk ((by rw [hg]; exact Nat.ne_of_lt (blk_lt (g := gb184) (o := .cells #[.int .i64 a0_0, .int .i64 a0_1] 23 (0, 0)) (bz BK184.out)) : gb184 ≠ gb195))
           have n7_ := Aside0.mk ((by rw [hg]; exact Nat.ne_of_gt (blk_lt (g := gb184) (o := .cells #[.int .i64 a0_0, .int .i64 a0_1] 23 (0, 0)) (bz BK184.out)) : gb195 ≠ gb184))
           have n8_ := Aside0.mk ((by rw [hg]; exact Nat.ne_of_lt (blk_lt (g := gb185) (o := .cells #[.int .i64 a1_0, .int .i64 a1_1] 23 (0, 0)) (bz BK185.out)) : gb185 ≠ gb195))
           have n9_ := Aside0.mk ((by rw [hg]; exact Nat.ne_of_gt (blk_lt (g := gb185) (o := .cells #[.int .i64 a1_0, .int .i64 a1_1] 23 (0, 0)) (bz BK185.out)) : gb195 ≠ gb185))
           clear BK184
           clear BK185
           clear HB
           have BK184 := n0_
           have BK185 := n1_
           have HB := n2_
           have BK195 := n3_
           have GW195 := n4_
           have GE195 := n5_
           have NB184_195 := n6_
           have NB195_184 := n7_
           have NB185_195 := n8_
           have NB195_185 := n9_
           clear n0_ n1_ n2_ n3_ n4_ n5_ n6_ n7_ n8_ n9_
           clear hb hbox hg
           refine hK.out _ _ ⟨(blk_cell BK184.out 0).trans rfl, (blk_cell BK184.out 1).trans rfl, (blk_cell BK185.out 0).trans rfl, (blk_cell BK185.out 1).trans rfl⟩ (fun hHeld => ?_)
           clear hK K
           refine norm_ (a' := ?_) ?_ ?_
           rotate_left
           ·show Act.put _ (some 7) _ = _
            simp only [Act.put, List.setIfInBounds_toArray, List.set_cons_zero, List.set_cons_succ, i64_w, i32_w]
            rfl
           exact norm_ (by first | (simp only [putAll, Act.put, List.setIfInBounds_toArray, List.set_cons_zero, List.set_cons_succ]; done) | (simp only [putAll, Act.put, List.setIfInBounds_toArray, List.set_cons_zero, List.set_cons_succ]; rfl)) (hJ1_3_7 (gb195) _ ⟨hHeld, (bz BK184.out), (bz BK185.out), (bz BK195.out), GW195.out, GE195.out, NB184_195.out, NB195_184.out, NB185_195.out, NB195_185.out, (hz3 HB.out GE184.out GE185.out GE195.out)⟩)
        ·skip
         rintro gb195 w26 ⟨hS_, h0_, h1_, h2_, h3_, h4_, h5_, h6_, h7_, h8_, h9_⟩
         have n0_ : Aside0 (w26.heap[gb184]? = some (.cells #[.int .i64 a0_0, .int .i64 a0_1] 23 (0, 0))) := ⟨h0_⟩
         have n1_ : Aside0 (w26.heap[gb185]? = some (.cells #[.int .i64 a1_0, .int .i64 a1_1] 23 (0, 0))) := ⟨h1_⟩
         have n2_ : Aside0 (w26.heap[gb195]? = some (.cells #[.int .i64 0, .int .i64 0] 24 (0, 0))) := ⟨h2_⟩
         have n3_ : Aside0 (w.heap.size ≤ gb195) := ⟨h3_⟩
         have n4_ : Aside0 (w.heap.size ≤ gb195) := ⟨h4_⟩
         have n5_ : Aside0 (gb184 ≠ gb195) := ⟨h5_⟩
         have n6_ : Aside0 (gb195 ≠ gb184) := ⟨h6_⟩
         have n7_ : Aside0 (gb185 ≠ gb195) := ⟨h7_⟩
         have n8_ : Aside0 (gb195 ≠ gb185) := ⟨h8_⟩
         have n9_ : Aside0 (Below w.heap.size w w26) := ⟨h9_⟩
         clear BK184
         clear BK185
         clear HB
         clear h0_ h1_ h2_ h3_ h4_ h5_ h6_ h7_ h8_ h9_
         have BK184 := n0_
         have BK185 := n1_
         have BK195 := n2_
         have GW195 := n3_
         have GE195 := n4_
         have NB184_195 := n5_
         have NB195_184 := n6_
         have NB185_195 := n7_
         have NB195_185 := n8_
         have HB := n9_
         clear n0_ n1_ n2_ n3_ n4_ n5_ n6_ n7_ n8_ n9_
         have hHeld : w26.cell? ⟨gb184, 0, none⟩ = some (.int .i64 a0_0) ∧ w26.cell? ⟨gb184, 1, none⟩ = some (.int .i64 a0_1) ∧ w26.cell? ⟨gb185, 0, none⟩ = some (.int .i64 a1_0) ∧ w26.cell? ⟨gb185, 1, none⟩ = some (.int .i64 a1_1) := hS_
         refine norm_ (a' := ?_) ?_ ?_
         rotate_left
         ·simp only [putAll, Act.put, List.setIfInBounds_toArray, List.set_cons_zero, List.set_cons_succ]
          rfl
         refine one_ (i := 5) (N := some 18) #[true, true, true, true, true, true, false, true, false] rfl rfl (one_of HT_.out (by kernel_rfl)) (by decide) (fun K hK => ?_)
         refine goes_ Try.func22 (by kernel_rfl) rfl #[.slice A2 l2.length c2] (by rfl) rfl rfl mz ?_
         with_reducible refine (laws_toIntS.calls k _ _ l2 t190 _ ?side1 ?side2 A9.out).mono ?_
         (case side1 => repeat (first | exact (Kd.C_below HR2.out HB.out) | (with_reducible refine Kd.C_alloc ?_ _) | (with_reducible refine Kd.C_drewN ?_ _) | (with_reducible refine Kd.C_drew ?_)))
         (case side2 => exact HC2.out)
         rintro e w27 ⟨v191, rfl, ho0, hb⟩
         refine ⟨_, rfl, ?_⟩
         have n0_ := Aside0.mk (Kd.R_lower ho0 (below_size (hz3 HB.out GE184.out GE185.out GE195.out)))
         have n1_ := Aside0.mk (blk_below (g := gb184) (o := .cells #[.int .i64 a0_0, .int .i64 a0_1] 23 (0, 0)) (bz BK184.out) hb)
         have n2_ := Aside0.mk (blk_below (g := gb185) (o := .cells #[.int .i64 a1_0, .int .i64 a1_1] 23 (0, 0)) (bz BK185.out) hb)
         have n3_ := Aside0.mk (blk_below (g := gb195) (o := .cells #[.int .i64 0, .int .i64 0] 24 (0, 0)) (bz BK195.out) hb)
         have n4_ := Aside0.mk (below_step (hz3 HB.out GE184.out GE185.out GE195.out) hb)
         clear BK184
         clear BK185
         clear BK195
         clear HB
         have HO192 := n0_
         have BK184 := n1_
         have BK185 := n2_
         have BK195 := n3_
         have HB := n4_
         clear n0_ n1_ n2_ n3_ n4_
         (try clear hb)
         (try clear hb2)
         (try clear hk)
         (try clear hi)
         (try clear ho0)
         refine hK.out _ _ ⟨(blk_cell BK184.out 0).trans rfl, (blk_cell BK184.out 1).trans rfl, (blk_cell BK185.out 0).trans rfl, (blk_cell BK185.out 1).trans rfl⟩ (fun hHeld => ?_)
         clear hK K
         refine norm_ (a' := ?_) ?_ ?_
         rotate_left
         ·show Act.put _ (some 18) _ = _
          simp only [Act.put, List.setIfInBounds_toArray, List.set_cons_zero, List.set_cons_succ, i64_w, i32_w]
          rfl
         exact norm_ (by first | (simp only [putAll, Act.put, List.setIfInBounds_toArray, List.set_cons_zero, List.set_cons_succ]; done) | (simp only [putAll, Act.put, List.setIfInBounds_toArray, List.set_cons_zero, List.set_cons_succ]; rfl)) (hJ1_3_5_7 (v191, gb195) _ ⟨hHeld, (by (with_reducible repeat (first | apply Kd.R_alloc | apply Kd.R_drewN | apply Kd.R_drew)); exact HO192.out), (bz BK184.out), (bz BK185.out), (bz BK195.out), GW195.out, GE195.out, NB184_195.out, NB195_184.out, NB185_195.out, NB195_185.out, (hz3 HB.out GE184.out GE185.out GE195.out)⟩)
       ·skip
        rintro v191 w26 ⟨hS_, h0_, h1_, h2_, h3_⟩
        have n0_ : Aside0 (Kd.R (Kd.int .i64) 3 w26 w.heap.size (fun _ => True) v191 t190) := ⟨h0_⟩
        have n1_ : Aside0 (w26.heap[gb184]? = some (.cells #[.int .i64 a0_0, .int .i64 a0_1] 23 (0, 0))) := ⟨h1_⟩
        have n2_ : Aside0 (w26.heap[gb185]? = some (.cells #[.int .i64 a1_0, .int .i64 a1_1] 23 (0, 0))) := ⟨h2_⟩
        have n3_ : Aside0 (Below w.heap.size w w26) := ⟨h3_⟩
        clear BK184
        clear BK185
        clear HB
        clear h0_ h1_ h2_ h3_
        have HO192 := n0_
        have BK184 := n1_
        have BK185 := n2_
        have HB := n3_
        clear n0_ n1_ n2_ n3_
        have hHeld : w26.cell? ⟨gb184, 0, none⟩ = some (.int .i64 a0_0) ∧ w26.cell? ⟨gb184, 1, none⟩ = some (.int .i64 a0_1) ∧ w26.cell? ⟨gb185, 0, none⟩ = some (.int .i64 a1_0) ∧ w26.cell? ⟨gb185, 1, none⟩ = some (.int .i64 a1_1) := hS_
        obtain ⟨Ao27, co27, eo27⟩ := Kd.R_slice HO192.out
        (first | subst eo27 | (injection eo27 with f1_ f2_ f3_; have f4_ := f1_.symm; have f5_ := f3_.symm; clear f1_ f2_ f3_; subst f4_; subst f5_))
        refine norm_ (a' := ?_) ?_ ?_
        rotate_left
        ·simp only [putAll, Act.put, List.setIfInBounds_toArray, List.set_cons_zero, List.set_cons_succ]
         rfl
        refine two_ (i := 6) (j := 7) (Ni := some 19) (Nj := some 7) #[true, true, true, true, true, true, true, false, false] #[true, true, true, true, true, true, false, true, false] rfl rfl rfl rfl (two_of HT_.out (by kernel_rfl)) (by decide) (by decide) (fun K hK => ?_) (fun K hK => ?_)
        ·skip
         refine goes_ Try.func21 (by kernel_rfl) rfl #[.agg #[.int .i64 t186, .int .i64 t187], .agg #[.int .i64 t188, .int .i64 t189], .slice Ao27 t190.length co27] (by rfl) rfl rfl mz ?_
         with_reducible refine (spec_RangeWiden.calls k t186 t187 t188 t189 _ _ t190 t193 t194 _ ?side1 ?side2 A10.out).mono ?_
         (case side1 => repeat (first | exact (Kd.R_reads' HO192.out).2.2 | (with_reducible refine Kd.C_alloc ?_ _) | (with_reducible refine Kd.C_drewN ?_ _) | (with_reducible refine Kd.C_drew ?_)))
         (case side2 => exact (Kd.R_reads' HO192.out).2.1)
         rintro e w28 ⟨rfl, hb⟩
         refine ⟨_, rfl, ?_⟩
         have n0_ := Aside0.mk (Kd.R_below (by (with_reducible repeat (first | apply Kd.R_alloc | apply Kd.R_drewN | apply Kd.R_drew)); exact HO192.out) hb)
         have n1_ := Aside0.mk (blk_below (g := gb184) (o := .cells #[.int .i64 a0_0, .int .i64 a0_1] 23 (0, 0)) (bz BK184.out) hb)
         have n2_ := Aside0.mk (blk_below (g := gb185) (o := .cells #[.int .i64 a1_0, .int .i64 a1_1] 23 (0, 0)) (bz BK185.out) hb)
         have n3_ := Aside0.mk (below_step (hz2 HB.out GE184.out GE185.out) hb)
         clear HO192
         clear BK184
         clear BK185
         clear HB
         have HO192 := n0_
         have BK184 := n1_
         have BK185 := n2_
         have HB := n3_
         clear n0_ n1_ n2_ n3_
         (try clear hb)
         (try clear hb2)
         (try clear hk)
         (try clear hi)
         refine hK.out _ _ ⟨(blk_cell BK184.out 0).trans rfl, (blk_cell BK184.out 1).trans rfl, (blk_cell BK185.out 0).trans rfl, (blk_cell BK185.out 1).trans rfl⟩ (fun hHeld => ?_)
         clear hK K
         refine norm_ (a' := ?_) ?_ ?_
         rotate_left
         ·show Act.put _ (some 19) _ = _
          simp only [Act.put, List.setIfInBounds_toArray, List.set_cons_zero, List.set_cons_succ, i64_w, i32_w]
          rfl
         exact norm_ (by first | (simp only [putAll, Act.put, List.setIfInBounds_toArray, List.set_cons_zero, List.set_cons_succ]; done) | (simp only [putAll, Act.put, List.setIfInBounds_toArray, List.set_cons_zero, List.set_cons_succ]; rfl)) (hJ1_3_5_6 (.slice Ao27 t190.length co27) _ ⟨hHeld, (by (with_reducible repeat (first | apply Kd.R_alloc | apply Kd.R_drewN | apply Kd.R_drew)); exact HO192.out), (bz BK184.out), (bz BK185.out), (hz2 HB.out GE184.out GE185.out)⟩)
        ·skip
         refine box_step ?hg (N := 7) ?hd (cs := #[.int .i64 0, .int .i64 0]) (t := 24) ?hr ?_; (case hd => rfl); (case hg => rfl); (case hr => first | (go_simp; done) | (go_simp; rfl))
         intro gb195 hg w27 hbox hb
         have n0_ := Aside0.mk (Kd.R_below (by (with_reducible repeat (first | apply Kd.R_alloc | apply Kd.R_drewN | apply Kd.R_drew)); exact HO192.out) hb)
         have n1_ := Aside0.mk (blk_below (g := gb184) (o := .cells #[.int .i64 a0_0, .int .i64 a0_1] 23 (0, 0)) (bz BK184.out) hb)
         have n2_ := Aside0.mk (blk_below (g := gb185) (o := .cells #[.int .i64 a1_0, .int .i64 a1_1] 23 (0, 0)) (bz BK185.out) hb)
         have n3_ := Aside0.mk (below_step (hz2 HB.out GE184.out GE185.out) hb)
         have n4_ := Aside0.mk (hbox)
         have n5_ := Aside0.mk ((by rw [hg]; exact (below_size (hz2 HB.out GE184.out GE185.out)) : w.heap.size ≤ gb195))
         have n6_ := Aside0.mk ((by rw [hg]; exact (below_size (hz2 HB.out GE184.out GE185.out)) : w.heap.size ≤ gb195))
         have n7_ := Aside0.mk ((by rw [hg]; exact Nat.ne_of_lt (blk_lt (g := gb184) (o := .cells #[.int .i64 a0_0, .int .i64 a0_1] 23 (0, 0)) (bz BK184.out)) : gb184 ≠ gb195))
         have n8_ := Aside0.mk ((by rw [hg]; exact Nat.ne_of_gt (blk_lt (g := gb184) (o := .cells #[.int .i64 a0_0, .int .i64 a0_1] 23 (0, 0)) (bz BK184.out)) : gb195 ≠ gb184))
         have n9_ := Aside0.mk ((by rw [hg]; exact Nat.ne_of_lt (blk_lt (g := gb185) (o := .cells #[.int .i64 a1_0, .int .i64 a1_1] 23 (0, 0)) (bz BK185.out)) : gb185 ≠ gb195))
         have n10_ := Aside0.mk ((by rw [hg]; exact Nat.ne_of_gt (blk_lt (g := gb185) (o := .cells #[.int .i64 a1_0, .int .i64 a1_1] 23 (0, 0)) (bz BK185.out)) : gb195 ≠ gb185))
         clear HO192
         clear BK184
         clear BK185
         clear HB
         have HO192 := n0_
         have BK184 := n1_
         have BK185 := n2_
         have HB := n3_
         have BK195 := n4_
         have GW195 := n5_
         have GE195 := n6_
         have NB184_195 := n7_
         have NB195_184 := n8_
         have NB185_195 := n9_
         have NB195_185 := n10_
         clear n0_ n1_ n2_ n3_ n4_ n5_ n6_ n7_ n8_ n9_ n10_
         clear hb hbox hg
         refine hK.out _ _ ⟨(blk_cell BK184.out 0).trans rfl, (blk_cell BK184.out 1).trans rfl, (blk_cell BK185.out 0).trans rfl, (blk_cell BK185.out 1).trans rfl⟩ (fun hHeld => ?_)
         clear hK K
         refine norm_ (a' := ?_) ?_ ?_
         rotate_left
         ·show Act.put _ (some 7) _ = _
          simp only [Act.put, List.setIfInBounds_toArray, List.set_cons_zero, List.set_cons_succ, i64_w, i32_w]
          rfl
         exact norm_ (by first | (simp only [putAll, Act.put, List.setIfInBounds_toArray, List.set_cons_zero, List.set_cons_succ]; done) | (simp only [putAll, Act.put, List.setIfInBounds_toArray, List.set_cons_zero, List.set_cons_succ]; rfl)) (hJ1_3_5_7 ((.slice Ao27 t190.length co27 : Value), gb195) _ ⟨hHeld, (by (with_reducible repeat (first | apply Kd.R_alloc | apply Kd.R_drewN | apply Kd.R_drew)); exact HO192.out), (bz BK184.out), (bz BK185.out), (bz BK195.out), GW195.out, GE195.out, NB184_195.out, NB195_184.out, NB185_195.out, NB195_185.out, (hz3 HB.out GE184.out GE185.out GE195.out)⟩)
      ·skip
       rintro ⟨v191, gb195⟩ w27 ⟨hS_, h0_, h1_, h2_, h3_, h4_, h5_, h6_, h7_, h8_, h9_, h10_⟩
       have n0_ : Aside0 (Kd.R (Kd.int .i64) 3 w27 w.heap.size (fun _ => True) v191 t190) := ⟨h0_⟩
       have n1_ : Aside0 (w27.heap[gb184]? = some (.cells #[.int .i64 a0_0, .int .i64 a0_1] 23 (0, 0))) := ⟨h1_⟩
       have n2_ : Aside0 (w27.heap[gb185]? = some (.cells #[.int .i64 a1_0, .int .i64 a1_1] 23 (0, 0))) := ⟨h2_⟩
       have n3_ : Aside0 (w27.heap[gb195]? = some (.cells #[.int .i64 0, .int .i64 0] 24 (0, 0))) := ⟨h3_⟩
       have n4_ : Aside0 (w.heap.size ≤ gb195) := ⟨h4_⟩
       have n5_ : Aside0 (w.heap.size ≤ gb195) := ⟨h5_⟩
       have n6_ : Aside0 (gb184 ≠ gb195) := ⟨h6_⟩
       have n7_ : Aside0 (gb195 ≠ gb184) := ⟨h7_⟩
       have n8_ : Aside0 (gb185 ≠ gb195) := ⟨h8_⟩
       have n9_ : Aside0 (gb195 ≠ gb185) := ⟨h9_⟩
       have n10_ : Aside0 (Below w.heap.size w w27) := ⟨h10_⟩
       clear BK184
       clear BK185
       clear HB
       clear h0_ h1_ h2_ h3_ h4_ h5_ h6_ h7_ h8_ h9_ h10_
       have HO192 := n0_
       have BK184 := n1_
       have BK185 := n2_
       have BK195 := n3_
       have GW195 := n4_
       have GE195 := n5_
       have NB184_195 := n6_
       have NB195_184 := n7_
       have NB185_195 := n8_
       have NB195_185 := n9_
       have HB := n10_
       clear n0_ n1_ n2_ n3_ n4_ n5_ n6_ n7_ n8_ n9_ n10_
       have hHeld : w27.cell? ⟨gb184, 0, none⟩ = some (.int .i64 a0_0) ∧ w27.cell? ⟨gb184, 1, none⟩ = some (.int .i64 a0_1) ∧ w27.cell? ⟨gb185, 0, none⟩ = some (.int .i64 a1_0) ∧ w27.cell? ⟨gb185, 1, none⟩ = some (.int .i64 a1_1) := hS_
       obtain ⟨Ao28, co28, eo28⟩ := Kd.R_slice HO192.out
       (first | subst eo28 | (injection eo28 with f1_ f2_ f3_; have f4_ := f1_.symm; have f5_ := f3_.symm; clear f1_ f2_ f3_; subst f4_; subst f5_))
       refine norm_ (a' := ?_) ?_ ?_
       rotate_left
       ·simp only [putAll, Act.put, List.setIfInBounds_toArray, List.set_cons_zero, List.set_cons_succ]
        rfl
       refine one_ (i := 6) (N := some 19) #[true, true, true, true, true, true, true, true, false] rfl rfl (one_of HT_.out (by kernel_rfl)) (by decide) (fun K hK => ?_)
       refine goes_ Try.func21 (by kernel_rfl) rfl #[.agg #[.int .i64 t186, .int .i64 t187], .agg #[.int .i64 t188, .int .i64 t189], .slice Ao28 t190.length co28] (by rfl) rfl rfl mz ?_
       with_reducible refine (spec_RangeWiden.calls k t186 t187 t188 t189 _ _ t190 t193 t194 _ ?side1 ?side2 A10.out).mono ?_
       (case side1 => repeat (first | exact (Kd.R_reads' HO192.out).2.2 | (with_reducible refine Kd.C_alloc ?_ _) | (with_reducible refine Kd.C_drewN ?_ _) | (with_reducible refine Kd.C_drew ?_)))
       (case side2 => exact (Kd.R_reads' HO192.out).2.1)
       rintro e w29 ⟨rfl, hb⟩
       refine ⟨_, rfl, ?_⟩
       have n0_ := Aside0.mk (Kd.R_below (by (with_reducible repeat (first | apply Kd.R_alloc | apply Kd.R_drewN | apply Kd.R_drew)); exact HO192.out) hb)
       have n1_ := Aside0.mk (blk_below (g := gb184) (o := .cells #[.int .i64 a0_0, .int .i64 a0_1] 23 (0, 0)) (bz BK184.out) hb)
       have n2_ := Aside0.mk (blk_below (g := gb185) (o := .cells #[.int .i64 a1_0, .int .i64 a1_1] 23 (0, 0)) (bz BK185.out) hb)
       have n3_ := Aside0.mk (blk_below (g := gb195) (o := .cells #[.int .i64 0, .int .i64 0] 24 (0, 0)) (bz BK195.out) hb)
       have n4_ := Aside0.mk (below_step (hz3 HB.out GE184.out GE185.out GE195.out) hb)
       clear HO192
       clear BK184
       clear BK185
       clear BK195
       clear HB
       have HO192 := n0_
       have BK184 := n1_
       have BK185 := n2_
       have BK195 := n3_
       have HB := n4_
       clear n0_ n1_ n2_ n3_ n4_
       (try clear hb)
       (try clear hb2)
       (try clear hk)
       (try clear hi)
       refine hK.out _ _ ⟨(blk_cell BK184.out 0).trans rfl, (blk_cell BK184.out 1).trans rfl, (blk_cell BK185.out 0).trans rfl, (blk_cell BK185.out 1).trans rfl⟩ (fun hHeld => ?_)
       clear hK K
       refine norm_ (a' := ?_) ?_ ?_
       rotate_left
       ·show Act.put _ (some 19) _ = _
        simp only [Act.put, List.setIfInBounds_toArray, List.set_cons_zero, List.set_cons_succ, i64_w, i32_w]
        rfl
       exact norm_ (by first | (simp only [putAll, Act.put, List.setIfInBounds_toArray, List.set_cons_zero, List.set_cons_succ]; done) | (simp only [putAll, Act.put, List.setIfInBounds_toArray, List.set_cons_zero, List.set_cons_succ]; rfl)) (hJ1_3_5_6_7 (.slice Ao28 t190.length co28, gb195) _ ⟨hHeld, (by (with_reducible repeat (first | apply Kd.R_alloc | apply Kd.R_drewN | apply Kd.R_drew)); exact HO192.out), (bz BK184.out), (bz BK185.out), (bz BK195.out), GW195.out, GE195.out, NB184_195.out, NB195_184.out, NB185_195.out, NB195_185.out, (hz3 HB.out GE184.out GE185.out GE195.out)⟩)
     ·skip
      rintro v191 w28 ⟨hS_, h0_, h1_, h2_, h3_⟩
      have n0_ : Aside0 (Kd.R (Kd.int .i64) 3 w28 w.heap.size (fun _ => True) v191 t190) := ⟨h0_⟩
      have n1_ : Aside0 (w28.heap[gb184]? = some (.cells #[.int .i64 a0_0, .int .i64 a0_1] 23 (0, 0))) := ⟨h1_⟩
      have n2_ : Aside0 (w28.heap[gb185]? = some (.cells #[.int .i64 a1_0, .int .i64 a1_1] 23 (0, 0))) := ⟨h2_⟩
      have n3_ : Aside0 (Below w.heap.size w w28) := ⟨h3_⟩
      clear BK184
      clear BK185
      clear HB
      clear h0_ h1_ h2_ h3_
      have HO192 := n0_
      have BK184 := n1_
      have BK185 := n2_
      have HB := n3_
      clear n0_ n1_ n2_ n3_
      have hHeld : w28.cell? ⟨gb184, 0, none⟩ = some (.int .i64 a0_0) ∧ w28.cell? ⟨gb184, 1, none⟩ = some (.int .i64 a0_1) ∧ w28.cell? ⟨gb185, 0, none⟩ = some (.int .i64 a1_0) ∧ w28.cell? ⟨gb185, 1, none⟩ = some (.int .i64 a1_1) := hS_
      refine norm_ (a' := ?_) ?_ ?_
      rotate_left
      ·simp only [putAll, Act.put, List.setIfInBounds_toArray, List.set_cons_zero, List.set_cons_succ]
       rfl
      refine one_ (i := 7) (N := some 7) #[true, true, true, true, true, true, true, true, false] rfl rfl (one_of HT_.out (by kernel_rfl)) (by decide) (fun K hK => ?_)
      refine box_step ?hg (N := 7) ?hd (cs := #[.int .i64 0, .int .i64 0]) (t := 24) ?hr ?_; (case hd => rfl); (case hg => rfl); (case hr => first | (go_simp; done) | (go_simp; rfl))
      intro gb195 hg w29 hbox hb
      have n0_ := Aside0.mk (Kd.R_below (by (with_reducible repeat (first | apply Kd.R_alloc | apply Kd.R_drewN | apply Kd.R_drew)); exact HO192.out) hb)
      have n1_ := Aside0.mk (blk_below (g := gb184) (o := .cells #[.int .i64 a0_0, .int .i64 a0_1] 23 (0, 0)) (bz BK184.out) hb)
      have n2_ := Aside0.mk (blk_below (g := gb185) (o := .cells #[.int .i64 a1_0, .int .i64 a1_1] 23 (0, 0)) (bz BK185.out) hb)
      have n3_ := Aside0.mk (below_step (hz2 HB.out GE184.out GE185.out) hb)
      have n4_ := Aside0.mk (hbox)
      have n5_ := Aside0.mk ((by rw [hg]; exact (below_size (hz2 HB.out GE184.out GE185.out)) : w.heap.size ≤ gb195))
      have n6_ := Aside0.mk ((by rw [hg]; exact (below_size (hz2 HB.out GE184.out GE185.out)) : w.heap.size ≤ gb195))
      have n7_ := Aside0.mk ((by rw [hg]; exact Nat.ne_of_lt (blk_lt (g := gb184) (o := .cells #[.int .i64 a0_0, .int .i64 a0_1] 23 (0, 0)) (bz BK184.out)) : gb184 ≠ gb195))
      have n8_ := Aside0.mk ((by rw [hg]; exact Nat.ne_of_gt (blk_lt (g := gb184) (o := .cells #[.int .i64 a0_0, .int .i64 a0_1] 23 (0, 0)) (bz BK184.out)) : gb195 ≠ gb184))
      have n9_ := Aside0.mk ((by rw [hg]; exact Nat.ne_of_lt (blk_lt (g := gb185) (o := .cells #[.int .i64 a1_0, .int .i64 a1_1] 23 (0, 0)) (bz BK185.out)) : gb185 ≠ gb195))
      have n10_ := Aside0.mk ((by rw [hg]; exact Nat.ne_of_gt (blk_lt (g := gb185) (o := .cells #[.int .i64 a1_0, .int .i64 a1_1] 23 (0, 0)) (bz BK185.out)) : gb195 ≠ gb185))
      clear HO192
      clear BK184
      clear BK185
      clear HB
      have HO192 := n0_
      have BK184 := n1_
      have BK185 := n2_
      have HB := n3_
      have BK195 := n4_
      have GW195 := n5_
      have GE195 := n6_
      have NB184_195 := n7_
      have NB195_184 := n8_
      have NB185_195 := n9_
      have NB195_185 := n10_
      clear n0_ n1_ n2_ n3_ n4_ n5_ n6_ n7_ n8_ n9_ n10_
      clear hb hbox hg
      refine hK.out _ _ ⟨(blk_cell BK184.out 0).trans rfl, (blk_cell BK184.out 1).trans rfl, (blk_cell BK185.out 0).trans rfl, (blk_cell BK185.out 1).trans rfl⟩ (fun hHeld => ?_)
      clear hK K
      refine norm_ (a' := ?_) ?_ ?_
      rotate_left
      ·show Act.put _ (some 7) _ = _
       simp only [Act.put, List.setIfInBounds_toArray, List.set_cons_zero, List.set_cons_succ, i64_w, i32_w]
       rfl
      exact norm_ (by first | (simp only [putAll, Act.put, List.setIfInBounds_toArray, List.set_cons_zero, List.set_cons_succ]; done) | (simp only [putAll, Act.put, List.setIfInBounds_toArray, List.set_cons_zero, List.set_cons_succ]; rfl)) (hJ1_3_5_6_7 (v191, gb195) _ ⟨hHeld, (by (with_reducible repeat (first | apply Kd.R_alloc | apply Kd.R_drewN | apply Kd.R_drew)); exact HO192.out), (bz BK184.out), (bz BK185.out), (bz BK195.out), GW195.out, GE195.out, NB184_195.out, NB195_184.out, NB185_195.out, NB195_185.out, (hz3 HB.out GE184.out GE185.out GE195.out)⟩)
    rintro ⟨v191, gb195⟩ w29 ⟨hS_, h0_, h1_, h2_, h3_, h4_, h5_, h6_, h7_, h8_, h9_, h10_⟩
    have n0_ : Aside0 (Kd.R (Kd.int .i64) 3 w29 w.heap.size (fun _ => True) v191 t190) := ⟨h0_⟩
    have n1_ : Aside0 (w29.heap[gb184]? = some (.cells #[.int .i64 a0_0, .int .i64 a0_1] 23 (0, 0))) := ⟨h1_⟩
    have n2_ : Aside0 (w29.heap[gb185]? = some (.cells #[.int .i64 a1_0, .int .i64 a1_1] 23 (0, 0))) := ⟨h2_⟩
    have n3_ : Aside0 (w29.heap[gb195]? = some (.cells #[.int .i64 0, .int .i64 0] 24 (0, 0))) := ⟨h3_⟩
    have n4_ : Aside0 (w.heap.size ≤ gb195) := ⟨h4_⟩
    have n5_ : Aside0 (w.heap.size ≤ gb195) := ⟨h5_⟩
    have n6_ : Aside0 (gb184 ≠ gb195) := ⟨h6_⟩
    have n7_ : Aside0 (gb195 ≠ gb184) := ⟨h7_⟩
    have n8_ : Aside0 (gb185 ≠ gb195) := ⟨h8_⟩
    have n9_ : Aside0 (gb195 ≠ gb185) := ⟨h9_⟩
    have n10_ : Aside0 (Below w.heap.size w w29) := ⟨h10_⟩
    clear BK184
    clear BK185
    clear HB
    clear h0_ h1_ h2_ h3_ h4_ h5_ h6_ h7_ h8_ h9_ h10_
    have HO192 := n0_
    have BK184 := n1_
    have BK185 := n2_
    have BK195 := n3_
    have GW195 := n4_
    have GE195 := n5_
    have NB184_195 := n6_
    have NB195_184 := n7_
    have NB185_195 := n8_
    have NB195_185 := n9_
    have HB := n10_
    clear n0_ n1_ n2_ n3_ n4_ n5_ n6_ n7_ n8_ n9_ n10_
    have hHeld : w29.cell? ⟨gb184, 0, none⟩ = some (.int .i64 a0_0) ∧ w29.cell? ⟨gb184, 1, none⟩ = some (.int .i64 a0_1) ∧ w29.cell? ⟨gb185, 0, none⟩ = some (.int .i64 a1_0) ∧ w29.cell? ⟨gb185, 1, none⟩ = some (.int .i64 a1_1) := hS_
    refine norm_ (a' := ?_) ?_ ?_
    rotate_left
    ·simp only [putAll, Act.put, List.setIfInBounds_toArray, List.set_cons_zero, List.set_cons_succ]
     rfl
    refine one_ (i := 8) (N := none) #[true, true, true, true, true, true, true, true, true] rfl rfl (one_of HT_.out (by kernel_rfl)) (by decide) (fun K hK => ?_)
    have hs30 : w29.cell? ⟨gb195, 0, none⟩ = some (.int .i64 0) := (blk_cell BK195.out 0).trans rfl
    have hfs30 := blk_frozen BK195.out 0
    have hns30_0 := NB184_195.out
    have hns30_1 := NB185_195.out
    have hms30_0 := NB195_184.out
    have hms30_1 := NB195_185.out
    have hs31 : w29.cell? ⟨gb195, 1, none⟩ = some (.int .i64 0) := (blk_cell BK195.out 1).trans rfl
    have hfs31 := blk_frozen BK195.out 1
    have hns31_0 := NB184_195.out
    have hns31_1 := NB185_195.out
    have hms31_0 := NB195_184.out
    have hms31_1 := NB195_185.out
    refine skip_ (w1 := ?_) (by rfl) rfl ?_ ?_
    rotate_left
    ·go_simp
     rfl
    refine hK.out _ _ ⟨((cell_far (p := ⟨gb195, _, none⟩) NB184_195.out _).trans (((cell_far (p := ⟨gb195, _, none⟩) NB184_195.out _).trans (hHeld.1)))), ((cell_far (p := ⟨gb195, _, none⟩) NB184_195.out _).trans (((cell_far (p := ⟨gb195, _, none⟩) NB184_195.out _).trans (hHeld.2.1)))), ((cell_far (p := ⟨gb195, _, none⟩) NB185_195.out _).trans (((cell_far (p := ⟨gb195, _, none⟩) NB185_195.out _).trans (hHeld.2.2.1)))), ((cell_far (p := ⟨gb195, _, none⟩) NB185_195.out _).trans (((cell_far (p := ⟨gb195, _, none⟩) NB185_195.out _).trans (hHeld.2.2.2))))⟩ (fun hHeld => ?_)
    clear hK K
    refine done_ (done_of HT_.out (by kernel_rfl)) ?_
    try go_wp2_with (first | ((with_reducible refine gate_callee (f := 22) rfl ?_); refine goesL_ (some 21) rfl rfl Try.func22 (by kernel_rfl) rfl #[.slice A2 l2.length c2] rfl mz ?_; (with_reducible refine (laws_toIntS.calls k _ _ l2 t196 _ ?side1 ?side2 A11.out).mono ?_); (case side1 => exact Kd.C_below HR2.out (hz3 HB.out GE184.out GE185.out GE195.out)); (case side2 => exact HC2.out); rintro e w32 ⟨v197, rfl, ho0, hb⟩; refine ⟨_, rfl, ?_⟩; have n0_ := Aside0.mk (Kd.R_elder' (by (with_reducible repeat (first | apply Kd.R_alloc | apply Kd.R_drewN | apply Kd.R_drew)); exact (Kd.R_mono (Kd.R_far (p := ⟨gb195, 1, none⟩) (Kd.R_far (p := ⟨gb195, 0, none⟩) (Kd.R_types HO192.out BK195.out (by decide)) (fun _ hk => hk.2) (.int .i64 t193)) (fun _ hk => hk.2) (.int .i64 t194)) (fun _ h_ => h_.1))) (Kd.R_base ho0) hb); have n1_ := Aside0.mk (Kd.R_lower (Kd.R_new' ho0 (Kd.R_lt (by (with_reducible repeat (first | apply Kd.R_alloc | apply Kd.R_drewN | apply Kd.R_drew)); exact (Kd.R_mono (Kd.R_far (p := ⟨gb195, 1, none⟩) (Kd.R_far (p := ⟨gb195, 0, none⟩) (Kd.R_types HO192.out BK195.out (by decide)) (fun _ hk => hk.2) (.int .i64 t193)) (fun _ hk => hk.2) (.int .i64 t194)) (fun _ h_ => h_.1))))) (below_size (hz3 HB.out GE184.out GE185.out GE195.out))); have n2_ := Aside0.mk (blk_below (g := gb184) (o := .cells #[.int .i64 a0_0, .int .i64 a0_1] 23 (0, 0)) (by (with_reducible repeat (first | refine blk_drewN ?_ _ | refine blk_drew ?_ | refine blk_alloc ?_ _)); refine blk_far ?_ NB184_195.out _; (with_reducible repeat (first | refine blk_drewN ?_ _ | refine blk_drew ?_ | refine blk_alloc ?_ _)); refine blk_far ?_ NB184_195.out _; (with_reducible repeat (first | refine blk_drewN ?_ _ | refine blk_drew ?_ | refine blk_alloc ?_ _)); exact BK184.out) hb); have n3_ := Aside0.mk (blk_below (g := gb185) (o := .cells #[.int .i64 a1_0, .int .i64 a1_1] 23 (0, 0)) (by (with_reducible repeat (first | refine blk_drewN ?_ _ | refine blk_drew ?_ | refine blk_alloc ?_ _)); refine blk_far ?_ NB185_195.out _; (with_reducible repeat (first | refine blk_drewN ?_ _ | refine blk_drew ?_ | refine blk_alloc ?_ _)); refine blk_far ?_ NB185_195.out _; (with_reducible repeat (first | refine blk_drewN ?_ _ | refine blk_drew ?_ | refine blk_alloc ?_ _)); exact BK185.out) hb); have n4_ := Aside0.mk (blk_below (g := gb195) (o := .cells #[.int .i64 t193, .int .i64 t194] 24 (0, 0)) (by (with_reducible repeat (first | refine blk_drewN ?_ _ | refine blk_drew ?_ | refine blk_alloc ?_ _)); refine blk_put (cs := #[.int .i64 t193, .int .i64 0]) ?_ 1 _ rfl; (with_reducible repeat (first | refine blk_drewN ?_ _ | refine blk_drew ?_ | refine blk_alloc ?_ _)); refine blk_put (cs := #[.int .i64 0, .int .i64 0]) ?_ 0 _ rfl; (with_reducible repeat (first | refine blk_drewN ?_ _ | refine blk_drew ?_ | refine blk_alloc ?_ _)); exact BK195.out) hb); have n5_ := Aside0.mk (below_step (hz3 HB.out GE184.out GE185.out GE195.out) hb); clear HO192; clear BK184; clear BK185; clear BK195; clear HB; have HO192 := n0_; have HO198 := n1_; have BK184 := n2_; have BK185 := n3_; have BK195 := n4_; have HB := n5_; clear n0_ n1_ n2_ n3_ n4_ n5_; (try clear hb); (try clear hb2); (try clear hk); (try clear hi); (try clear ho0); obtain ⟨Ao33, co33, eo33⟩ := Kd.R_slice HO198.out; subst eo33))
    have n0_ := Aside0.mk (Kd.R_drew HO192.out)
    have n1_ := Aside0.mk (Kd.R_drew HO198.out)
    have n2_ := Aside0.mk (blk_drew BK184.out)
    have n3_ := Aside0.mk (blk_drew BK185.out)
    have n4_ := Aside0.mk (blk_drew BK195.out)
    have n5_ := Aside0.mk (below_drew1 HB.out)
    clear HO192
    clear HO198
    clear BK184
    clear BK185
    clear BK195
    clear HB
    have HO192 := n0_
    have HO198 := n1_
    have BK184 := n2_
    have BK185 := n3_
    have BK195 := n4_
    have HB := n5_
    clear n0_ n1_ n2_ n3_ n4_ n5_
    refine start_ (n := 8) (S := fun w' => w'.cell? ⟨gb184, 0, none⟩ = some (.int .i64 a0_0) ∧ w'.cell? ⟨gb184, 1, none⟩ = some (.int .i64 a0_1) ∧ w'.cell? ⟨gb185, 0, none⟩ = some (.int .i64 a1_0) ∧ w'.cell? ⟨gb185, 1, none⟩ = some (.int .i64 a1_1)) (ds := []) #[false, false, false, false, false, false, false, false] (by kernel_rfl) rfl rfl ⟨(blk_cell BK184.out 0).trans rfl, (blk_cell BK184.out 1).trans rfl, (blk_cell BK185.out 0).trans rfl, (blk_cell BK185.out 1).trans rfl⟩ (fun hHeld => ?_); refine with_tabW laws_FnExactRangeWiden.tab5 laws_FnExactRangeWiden.bits5 (fun HT_ HW_ => ?_)
    generalize w32.drew = w34 at HO192 HO198 BK184 BK185 BK195 HB hHeld ⊢
    refine pure_ (i := 4) (N := some 26) (v := ?_) (a' := ?_) #[false, false, false, false, true, false, false, false] rfl rfl (any_of HT_.out (by kernel_rfl)) (fun _ _ _ h => h) (Or.inl ⟨by rfl, ?_⟩) ?_ ?_
    rotate_left
    ·intro w'
     go_simp
     with_reducible rfl
    rotate_left
    ·exact pz
    refine take_ (i := 0) (N := some 22) (v := ?_) (a' := ?_) #[true, false, false, false, true, false, false, false] rfl rfl (take_ofW HT_.out HW_.out (by kernel_rfl)) (fun _ _ _ h => h) (Or.inl ⟨by rfl, ?_⟩) hHeld ?_ ?_
    rotate_left
    ·rintro w' ⟨s0, s1, s2, s3⟩
     go_simp
     with_reducible rfl
    rotate_left
    ·exact pz
    refine take_ (i := 2) (N := some 24) (v := ?_) (a' := ?_) #[true, false, true, false, true, false, false, false] rfl rfl (take_ofW HT_.out HW_.out (by kernel_rfl)) (fun _ _ _ h => h) (Or.inl ⟨by rfl, ?_⟩) hHeld ?_ ?_
    rotate_left
    ·rintro w' ⟨s0, s1, s2, s3⟩
     go_simp
     with_reducible rfl
    rotate_left
    ·exact pz
    refine join_ (σ := Nat) 1 #[true, true, true, true, true, true, true, false] (fun s_ => [(23, .agg #[.int .i64 t199, .int .i64 t200]), (25, .agg #[.int .i64 t201, .int .i64 t202]), (27, .agg #[.int .i64 t203, .int .i64 t204]), (9, .pointer (some ⟨s_, 0, none⟩))]) (fun s_ w' => (w'.cell? ⟨gb184, 0, none⟩ = some (.int .i64 a0_0) ∧ w'.cell? ⟨gb184, 1, none⟩ = some (.int .i64 a0_1) ∧ w'.cell? ⟨gb185, 0, none⟩ = some (.int .i64 a1_0) ∧ w'.cell? ⟨gb185, 1, none⟩ = some (.int .i64 a1_1)) ∧ (Kd.R (Kd.int .i64) 3 w' w.heap.size (fun k_ => some k_ ≠ (.slice Ao33 t196.length co33 : Value).ownBlock) v191 t190) ∧ (Kd.R (Kd.int .i64) 3 w' w.heap.size (fun k_ => some k_ ≠ (v191 : Value).ownBlock) (.slice Ao33 t196.length co33) t196) ∧ (w'.heap[gb184]? = some (.cells #[.int .i64 a0_0, .int .i64 a0_1] 23 (0, 0))) ∧ (w'.heap[gb185]? = some (.cells #[.int .i64 a1_0, .int .i64 a1_1] 23 (0, 0))) ∧ (w'.heap[gb195]? = some (.cells #[.int .i64 t193, .int .i64 t194] 24 (0, 0))) ∧ (w'.heap[s_]? = some (.cells #[.int .i64 0, .int .i64 0] 24 (0, 0))) ∧ (w.heap.size ≤ s_) ∧ (w.heap.size ≤ s_) ∧ (gb184 ≠ s_) ∧ (s_ ≠ gb184) ∧ (gb185 ≠ s_) ∧ (s_ ≠ gb185) ∧ (gb195 ≠ s_) ∧ (s_ ≠ gb195) ∧ (Below w.heap.size w w')) ?_ ?_
    rotate_left
    ·intro hCont
     refine two_ (i := 1) (j := 6) (Ni := some 23) (Nj := some 9) #[true, true, true, false, true, false, false, false] #[true, false, true, false, true, false, true, false] rfl rfl rfl rfl (two_of HT_.out (by kernel_rfl)) (by decide) (by decide) (fun K hK => ?_) (fun K hK => ?_)
     ·skip
      refine goes_ Try.func16 (by kernel_rfl) rfl #[.agg #[.int .i64 a0_0, .int .i64 a0_1]] (by rfl) rfl rfl mz ?_
      with_reducible refine (laws_toRange.calls a0_0 a0_1 t199 t200 _ A12.out).mono ?_
      rintro e w35 ⟨rfl, hb⟩
      refine ⟨_, rfl, ?_⟩
      have n0_ := Aside0.mk (Kd.R_below (by (with_reducible repeat (first | apply Kd.R_alloc | apply Kd.R_drewN | apply Kd.R_drew)); exact HO192.out) hb)
      have n1_ := Aside0.mk (Kd.R_below (by (with_reducible repeat (first | apply Kd.R_alloc | apply Kd.R_drewN | apply Kd.R_drew)); exact HO198.out) hb)
      have n2_ := Aside0.mk (blk_below (g := gb184) (o := .cells #[.int .i64 a0_0, .int .i64 a0_1] 23 (0, 0)) (bz BK184.out) hb)
      have n3_ := Aside0.mk (blk_below (g := gb185) (o := .cells #[.int .i64 a1_0, .int .i64 a1_1] 23 (0, 0)) (bz BK185.out) hb)
      have n4_ := Aside0.mk (blk_below (g := gb195) (o := .cells #[.int .i64 t193, .int .i64 t194] 24 (0, 0)) (bz BK195.out) hb)
      have n5_ := Aside0.mk (below_step (hz3 HB.out GE184.out GE185.out GE195.out) hb)
      clear HO192
      clear HO198
      clear BK184
      clear BK185
      clear BK195
      clear HB
      have HO192 := n0_
      have HO198 := n1_
      have BK184 := n2_
      have BK185 := n3_
      have BK195 := n4_
      have HB := n5_
      clear n0_ n1_ n2_ n3_ n4_ n5_
      (try clear hb)
      (try clear hb2)
      (try clear hk)
      (try clear hi)
      refine hK.out _ _ ⟨(blk_cell BK184.out 0).trans rfl, (blk_cell BK184.out 1).trans rfl, (blk_cell BK185.out 0).trans rfl, (blk_cell BK185.out 1).trans rfl⟩ (fun hHeld => ?_)
      clear hK K
      refine norm_ (a' := ?_) ?_ ?_
      rotate_left
      ·show Act.put _ (some 23) _ = _
       simp only [Act.put, List.setIfInBounds_toArray, List.set_cons_zero, List.set_cons_succ, i64_w, i32_w]
       rfl
      refine two_ (i := 3) (j := 6) (Ni := some 25) (Nj := some 9) #[true, true, true, true, true, false, false, false] #[true, true, true, false, true, false, true, false] rfl rfl rfl rfl (two_of HT_.out (by kernel_rfl)) (by decide) (by decide) (fun K hK => ?_) (fun K hK => ?_)
      ·skip
       refine goes_ Try.func16 (by kernel_rfl) rfl #[.agg #[.int .i64 a1_0, .int .i64 a1_1]] (by rfl) rfl rfl mz ?_
       with_reducible refine (laws_toRange.calls a1_0 a1_1 t201 t202 _ A13.out).mono ?_
       rintro e w36 ⟨rfl, hb⟩
       refine ⟨_, rfl, ?_⟩
       have n0_ := Aside0.mk (Kd.R_below (by (with_reducible repeat (first | apply Kd.R_alloc | apply Kd.R_drewN | apply Kd.R_drew)); exact HO192.out) hb)
       have n1_ := Aside0.mk (Kd.R_below (by (with_reducible repeat (first | apply Kd.R_alloc | apply Kd.R_drewN | apply Kd.R_drew)); exact HO198.out) hb)
       have n2_ := Aside0.mk (blk_below (g := gb184) (o := .cells #[.int .i64 a0_0, .int .i64 a0_1] 23 (0, 0)) (bz BK184.out) hb)
       have n3_ := Aside0.mk (blk_below (g := gb185) (o := .cells #[.int .i64 a1_0, .int .i64 a1_1] 23 (0, 0)) (bz BK185.out) hb)
       have n4_ := Aside0.mk (blk_below (g := gb195) (o := .cells #[.int .i64 t193, .int .i64 t194] 24 (0, 0)) (bz BK195.out) hb)
       have n5_ := Aside0.mk (below_step (hz3 HB.out GE184.out GE185.out GE195.out) hb)
       clear HO192
       clear HO198
       clear BK184
       clear BK185
       clear BK195
       clear HB
       have HO192 := n0_
       have HO198 := n1_
       have BK184 := n2_
       have BK185 := n3_
       have BK195 := n4_
       have HB := n5_
       clear n0_ n1_ n2_ n3_ n4_ n5_
       (try clear hb)
       (try clear hb2)
       (try clear hk)
       (try clear hi)
       refine hK.out _ _ ⟨(blk_cell BK184.out 0).trans rfl, (blk_cell BK184.out 1).trans rfl, (blk_cell BK185.out 0).trans rfl, (blk_cell BK185.out 1).trans rfl⟩ (fun hHeld => ?_)
       clear hK K
       refine norm_ (a' := ?_) ?_ ?_
       rotate_left
       ·show Act.put _ (some 25) _ = _
        simp only [Act.put, List.setIfInBounds_toArray, List.set_cons_zero, List.set_cons_succ, i64_w, i32_w]
        rfl
       refine two_ (i := 5) (j := 6) (Ni := some 27) (Nj := some 9) #[true, true, true, true, true, true, false, false] #[true, true, true, true, true, false, true, false] rfl rfl rfl rfl (two_of HT_.out (by kernel_rfl)) (by decide) (by decide) (fun K hK => ?_) (fun K hK => ?_)
       ·skip
        refine goes_ Try.func23 (by kernel_rfl) rfl #[.agg #[.int .i64 t199, .int .i64 t200], .agg #[.int .i64 t201, .int .i64 t202], .slice Ao33 t196.length co33] (by rfl) rfl rfl mz ?_
        with_reducible refine (impl_RangeWiden.calls k t199 t200 t201 t202 _ _ t196 t203 t204 _ ?side1 ?side2 A14.out).mono ?_
        (case side1 => repeat (first | exact (Kd.R_reads' HO198.out).2.2 | (with_reducible refine Kd.C_alloc ?_ _) | (with_reducible refine Kd.C_drewN ?_ _) | (with_reducible refine Kd.C_drew ?_)))
        (case side2 => exact (Kd.R_reads' HO198.out).2.1)
        rintro e w37 ⟨rfl, hb⟩
        refine ⟨_, rfl, ?_⟩
        have n0_ := Aside0.mk (Kd.R_below (by (with_reducible repeat (first | apply Kd.R_alloc | apply Kd.R_drewN | apply Kd.R_drew)); exact HO192.out) hb)
        have n1_ := Aside0.mk (Kd.R_below (by (with_reducible repeat (first | apply Kd.R_alloc | apply Kd.R_drewN | apply Kd.R_drew)); exact HO198.out) hb)
        have n2_ := Aside0.mk (blk_below (g := gb184) (o := .cells #[.int .i64 a0_0, .int .i64 a0_1] 23 (0, 0)) (bz BK184.out) hb)
        have n3_ := Aside0.mk (blk_below (g := gb185) (o := .cells #[.int .i64 a1_0, .int .i64 a1_1] 23 (0, 0)) (bz BK185.out) hb)
        have n4_ := Aside0.mk (blk_below (g := gb195) (o := .cells #[.int .i64 t193, .int .i64 t194] 24 (0, 0)) (bz BK195.out) hb)
        have n5_ := Aside0.mk (below_step (hz3 HB.out GE184.out GE185.out GE195.out) hb)
        clear HO192
        clear HO198
        clear BK184
        clear BK185
        clear BK195
        clear HB
        have HO192 := n0_
        have HO198 := n1_
        have BK184 := n2_
        have BK185 := n3_
        have BK195 := n4_
        have HB := n5_
        clear n0_ n1_ n2_ n3_ n4_ n5_
        (try clear hb)
        (try clear hb2)
        (try clear hk)
        (try clear hi)
        refine hK.out _ _ ⟨(blk_cell BK184.out 0).trans rfl, (blk_cell BK184.out 1).trans rfl, (blk_cell BK185.out 0).trans rfl, (blk_cell BK185.out 1).trans rfl⟩ (fun hHeld => ?_)
        clear hK K
        refine norm_ (a' := ?_) ?_ ?_
        rotate_left
        ·show Act.put _ (some 27) _ = _
         simp only [Act.put, List.setIfInBounds_toArray, List.set_cons_zero, List.set_cons_succ, i64_w, i32_w]
         rfl
        refine one_ (i := 6) (N := some 9) #[true, true, true, true, true, true, true, false] rfl rfl (one_of HT_.out (by kernel_rfl)) (by decide) (fun K hK => ?_)
        refine box_step ?hg (N := 9) ?hd (cs := #[.int .i64 0, .int .i64 0]) (t := 24) ?hr ?_; (case hd => rfl); (case hg => rfl); (case hr => first | (go_simp; done) | (go_simp; rfl))
        intro gb205 hg w38 hbox hb
        have n0_ := Aside0.mk (Kd.R_below (by (with_reducible repeat (first | apply Kd.R_alloc | apply Kd.R_drewN | apply Kd.R_drew)); exact HO192.out) hb)
        have n1_ := Aside0.mk (Kd.R_below (by (with_reducible repeat (first | apply Kd.R_alloc | apply Kd.R_drewN | apply Kd.R_drew)); exact HO198.out) hb)
        have n2_ := Aside0.mk (blk_below (g := gb184) (o := .cells #[.int .i64 a0_0, .int .i64 a0_1] 23 (0, 0)) (bz BK184.out) hb)
        have n3_ := Aside0.mk (blk_below (g := gb185) (o := .cells #[.int .i64 a1_0, .int .i64 a1_1] 23 (0, 0)) (bz BK185.out) hb)
        have n4_ := Aside0.mk (blk_below (g := gb195) (o := .cells #[.int .i64 t193, .int .i64 t194] 24 (0, 0)) (bz BK195.out) hb)
        have n5_ := Aside0.mk (below_step (hz3 HB.out GE184.out GE185.out GE195.out) hb)
        have n6_ := Aside0.mk (hbox)
        have n7_ := Aside0.mk ((by rw [hg]; exact (below_size (hz3 HB.out GE184.out GE185.out GE195.out)) : w.heap.size ≤ gb205))
        have n8_ := Aside0.mk ((by rw [hg]; exact (below_size (hz3 HB.out GE184.out GE185.out GE195.out)) : w.heap.size ≤ gb205))
        have n9_ := Aside0.mk ((by rw [hg]; exact Nat.ne_of_lt (blk_lt (g := gb184) (o := .cells #[.int .i64 a0_0, .int .i64 a0_1] 23 (0, 0)) (bz BK184.out)) : gb184 ≠ gb205))
        have n10_ := Aside0.mk ((by rw [hg]; exact Nat.ne_of_gt (blk_lt (g := gb184) (o := .cells #[.int .i64 a0_0, .int .i64 a0_1] 23 (0, 0)) (bz BK184.out)) : gb205 ≠ gb184))
        have n11_ := Aside0.mk ((by rw [hg]; exact Nat.ne_of_lt (blk_lt (g := gb185) (o := .cells #[.int .i64 a1_0, .int .i64 a1_1] 23 (0, 0)) (bz BK185.out)) : gb185 ≠ gb205))
        have n12_ := Aside0.mk ((by rw [hg]; exact Nat.ne_of_gt (blk_lt (g := gb185) (o := .cells #[.int .i64 a1_0, .int .i64 a1_1] 23 (0, 0)) (bz BK185.out)) : gb205 ≠ gb185))
        have n13_ := Aside0.mk ((by rw [hg]; exact Nat.ne_of_lt (blk_lt (g := gb195) (o := .cells #[.int .i64 t193, .int .i64 t194] 24 (0, 0)) (bz BK195.out)) : gb195 ≠ gb205))
        have n14_ := Aside0.mk ((by rw [hg]; exact Nat.ne_of_gt (blk_lt (g := gb195) (o := .cells #[.int .i64 t193, .int .i64 t194] 24 (0, 0)) (bz BK195.out)) : gb205 ≠ gb195))
        clear HO192
        clear HO198
        clear BK184
        clear BK185
        clear BK195
        clear HB
        have HO192 := n0_
        have HO198 := n1_
        have BK184 := n2_
        have BK185 := n3_
        have BK195 := n4_
        have HB := n5_
        have BK205 := n6_
        have GW205 := n7_
        have GE205 := n8_
        have NB184_205 := n9_
        have NB205_184 := n10_
        have NB185_205 := n11_
        have NB205_185 := n12_
        have NB195_205 := n13_
        have NB205_195 := n14_
        clear n0_ n1_ n2_ n3_ n4_ n5_ n6_ n7_ n8_ n9_ n10_ n11_ n12_ n13_ n14_
        clear hb hbox hg
        refine hK.out _ _ ⟨(blk_cell BK184.out 0).trans rfl, (blk_cell BK184.out 1).trans rfl, (blk_cell BK185.out 0).trans rfl, (blk_cell BK185.out 1).trans rfl⟩ (fun hHeld => ?_)
        clear hK K
        refine norm_ (a' := ?_) ?_ ?_
        rotate_left
        ·show Act.put _ (some 9) _ = _
         simp only [Act.put, List.setIfInBounds_toArray, List.set_cons_zero, List.set_cons_succ, i64_w, i32_w]
         rfl
        exact norm_ (by simp only [putAll, Act.put, List.setIfInBounds_toArray, List.set_cons_zero, List.set_cons_succ]) (hCont (gb205) _ ⟨hHeld, (by (with_reducible repeat (first | apply Kd.R_alloc | apply Kd.R_drewN | apply Kd.R_drew)); exact Kd.R_mono HO192.out (fun _ hk => hk.2)), (by (with_reducible repeat (first | apply Kd.R_alloc | apply Kd.R_drewN | apply Kd.R_drew)); exact Kd.R_mono HO198.out (fun _ hk => hk.2)), (bz BK184.out), (bz BK185.out), (bz BK195.out), (bz BK205.out), GW205.out, GE205.out, NB184_205.out, NB205_184.out, NB185_205.out, NB205_185.out, NB195_205.out, NB205_195.out, (hz4 HB.out GE184.out GE185.out GE195.out GE205.out)⟩)
       ·skip
        refine box_step ?hg (N := 9) ?hd (cs := #[.int .i64 0, .int .i64 0]) (t := 24) ?hr ?_; (case hd => rfl); (case hg => rfl); (case hr => first | (go_simp; done) | (go_simp; rfl))
        intro gb205 hg w37 hbox hb
        have n0_ := Aside0.mk (Kd.R_below (by (with_reducible repeat (first | apply Kd.R_alloc | apply Kd.R_drewN | apply Kd.R_drew)); exact HO192.out) hb)
        have n1_ := Aside0.mk (Kd.R_below (by (with_reducible repeat (first | apply Kd.R_alloc | apply Kd.R_drewN | apply Kd.R_drew)); exact HO198.out) hb)
        have n2_ := Aside0.mk (blk_below (g := gb184) (o := .cells #[.int .i64 a0_0, .int .i64 a0_1] 23 (0, 0)) (bz BK184.out) hb)
        have n3_ := Aside0.mk (blk_below (g := gb185) (o := .cells #[.int .i64 a1_0, .int .i64 a1_1] 23 (0, 0)) (bz BK185.out) hb)
        have n4_ := Aside0.mk (blk_below (g := gb195) (o := .cells #[.int .i64 t193, .int .i64 t194] 24 (0, 0)) (bz BK195.out) hb)
        have n5_ := Aside0.mk (below_step (hz3 HB.out GE184.out GE185.out GE195.out) hb)
        have n6_ := Aside0.mk (hbox)
        have n7_ := Aside0.mk ((by rw [hg]; exact (below_size (hz3 HB.out GE184.out GE185.out GE195.out)) : w.heap.size ≤ gb205))
        have n8_ := Aside0.mk ((by rw [hg]; exact (below_size (hz3 HB.out GE184.out GE185.out GE195.out)) : w.heap.size ≤ gb205))
        have n9_ := Aside0.mk ((by rw [hg]; exact Nat.ne_of_lt (blk_lt (g := gb184) (o := .cells #[.int .i64 a0_0, .int .i64 a0_1] 23 (0, 0)) (bz BK184.out)) : gb184 ≠ gb205))
        have n10_ := Aside0.mk ((by rw [hg]; exact Nat.ne_of_gt (blk_lt (g := gb184) (o := .cells #[.int .i64 a0_0, .int .i64 a0_1] 23 (0, 0)) (bz BK184.out)) : gb205 ≠ gb184))
        have n11_ := Aside0.mk ((by rw [hg]; exact Nat.ne_of_lt (blk_lt (g := gb185) (o := .cells #[.int .i64 a1_0, .int .i64 a1_1] 23 (0, 0)) (bz BK185.out)) : gb185 ≠ gb205))
        have n12_ := Aside0.mk ((by rw [hg]; exact Nat.ne_of_gt (blk_lt (g := gb185) (o := .cells #[.int .i64 a1_0, .int .i64 a1_1] 23 (0, 0)) (bz BK185.out)) : gb205 ≠ gb185))
        have n13_ := Aside0.mk ((by rw [hg]; exact Nat.ne_of_lt (blk_lt (g := gb195) (o := .cells #[.int .i64 t193, .int .i64 t194] 24 (0, 0)) (bz BK195.out)) : gb195 ≠ gb205))
        have n14_ := Aside0.mk ((by rw [hg]; exact Nat.ne_of_gt (blk_lt (g := gb195) (o := .cells #[.int .i64 t193, .int .i64 t194] 24 (0, 0)) (bz BK195.out)) : gb205 ≠ gb195))
        clear HO192
        clear HO198
        clear BK184
        clear BK185
        clear BK195
        clear HB
        have HO192 := n0_
        have HO198 := n1_
        have BK184 := n2_
        have BK185 := n3_
        have BK195 := n4_
        have HB := n5_
        have BK205 := n6_
        have GW205 := n7_
        have GE205 := n8_
        have NB184_205 := n9_
        have NB205_184 := n10_
        have NB185_205 := n11_
        have NB205_185 := n12_
        have NB195_205 := n13_
        have NB205_195 := n14_
        clear n0_ n1_ n2_ n3_ n4_ n5_ n6_ n7_ n8_ n9_ n10_ n11_ n12_ n13_ n14_
        clear hb hbox hg
        refine hK.out _ _ ⟨(blk_cell BK184.out 0).trans rfl, (blk_cell BK184.out 1).trans rfl, (blk_cell BK185.out 0).trans rfl, (blk_cell BK185.out 1).trans rfl⟩ (fun hHeld => ?_)
        clear hK K
        refine norm_ (a' := ?_) ?_ ?_
        rotate_left
        ·show Act.put _ (some 9) _ = _
         simp only [Act.put, List.setIfInBounds_toArray, List.set_cons_zero, List.set_cons_succ, i64_w, i32_w]
         rfl
        refine one_ (i := 5) (N := some 27) #[true, true, true, true, true, true, true, false] rfl rfl (one_of HT_.out (by kernel_rfl)) (by decide) (fun K hK => ?_)
        refine goes_ Try.func23 (by kernel_rfl) rfl #[.agg #[.int .i64 t199, .int .i64 t200], .agg #[.int .i64 t201, .int .i64 t202], .slice Ao33 t196.length co33] (by rfl) rfl rfl mz ?_
        with_reducible refine (impl_RangeWiden.calls k t199 t200 t201 t202 _ _ t196 t203 t204 _ ?side1 ?side2 A14.out).mono ?_
        (case side1 => repeat (first | exact (Kd.R_reads' HO198.out).2.2 | (with_reducible refine Kd.C_alloc ?_ _) | (with_reducible refine Kd.C_drewN ?_ _) | (with_reducible refine Kd.C_drew ?_)))
        (case side2 => exact (Kd.R_reads' HO198.out).2.1)
        rintro e w38 ⟨rfl, hb⟩
        refine ⟨_, rfl, ?_⟩
        have n0_ := Aside0.mk (Kd.R_below (by (with_reducible repeat (first | apply Kd.R_alloc | apply Kd.R_drewN | apply Kd.R_drew)); exact HO192.out) hb)
        have n1_ := Aside0.mk (Kd.R_below (by (with_reducible repeat (first | apply Kd.R_alloc | apply Kd.R_drewN | apply Kd.R_drew)); exact HO198.out) hb)
        have n2_ := Aside0.mk (blk_below (g := gb184) (o := .cells #[.int .i64 a0_0, .int .i64 a0_1] 23 (0, 0)) (bz BK184.out) hb)
        have n3_ := Aside0.mk (blk_below (g := gb185) (o := .cells #[.int .i64 a1_0, .int .i64 a1_1] 23 (0, 0)) (bz BK185.out) hb)
        have n4_ := Aside0.mk (blk_below (g := gb195) (o := .cells #[.int .i64 t193, .int .i64 t194] 24 (0, 0)) (bz BK195.out) hb)
        have n5_ := Aside0.mk (blk_below (g := gb205) (o := .cells #[.int .i64 0, .int .i64 0] 24 (0, 0)) (bz BK205.out) hb)
        have n6_ := Aside0.mk (below_step (hz4 HB.out GE184.out GE185.out GE195.out GE205.out) hb)
        clear HO192
        clear HO198
        clear BK184
        clear BK185
        clear BK195
        clear BK205
        clear HB
        have HO192 := n0_
        have HO198 := n1_
        have BK184 := n2_
        have BK185 := n3_
        have BK195 := n4_
        have BK205 := n5_
        have HB := n6_
        clear n0_ n1_ n2_ n3_ n4_ n5_ n6_
        (try clear hb)
        (try clear hb2)
        (try clear hk)
        (try clear hi)
        refine hK.out _ _ ⟨(blk_cell BK184.out 0).trans rfl, (blk_cell BK184.out 1).trans rfl, (blk_cell BK185.out 0).trans rfl, (blk_cell BK185.out 1).trans rfl⟩ (fun hHeld => ?_)
        clear hK K
        refine norm_ (a' := ?_) ?_ ?_
        rotate_left
        ·show Act.put _ (some 27) _ = _
         simp only [Act.put, List.setIfInBounds_toArray, List.set_cons_zero, List.set_cons_succ, i64_w, i32_w]
         rfl
        exact norm_ (by simp only [putAll, Act.put, List.setIfInBounds_toArray, List.set_cons_zero, List.set_cons_succ]) (hCont (gb205) _ ⟨hHeld, (by (with_reducible repeat (first | apply Kd.R_alloc | apply Kd.R_drewN | apply Kd.R_drew)); exact Kd.R_mono HO192.out (fun _ hk => hk.2)), (by (with_reducible repeat (first | apply Kd.R_alloc | apply Kd.R_drewN | apply Kd.R_drew)); exact Kd.R_mono HO198.out (fun _ hk => hk.2)), (bz BK184.out), (bz BK185.out), (bz BK195.out), (bz BK205.out), GW205.out, GE205.out, NB184_205.out, NB205_184.out, NB185_205.out, NB205_185.out, NB195_205.out, NB205_195.out, (hz4 HB.out GE184.out GE185.out GE195.out GE205.out)⟩)
      ·skip
       refine box_step ?hg (N := 9) ?hd (cs := #[.int .i64 0, .int .i64 0]) (t := 24) ?hr ?_; (case hd => rfl); (case hg => rfl); (case hr => first | (go_simp; done) | (go_simp; rfl))
       intro gb205 hg w36 hbox hb
       have n0_ := Aside0.mk (Kd.R_below (by (with_reducible repeat (first | apply Kd.R_alloc | apply Kd.R_drewN | apply Kd.R_drew)); exact HO192.out) hb)
       have n1_ := Aside0.mk (Kd.R_below (by (with_reducible repeat (first | apply Kd.R_alloc | apply Kd.R_drewN | apply Kd.R_drew)); exact HO198.out) hb)
       have n2_ := Aside0.mk (blk_below (g := gb184) (o := .cells #[.int .i64 a0_0, .int .i64 a0_1] 23 (0, 0)) (bz BK184.out) hb)
       have n3_ := Aside0.mk (blk_below (g := gb185) (o := .cells #[.int .i64 a1_0, .int .i64 a1_1] 23 (0, 0)) (bz BK185.out) hb)
       have n4_ := Aside0.mk (blk_below (g := gb195) (o := .cells #[.int .i64 t193, .int .i64 t194] 24 (0, 0)) (bz BK195.out) hb)
       have n5_ := Aside0.mk (below_step (hz3 HB.out GE184.out GE185.out GE195.out) hb)
       have n6_ := Aside0.mk (hbox)
       have n7_ := Aside0.mk ((by rw [hg]; exact (below_size (hz3 HB.out GE184.out GE185.out GE195.out)) : w.heap.size ≤ gb205))
       have n8_ := Aside0.mk ((by rw [hg]; exact (below_size (hz3 HB.out GE184.out GE185.out GE195.out)) : w.heap.size ≤ gb205))
       have n9_ := Aside0.mk ((by rw [hg]; exact Nat.ne_of_lt (blk_lt (g := gb184) (o := .cells #[.int .i64 a0_0, .int .i64 a0_1] 23 (0, 0)) (bz BK184.out)) : gb184 ≠ gb205))
       have n10_ := Aside0.mk ((by rw [hg]; exact Nat.ne_of_gt (blk_lt (g := gb184) (o := .cells #[.int .i64 a0_0, .int .i64 a0_1] 23 (0, 0)) (bz BK184.out)) : gb205 ≠ gb184))
       have n11_ := Aside0.mk ((by rw [hg]; exact Nat.ne_of_lt (blk_lt (g := gb185) (o := .cells #[.int .i64 a1_0, .int .i64 a1_1] 23 (0, 0)) (bz BK185.out)) : gb185 ≠ gb205))
       have n12_ := Aside0.mk ((by rw [hg]; exact Nat.ne_of_gt (blk_lt (g := gb185) (o := .cells #[.int .i64 a1_0, .int .i64 a1_1] 23 (0, 0)) (bz BK185.out)) : gb205 ≠ gb185))
       have n13_ := Aside0.mk ((by rw [hg]; exact Nat.ne_of_lt (blk_lt (g := gb195) (o := .cells #[.int .i64 t193, .int .i64 t194] 24 (0, 0)) (bz BK195.out)) : gb195 ≠ gb205))
       have n14_ := Aside0.mk ((by rw [hg]; exact Nat.ne_of_gt (blk_lt (g := gb195) (o := .cells #[.int .i64 t193, .int .i64 t194] 24 (0, 0)) (bz BK195.out)) : gb205 ≠ gb195))
       clear HO192
       clear HO198
       clear BK184
       clear BK185
       clear BK195
       clear HB
       have HO192 := n0_
       have HO198 := n1_
       have BK184 := n2_
       have BK185 := n3_
       have BK195 := n4_
       have HB := n5_
       have BK205 := n6_
       have GW205 := n7_
       have GE205 := n8_
       have NB184_205 := n9_
       have NB205_184 := n10_
       have NB185_205 := n11_
       have NB205_185 := n12_
       have NB195_205 := n13_
       have NB205_195 := n14_
       clear n0_ n1_ n2_ n3_ n4_ n5_ n6_ n7_ n8_ n9_ n10_ n11_ n12_ n13_ n14_
       clear hb hbox hg
       refine hK.out _ _ ⟨(blk_cell BK184.out 0).trans rfl, (blk_cell BK184.out 1).trans rfl, (blk_cell BK185.out 0).trans rfl, (blk_cell BK185.out 1).trans rfl⟩ (fun hHeld => ?_)
       clear hK K
       refine norm_ (a' := ?_) ?_ ?_
       rotate_left
       ·show Act.put _ (some 9) _ = _
        simp only [Act.put, List.setIfInBounds_toArray, List.set_cons_zero, List.set_cons_succ, i64_w, i32_w]
        rfl
       refine one_ (i := 3) (N := some 25) #[true, true, true, true, true, false, true, false] rfl rfl (one_of HT_.out (by kernel_rfl)) (by decide) (fun K hK => ?_)
       refine goes_ Try.func16 (by kernel_rfl) rfl #[.agg #[.int .i64 a1_0, .int .i64 a1_1]] (by rfl) rfl rfl mz ?_
       with_reducible refine (laws_toRange.calls a1_0 a1_1 t201 t202 _ A13.out).mono ?_
       rintro e w37 ⟨rfl, hb⟩
       refine ⟨_, rfl, ?_⟩
       have n0_ := Aside0.mk (Kd.R_below (by (with_reducible repeat (first | apply Kd.R_alloc | apply Kd.R_drewN | apply Kd.R_drew)); exact HO192.out) hb)
       have n1_ := Aside0.mk (Kd.R_below (by (with_reducible repeat (first | apply Kd.R_alloc | apply Kd.R_drewN | apply Kd.R_drew)); exact HO198.out) hb)
       have n2_ := Aside0.mk (blk_below (g := gb184) (o := .cells #[.int .i64 a0_0, .int .i64 a0_1] 23 (0, 0)) (bz BK184.out) hb)
       have n3_ := Aside0.mk (blk_below (g := gb185) (o := .cells #[.int .i64 a1_0, .int .i64 a1_1] 23 (0, 0)) (bz BK185.out) hb)
       have n4_ := Aside0.mk (blk_below (g := gb195) (o := .cells #[.int .i64 t193, .int .i64 t194] 24 (0, 0)) (bz BK195.out) hb)
       have n5_ := Aside0.mk (blk_below (g := gb205) (o := .cells #[.int .i64 0, .int .i64 0] 24 (0, 0)) (bz BK205.out) hb)
       have n6_ := Aside0.mk (below_step (hz4 HB.out GE184.out GE185.out GE195.out GE205.out) hb)
       clear HO192
       clear HO198
       clear BK184
       clear BK185
       clear BK195
       clear BK205
       clear HB
       have HO192 := n0_
       have HO198 := n1_
       have BK184 := n2_
       have BK185 := n3_
       have BK195 := n4_
       have BK205 := n5_
       have HB := n6_
       clear n0_ n1_ n2_ n3_ n4_ n5_ n6_
       (try clear hb)
       (try clear hb2)
       (try clear hk)
       (try clear hi)
       refine hK.out _ _ ⟨(blk_cell BK184.out 0).trans rfl, (blk_cell BK184.out 1).trans rfl, (blk_cell BK185.out 0).trans rfl, (blk_cell BK185.out 1).trans rfl⟩ (fun hHeld => ?_)
       clear hK K
       refine norm_ (a' := ?_) ?_ ?_
       rotate_left
       ·show Act.put _ (some 25) _ = _
        simp only [Act.put, List.setIfInBounds_toArray, List.set_cons_zero, List.set_cons_succ, i64_w, i32_w]
        rfl
       refine one_ (i := 5) (N := some 27) #[true, true, true, true, true, true, true, false] rfl rfl (one_of HT_.out (by kernel_rfl)) (by decide) (fun K hK => ?_)
       refine goes_ Try.func23 (by kernel_rfl) rfl #[.agg #[.int .i64 t199, .int .i64 t200], .agg #[.int .i64 t201, .int .i64 t202], .slice Ao33 t196.length co33] (by rfl) rfl rfl mz ?_
       with_reducible refine (impl_RangeWiden.calls k t199 t200 t201 t202 _ _ t196 t203 t204 _ ?side1 ?side2 A14.out).mono ?_
       (case side1 => repeat (first | exact (Kd.R_reads' HO198.out).2.2 | (with_reducible refine Kd.C_alloc ?_ _) | (with_reducible refine Kd.C_drewN ?_ _) | (with_reducible refine Kd.C_drew ?_)))
       (case side2 => exact (Kd.R_reads' HO198.out).2.1)
       rintro e w38 ⟨rfl, hb⟩
       refine ⟨_, rfl, ?_⟩
       have n0_ := Aside0.mk (Kd.R_below (by (with_reducible repeat (first | apply Kd.R_alloc | apply Kd.R_drewN | apply Kd.R_drew)); exact HO192.out) hb)
       have n1_ := Aside0.mk (Kd.R_below (by (with_reducible repeat (first | apply Kd.R_alloc | apply Kd.R_drewN | apply Kd.R_drew)); exact HO198.out) hb)
       have n2_ := Aside0.mk (blk_below (g := gb184) (o := .cells #[.int .i64 a0_0, .int .i64 a0_1] 23 (0, 0)) (bz BK184.out) hb)
       have n3_ := Aside0.mk (blk_below (g := gb185) (o := .cells #[.int .i64 a1_0, .int .i64 a1_1] 23 (0, 0)) (bz BK185.out) hb)
       have n4_ := Aside0.mk (blk_below (g := gb195) (o := .cells #[.int .i64 t193, .int .i64 t194] 24 (0, 0)) (bz BK195.out) hb)
       have n5_ := Aside0.mk (blk_below (g := gb205) (o := .cells #[.int .i64 0, .int .i64 0] 24 (0, 0)) (bz BK205.out) hb)
       have n6_ := Aside0.mk (below_step (hz4 HB.out GE184.out GE185.out GE195.out GE205.out) hb)
       clear HO192
       clear HO198
       clear BK184
       clear BK185
       clear BK195
       clear BK205
       clear HB
       have HO192 := n0_
       have HO198 := n1_
       have BK184 := n2_
       have BK185 := n3_
       have BK195 := n4_
       have BK205 := n5_
       have HB := n6_
       clear n0_ n1_ n2_ n3_ n4_ n5_ n6_
       (try clear hb)
       (try clear hb2)
       (try clear hk)
       (try clear hi)
       refine hK.out _ _ ⟨(blk_cell BK184.out 0).trans rfl, (blk_cell BK184.out 1).trans rfl, (blk_cell BK185.out 0).trans rfl, (blk_cell BK185.out 1).trans rfl⟩ (fun hHeld => ?_)
       clear hK K
       refine norm_ (a' := ?_) ?_ ?_
       rotate_left
       ·show Act.put _ (some 27) _ = _
        simp only [Act.put, List.setIfInBounds_toArray, List.set_cons_zero, List.set_cons_succ, i64_w, i32_w]
        rfl
       exact norm_ (by simp only [putAll, Act.put, List.setIfInBounds_toArray, List.set_cons_zero, List.set_cons_succ]) (hCont (gb205) _ ⟨hHeld, (by (with_reducible repeat (first | apply Kd.R_alloc | apply Kd.R_drewN | apply Kd.R_drew)); exact Kd.R_mono HO192.out (fun _ hk => hk.2)), (by (with_reducible repeat (first | apply Kd.R_alloc | apply Kd.R_drewN | apply Kd.R_drew)); exact Kd.R_mono HO198.out (fun _ hk => hk.2)), (bz BK184.out), (bz BK185.out), (bz BK195.out), (bz BK205.out), GW205.out, GE205.out, NB184_205.out, NB205_184.out, NB185_205.out, NB205_185.out, NB195_205.out, NB205_195.out, (hz4 HB.out GE184.out GE185.out GE195.out GE205.out)⟩)
     ·skip
      refine box_step ?hg (N := 9) ?hd (cs := #[.int .i64 0, .int .i64 0]) (t := 24) ?hr ?_; (case hd => rfl); (case hg => rfl); (case hr => first | (go_simp; done) | (go_simp; rfl))
      intro gb205 hg w35 hbox hb
      have n0_ := Aside0.mk (Kd.R_below (by (with_reducible repeat (first | apply Kd.R_alloc | apply Kd.R_drewN | apply Kd.R_drew)); exact HO192.out) hb)
      have n1_ := Aside0.mk (Kd.R_below (by (with_reducible repeat (first | apply Kd.R_alloc | apply Kd.R_drewN | apply Kd.R_drew)); exact HO198.out) hb)
      have n2_ := Aside0.mk (blk_below (g := gb184) (o := .cells #[.int .i64 a0_0, .int .i64 a0_1] 23 (0, 0)) (bz BK184.out) hb)
      have n3_ := Aside0.mk (blk_below (g := gb185) (o := .cells #[.int .i64 a1_0, .int .i64 a1_1] 23 (0, 0)) (bz BK185.out) hb)
      have n4_ := Aside0.mk (blk_below (g := gb195) (o := .cells #[.int .i64 t193, .int .i64 t194] 24 (0, 0)) (bz BK195.out) hb)
      have n5_ := Aside0.mk (below_step (hz3 HB.out GE184.out GE185.out GE195.out) hb)
      have n6_ := Aside0.mk (hbox)
      have n7_ := Aside0.mk ((by rw [hg]; exact (below_size (hz3 HB.out GE184.out GE185.out GE195.out)) : w.heap.size ≤ gb205))
      have n8_ := Aside0.mk ((by rw [hg]; exact (below_size (hz3 HB.out GE184.out GE185.out GE195.out)) : w.heap.size ≤ gb205))
      have n9_ := Aside0.mk ((by rw [hg]; exact Nat.ne_of_lt (blk_lt (g := gb184) (o := .cells #[.int .i64 a0_0, .int .i64 a0_1] 23 (0, 0)) (bz BK184.out)) : gb184 ≠ gb205))
      have n10_ := Aside0.mk ((by rw [hg]; exact Nat.ne_of_gt (blk_lt (g := gb184) (o := .cells #[.int .i64 a0_0, .int .i64 a0_1] 23 (0, 0)) (bz BK184.out)) : gb205 ≠ gb184))
      have n11_ := Aside0.mk ((by rw [hg]; exact Nat.ne_of_lt (blk_lt (g := gb185) (o := .cells #[.int .i64 a1_0, .int .i64 a1_1] 23 (0, 0)) (bz BK185.out)) : gb185 ≠ gb205))
      have n12_ := Aside0.mk ((by rw [hg]; exact Nat.ne_of_gt (blk_lt (g := gb185) (o := .cells #[.int .i64 a1_0, .int .i64 a1_1] 23 (0, 0)) (bz BK185.out)) : gb205 ≠ gb185))
      have n13_ := Aside0.mk ((by rw [hg]; exact Nat.ne_of_lt (blk_lt (g := gb195) (o := .cells #[.int .i64 t193, .int .i64 t194] 24 (0, 0)) (bz BK195.out)) : gb195 ≠ gb205))
      have n14_ := Aside0.mk ((by rw [hg]; exact Nat.ne_of_gt (blk_lt (g := gb195) (o := .cells #[.int .i64 t193, .int .i64 t194] 24 (0, 0)) (bz BK195.out)) : gb205 ≠ gb195))
      clear HO192
      clear HO198
      clear BK184
      clear BK185
      clear BK195
      clear HB
      have HO192 := n0_
      have HO198 := n1_
      have BK184 := n2_
      have BK185 := n3_
      have BK195 := n4_
      have HB := n5_
      have BK205 := n6_
      have GW205 := n7_
      have GE205 := n8_
      have NB184_205 := n9_
      have NB205_184 := n10_
      have NB185_205 := n11_
      have NB205_185 := n12_
      have NB195_205 := n13_
      have NB205_195 := n14_
      clear n0_ n1_ n2_ n3_ n4_ n5_ n6_ n7_ n8_ n9_ n10_ n11_ n12_ n13_ n14_
      clear hb hbox hg
      refine hK.out _ _ ⟨(blk_cell BK184.out 0).trans rfl, (blk_cell BK184.out 1).trans rfl, (blk_cell BK185.out 0).trans rfl, (blk_cell BK185.out 1).trans rfl⟩ (fun hHeld => ?_)
      clear hK K
      refine norm_ (a' := ?_) ?_ ?_
      rotate_left
      ·show Act.put _ (some 9) _ = _
       simp only [Act.put, List.setIfInBounds_toArray, List.set_cons_zero, List.set_cons_succ, i64_w, i32_w]
       rfl
      refine one_ (i := 1) (N := some 23) #[true, true, true, false, true, false, true, false] rfl rfl (one_of HT_.out (by kernel_rfl)) (by decide) (fun K hK => ?_)
      refine goes_ Try.func16 (by kernel_rfl) rfl #[.agg #[.int .i64 a0_0, .int .i64 a0_1]] (by rfl) rfl rfl mz ?_
      with_reducible refine (laws_toRange.calls a0_0 a0_1 t199 t200 _ A12.out).mono ?_
      rintro e w36 ⟨rfl, hb⟩
      refine ⟨_, rfl, ?_⟩
      have n0_ := Aside0.mk (Kd.R_below (by (with_reducible repeat (first | apply Kd.R_alloc | apply Kd.R_drewN | apply Kd.R_drew)); exact HO192.out) hb)
      have n1_ := Aside0.mk (Kd.R_below (by (with_reducible repeat (first | apply Kd.R_alloc | apply Kd.R_drewN | apply Kd.R_drew)); exact HO198.out) hb)
      have n2_ := Aside0.mk (blk_below (g := gb184) (o := .cells #[.int .i64 a0_0, .int .i64 a0_1] 23 (0, 0)) (bz BK184.out) hb)
      have n3_ := Aside0.mk (blk_below (g := gb185) (o := .cells #[.int .i64 a1_0, .int .i64 a1_1] 23 (0, 0)) (bz BK185.out) hb)
      have n4_ := Aside0.mk (blk_below (g := gb195) (o := .cells #[.int .i64 t193, .int .i64 t194] 24 (0, 0)) (bz BK195.out) hb)
      have n5_ := Aside0.mk (blk_below (g := gb205) (o := .cells #[.int .i64 0, .int .i64 0] 24 (0, 0)) (bz BK205.out) hb)
      have n6_ := Aside0.mk (below_step (hz4 HB.out GE184.out GE185.out GE195.out GE205.out) hb)
      clear HO192
      clear HO198
      clear BK184
      clear BK185
      clear BK195
      clear BK205
      clear HB
      have HO192 := n0_
      have HO198 := n1_
      have BK184 := n2_
      have BK185 := n3_
      have BK195 := n4_
      have BK205 := n5_
      have HB := n6_
      clear n0_ n1_ n2_ n3_ n4_ n5_ n6_
      (try clear hb)
      (try clear hb2)
      (try clear hk)
      (try clear hi)
      refine hK.out _ _ ⟨(blk_cell BK184.out 0).trans rfl, (blk_cell BK184.out 1).trans rfl, (blk_cell BK185.out 0).trans rfl, (blk_cell BK185.out 1).trans rfl⟩ (fun hHeld => ?_)
      clear hK K
      refine norm_ (a' := ?_) ?_ ?_
      rotate_left
      ·show Act.put _ (some 23) _ = _
       simp only [Act.put, List.setIfInBounds_toArray, List.set_cons_zero, List.set_cons_succ, i64_w, i32_w]
       rfl
      refine one_ (i := 3) (N := some 25) #[true, true, true, true, true, false, true, false] rfl rfl (one_of HT_.out (by kernel_rfl)) (by decide) (fun K hK => ?_)
      refine goes_ Try.func16 (by kernel_rfl) rfl #[.agg #[.int .i64 a1_0, .int .i64 a1_1]] (by rfl) rfl rfl mz ?_
      with_reducible refine (laws_toRange.calls a1_0 a1_1 t201 t202 _ A13.out).mono ?_
      rintro e w37 ⟨rfl, hb⟩
      refine ⟨_, rfl, ?_⟩
      have n0_ := Aside0.mk (Kd.R_below (by (with_reducible repeat (first | apply Kd.R_alloc | apply Kd.R_drewN | apply Kd.R_drew)); exact HO192.out) hb)
      have n1_ := Aside0.mk (Kd.R_below (by (with_reducible repeat (first | apply Kd.R_alloc | apply Kd.R_drewN | apply Kd.R_drew)); exact HO198.out) hb)
      have n2_ := Aside0.mk (blk_below (g := gb184) (o := .cells #[.int .i64 a0_0, .int .i64 a0_1] 23 (0, 0)) (bz BK184.out) hb)
      have n3_ := Aside0.mk (blk_below (g := gb185) (o := .cells #[.int .i64 a1_0, .int .i64 a1_1] 23 (0, 0)) (bz BK185.out) hb)
      have n4_ := Aside0.mk (blk_below (g := gb195) (o := .cells #[.int .i64 t193, .int .i64 t194] 24 (0, 0)) (bz BK195.out) hb)
      have n5_ := Aside0.mk (blk_below (g := gb205) (o := .cells #[.int .i64 0, .int .i64 0] 24 (0, 0)) (bz BK205.out) hb)
      have n6_ := Aside0.mk (below_step (hz4 HB.out GE184.out GE185.out GE195.out GE205.out) hb)
      clear HO192
      clear HO198
      clear BK184
      clear BK185
      clear BK195
      clear BK205
      clear HB
      have HO192 := n0_
      have HO198 := n1_
      have BK184 := n2_
      have BK185 := n3_
      have BK195 := n4_
      have BK205 := n5_
      have HB := n6_
      clear n0_ n1_ n2_ n3_ n4_ n5_ n6_
      (try clear hb)
      (try clear hb2)
      (try clear hk)
      (try clear hi)
      refine hK.out _ _ ⟨(blk_cell BK184.out 0).trans rfl, (blk_cell BK184.out 1).trans rfl, (blk_cell BK185.out 0).trans rfl, (blk_cell BK185.out 1).trans rfl⟩ (fun hHeld => ?_)
      clear hK K
      refine norm_ (a' := ?_) ?_ ?_
      rotate_left
      ·show Act.put _ (some 25) _ = _
       simp only [Act.put, List.setIfInBounds_toArray, List.set_cons_zero, List.set_cons_succ, i64_w, i32_w]
       rfl
      refine one_ (i := 5) (N := some 27) #[true, true, true, true, true, true, true, false] rfl rfl (one_of HT_.out (by kernel_rfl)) (by decide) (fun K hK => ?_)
      refine goes_ Try.func23 (by kernel_rfl) rfl #[.agg #[.int .i64 t199, .int .i64 t200], .agg #[.int .i64 t201, .int .i64 t202], .slice Ao33 t196.length co33] (by rfl) rfl rfl mz ?_
      with_reducible refine (impl_RangeWiden.calls k t199 t200 t201 t202 _ _ t196 t203 t204 _ ?side1 ?side2 A14.out).mono ?_
      (case side1 => repeat (first | exact (Kd.R_reads' HO198.out).2.2 | (with_reducible refine Kd.C_alloc ?_ _) | (with_reducible refine Kd.C_drewN ?_ _) | (with_reducible refine Kd.C_drew ?_)))
      (case side2 => exact (Kd.R_reads' HO198.out).2.1)
      rintro e w38 ⟨rfl, hb⟩
      refine ⟨_, rfl, ?_⟩
      have n0_ := Aside0.mk (Kd.R_below (by (with_reducible repeat (first | apply Kd.R_alloc | apply Kd.R_drewN | apply Kd.R_drew)); exact HO192.out) hb)
      have n1_ := Aside0.mk (Kd.R_below (by (with_reducible repeat (first | apply Kd.R_alloc | apply Kd.R_drewN | apply Kd.R_drew)); exact HO198.out) hb)
      have n2_ := Aside0.mk (blk_below (g := gb184) (o := .cells #[.int .i64 a0_0, .int .i64 a0_1] 23 (0, 0)) (bz BK184.out) hb)
      have n3_ := Aside0.mk (blk_below (g := gb185) (o := .cells #[.int .i64 a1_0, .int .i64 a1_1] 23 (0, 0)) (bz BK185.out) hb)
      have n4_ := Aside0.mk (blk_below (g := gb195) (o := .cells #[.int .i64 t193, .int .i64 t194] 24 (0, 0)) (bz BK195.out) hb)
      have n5_ := Aside0.mk (blk_below (g := gb205) (o := .cells #[.int .i64 0, .int .i64 0] 24 (0, 0)) (bz BK205.out) hb)
      have n6_ := Aside0.mk (below_step (hz4 HB.out GE184.out GE185.out GE195.out GE205.out) hb)
      clear HO192
      clear HO198
      clear BK184
      clear BK185
      clear BK195
      clear BK205
      clear HB
      have HO192 := n0_
      have HO198 := n1_
      have BK184 := n2_
      have BK185 := n3_
      have BK195 := n4_
      have BK205 := n5_
      have HB := n6_
      clear n0_ n1_ n2_ n3_ n4_ n5_ n6_
      (try clear hb)
      (try clear hb2)
      (try clear hk)
      (try clear hi)
      refine hK.out _ _ ⟨(blk_cell BK184.out 0).trans rfl, (blk_cell BK184.out 1).trans rfl, (blk_cell BK185.out 0).trans rfl, (blk_cell BK185.out 1).trans rfl⟩ (fun hHeld => ?_)
      clear hK K
      refine norm_ (a' := ?_) ?_ ?_
      rotate_left
      ·show Act.put _ (some 27) _ = _
       simp only [Act.put, List.setIfInBounds_toArray, List.set_cons_zero, List.set_cons_succ, i64_w, i32_w]
       rfl
      exact norm_ (by simp only [putAll, Act.put, List.setIfInBounds_toArray, List.set_cons_zero, List.set_cons_succ]) (hCont (gb205) _ ⟨hHeld, (by (with_reducible repeat (first | apply Kd.R_alloc | apply Kd.R_drewN | apply Kd.R_drew)); exact Kd.R_mono HO192.out (fun _ hk => hk.2)), (by (with_reducible repeat (first | apply Kd.R_alloc | apply Kd.R_drewN | apply Kd.R_drew)); exact Kd.R_mono HO198.out (fun _ hk => hk.2)), (bz BK184.out), (bz BK185.out), (bz BK195.out), (bz BK205.out), GW205.out, GE205.out, NB184_205.out, NB205_184.out, NB185_205.out, NB205_185.out, NB195_205.out, NB205_195.out, (hz4 HB.out GE184.out GE185.out GE195.out GE205.out)⟩)
    rintro gb205 w39 ⟨hS_, h0_, h1_, h2_, h3_, h4_, h5_, h6_, h7_, h8_, h9_, h10_, h11_, h12_, h13_, h14_⟩
    have n0_ : Aside0 (Kd.R (Kd.int .i64) 3 w39 w.heap.size (fun k_ => some k_ ≠ (.slice Ao33 t196.length co33 : Value).ownBlock) v191 t190) := ⟨h0_⟩
    have n1_ : Aside0 (Kd.R (Kd.int .i64) 3 w39 w.heap.size (fun k_ => some k_ ≠ (v191 : Value).ownBlock) (.slice Ao33 t196.length co33) t196) := ⟨h1_⟩
    have n2_ : Aside0 (w39.heap[gb184]? = some (.cells #[.int .i64 a0_0, .int .i64 a0_1] 23 (0, 0))) := ⟨h2_⟩
    have n3_ : Aside0 (w39.heap[gb185]? = some (.cells #[.int .i64 a1_0, .int .i64 a1_1] 23 (0, 0))) := ⟨h3_⟩
    have n4_ : Aside0 (w39.heap[gb195]? = some (.cells #[.int .i64 t193, .int .i64 t194] 24 (0, 0))) := ⟨h4_⟩
    have n5_ : Aside0 (w39.heap[gb205]? = some (.cells #[.int .i64 0, .int .i64 0] 24 (0, 0))) := ⟨h5_⟩
    have n6_ : Aside0 (w.heap.size ≤ gb205) := ⟨h6_⟩
    have n7_ : Aside0 (w.heap.size ≤ gb205) := ⟨h7_⟩
    have n8_ : Aside0 (gb184 ≠ gb205) := ⟨h8_⟩
    have n9_ : Aside0 (gb205 ≠ gb184) := ⟨h9_⟩
    have n10_ : Aside0 (gb185 ≠ gb205) := ⟨h10_⟩
    have n11_ : Aside0 (gb205 ≠ gb185) := ⟨h11_⟩
    have n12_ : Aside0 (gb195 ≠ gb205) := ⟨h12_⟩
    have n13_ : Aside0 (gb205 ≠ gb195) := ⟨h13_⟩
    have n14_ : Aside0 (Below w.heap.size w w39) := ⟨h14_⟩
    clear HO192
    clear HO198
    clear BK184
    clear BK185
    clear BK195
    clear HB
    clear h0_ h1_ h2_ h3_ h4_ h5_ h6_ h7_ h8_ h9_ h10_ h11_ h12_ h13_ h14_
    have HO192 := n0_
    have HO198 := n1_
    have BK184 := n2_
    have BK185 := n3_
    have BK195 := n4_
    have BK205 := n5_
    have GW205 := n6_
    have GE205 := n7_
    have NB184_205 := n8_
    have NB205_184 := n9_
    have NB185_205 := n10_
    have NB205_185 := n11_
    have NB195_205 := n12_
    have NB205_195 := n13_
    have HB := n14_
    clear n0_ n1_ n2_ n3_ n4_ n5_ n6_ n7_ n8_ n9_ n10_ n11_ n12_ n13_ n14_
    have hHeld : w39.cell? ⟨gb184, 0, none⟩ = some (.int .i64 a0_0) ∧ w39.cell? ⟨gb184, 1, none⟩ = some (.int .i64 a0_1) ∧ w39.cell? ⟨gb185, 0, none⟩ = some (.int .i64 a1_0) ∧ w39.cell? ⟨gb185, 1, none⟩ = some (.int .i64 a1_1) := hS_
    refine norm_ (a' := ?_) ?_ ?_
    rotate_left
    ·simp only [putAll, Act.put, List.setIfInBounds_toArray, List.set_cons_zero, List.set_cons_succ]
     rfl
    refine one_ (i := 7) (N := none) #[true, true, true, true, true, true, true, true] rfl rfl (one_of HT_.out (by kernel_rfl)) (by decide) (fun K hK => ?_)
    have hs40 : w39.cell? ⟨gb205, 0, none⟩ = some (.int .i64 0) := (blk_cell BK205.out 0).trans rfl
    have hfs40 := blk_frozen BK205.out 0
    have hns40_0 := NB184_205.out
    have hns40_1 := NB185_205.out
    have hns40_2 := NB195_205.out
    have hms40_0 := NB205_184.out
    have hms40_1 := NB205_185.out
    have hms40_2 := NB205_195.out
    have hs41 : w39.cell? ⟨gb205, 1, none⟩ = some (.int .i64 0) := (blk_cell BK205.out 1).trans rfl
    have hfs41 := blk_frozen BK205.out 1
    have hns41_0 := NB184_205.out
    have hns41_1 := NB185_205.out
    have hns41_2 := NB195_205.out
    have hms41_0 := NB205_184.out
    have hms41_1 := NB205_185.out
    have hms41_2 := NB205_195.out
    refine skip_ (w1 := ?_) (by rfl) rfl ?_ ?_
    rotate_left
    ·go_simp
     rfl
    refine hK.out _ _ ⟨((cell_far (p := ⟨gb205, _, none⟩) NB184_205.out _).trans (((cell_far (p := ⟨gb205, _, none⟩) NB184_205.out _).trans (hHeld.1)))), ((cell_far (p := ⟨gb205, _, none⟩) NB184_205.out _).trans (((cell_far (p := ⟨gb205, _, none⟩) NB184_205.out _).trans (hHeld.2.1)))), ((cell_far (p := ⟨gb205, _, none⟩) NB185_205.out _).trans (((cell_far (p := ⟨gb205, _, none⟩) NB185_205.out _).trans (hHeld.2.2.1)))), ((cell_far (p := ⟨gb205, _, none⟩) NB185_205.out _).trans (((cell_far (p := ⟨gb205, _, none⟩) NB185_205.out _).trans (hHeld.2.2.2))))⟩ (fun hHeld => ?_)
    clear hK K
    refine done_ (done_of HT_.out (by kernel_rfl)) ?_
    have hnb42 := NB205_184.out
    have hnc42 := NB184_205.out
    have hnb43 := NB205_185.out
    have hnc43 := NB185_205.out
    have hnb44 := NB205_195.out
    have hnc44 := NB195_205.out
    have hcz45_0 : w39.cell? ⟨gb205, 0, none⟩ = some (.int .i64 0) := (blk_cell BK205.out 0).trans rfl
    have hcz45_1 : w39.cell? ⟨gb205, 1, none⟩ = some (.int .i64 0) := (blk_cell BK205.out 1).trans rfl
    have hfz45_0 := blk_frozen BK205.out 0
    have hfz45_1 := blk_frozen BK205.out 1
    have hnb46 := NB195_184.out
    have hnc46 := NB184_195.out
    have hnb47 := NB195_185.out
    have hnc47 := NB185_195.out
    have hcz48_0 : w39.cell? ⟨gb195, 0, none⟩ = some (.int .i64 t193) := (blk_cell BK195.out 0).trans rfl
    have hcz48_1 : w39.cell? ⟨gb195, 1, none⟩ = some (.int .i64 t194) := (blk_cell BK195.out 1).trans rfl
    have hfz48_0 := blk_frozen BK195.out 0
    have hfz48_1 := blk_frozen BK195.out 1
    try go_wp2_with (first | ((with_reducible refine gate_callee (f := 18) rfl ?_); refine goesL_ (some 30) rfl rfl Try.func18 (by kernel_rfl) rfl #[.agg #[.int .i64 t203, .int .i64 t204], .agg #[.int .i64 t193, .int .i64 t194]] rfl mz ?_; (with_reducible refine (laws_eqRange.calls t203 t204 t193 t194 true _ A15.out).mono ?_); rintro e w49 ⟨rfl, hb⟩; refine ⟨_, rfl, ?_⟩; have n0_ := Aside0.mk (Kd.R_below (by (with_reducible repeat (first | apply Kd.R_alloc | apply Kd.R_drewN | apply Kd.R_drew)); exact (Kd.R_mono (Kd.R_far (p := ⟨gb205, 1, none⟩) (Kd.R_far (p := ⟨gb205, 0, none⟩) (Kd.R_types HO192.out BK205.out (by decide)) (fun _ hk => hk.2) (.int .i64 t203)) (fun _ hk => hk.2) (.int .i64 t204)) (fun _ h_ => h_.1))) hb); have n1_ := Aside0.mk (Kd.R_below (by (with_reducible repeat (first | apply Kd.R_alloc | apply Kd.R_drewN | apply Kd.R_drew)); exact (Kd.R_mono (Kd.R_far (p := ⟨gb205, 1, none⟩) (Kd.R_far (p := ⟨gb205, 0, none⟩) (Kd.R_types HO198.out BK205.out (by decide)) (fun _ hk => hk.2) (.int .i64 t203)) (fun _ hk => hk.2) (.int .i64 t204)) (fun _ h_ => h_.1))) hb); have n2_ := Aside0.mk (blk_below (g := gb184) (o := .cells #[.int .i64 a0_0, .int .i64 a0_1] 23 (0, 0)) (by (with_reducible repeat (first | refine blk_drewN ?_ _ | refine blk_drew ?_ | refine blk_alloc ?_ _)); refine blk_far ?_ NB184_205.out _; (with_reducible repeat (first | refine blk_drewN ?_ _ | refine blk_drew ?_ | refine blk_alloc ?_ _)); refine blk_far ?_ NB184_205.out _; (with_reducible repeat (first | refine blk_drewN ?_ _ | refine blk_drew ?_ | refine blk_alloc ?_ _)); exact BK184.out) hb); have n3_ := Aside0.mk (blk_below (g := gb185) (o := .cells #[.int .i64 a1_0, .int .i64 a1_1] 23 (0, 0)) (by (with_reducible repeat (first | refine blk_drewN ?_ _ | refine blk_drew ?_ | refine blk_alloc ?_ _)); refine blk_far ?_ NB185_205.out _; (with_reducible repeat (first | refine blk_drewN ?_ _ | refine blk_drew ?_ | refine blk_alloc ?_ _)); refine blk_far ?_ NB185_205.out _; (with_reducible repeat (first | refine blk_drewN ?_ _ | refine blk_drew ?_ | refine blk_alloc ?_ _)); exact BK185.out) hb); have n4_ := Aside0.mk (blk_below (g := gb195) (o := .cells #[.int .i64 t193, .int .i64 t194] 24 (0, 0)) (by (with_reducible repeat (first | refine blk_drewN ?_ _ | refine blk_drew ?_ | refine blk_alloc ?_ _)); refine blk_far ?_ NB195_205.out _; (with_reducible repeat (first | refine blk_drewN ?_ _ | refine blk_drew ?_ | refine blk_alloc ?_ _)); refine blk_far ?_ NB195_205.out _; (with_reducible repeat (first | refine blk_drewN ?_ _ | refine blk_drew ?_ | refine blk_alloc ?_ _)); exact BK195.out) hb); have n5_ := Aside0.mk (blk_below (g := gb205) (o := .cells #[.int .i64 t203, .int .i64 t204] 24 (0, 0)) (by (with_reducible repeat (first | refine blk_drewN ?_ _ | refine blk_drew ?_ | refine blk_alloc ?_ _)); refine blk_put (cs := #[.int .i64 t203, .int .i64 0]) ?_ 1 _ rfl; (with_reducible repeat (first | refine blk_drewN ?_ _ | refine blk_drew ?_ | refine blk_alloc ?_ _)); refine blk_put (cs := #[.int .i64 0, .int .i64 0]) ?_ 0 _ rfl; (with_reducible repeat (first | refine blk_drewN ?_ _ | refine blk_drew ?_ | refine blk_alloc ?_ _)); exact BK205.out) hb); have n6_ := Aside0.mk (below_step (hz4 HB.out GE184.out GE185.out GE195.out GE205.out) hb); clear HO192; clear HO198; clear BK184; clear BK185; clear BK195; clear BK205; clear HB; have HO192 := n0_; have HO198 := n1_; have BK184 := n2_; have BK185 := n3_; have BK195 := n4_; have BK205 := n5_; have HB := n6_; clear n0_ n1_ n2_ n3_ n4_ n5_ n6_; (try clear hb); (try clear hb2); (try clear hk); (try clear hi)) | ((with_reducible refine gate_callee (f := 22) rfl ?_); refine goesL_ (some 34) rfl rfl Try.func22 (by kernel_rfl) rfl #[.slice A2 l2.length c2] rfl mz ?_; (with_reducible refine (laws_toIntS.calls k _ _ l2 t207 _ ?side1 ?side2 A17.out).mono ?_); (case side1 => repeat (first | exact (Kd.C_below HR2.out HB.out) | (with_reducible refine Kd.C_alloc ?_ _) | (with_reducible refine Kd.C_drewN ?_ _) | (with_reducible refine Kd.C_drew ?_))); (case side2 => exact HC2.out); rintro e w50 ⟨v208, rfl, ho0, hb⟩; refine ⟨_, rfl, ?_⟩; have n0_ := Aside0.mk (Kd.R_elder' (by (with_reducible repeat (first | apply Kd.R_alloc | apply Kd.R_drewN | apply Kd.R_drew)); exact HO192.out) (Kd.R_base ho0) hb); have n1_ := Aside0.mk (Kd.R_elder' (by (with_reducible repeat (first | apply Kd.R_alloc | apply Kd.R_drewN | apply Kd.R_drew)); exact HO198.out) (Kd.R_base ho0) hb); have n2_ := Aside0.mk (Kd.R_lower (Kd.R_new' (Kd.R_new' ho0 (Kd.R_lt (by (with_reducible repeat (first | apply Kd.R_alloc | apply Kd.R_drewN | apply Kd.R_drew)); exact HO192.out))) (Kd.R_lt (by (with_reducible repeat (first | apply Kd.R_alloc | apply Kd.R_drewN | apply Kd.R_drew)); exact HO198.out))) (below_size (hz4 HB.out GE184.out GE185.out GE195.out GE205.out))); have n3_ := Aside0.mk (blk_below (g := gb184) (o := .cells #[.int .i64 a0_0, .int .i64 a0_1] 23 (0, 0)) (bz BK184.out) hb); have n4_ := Aside0.mk (blk_below (g := gb185) (o := .cells #[.int .i64 a1_0, .int .i64 a1_1] 23 (0, 0)) (bz BK185.out) hb); have n5_ := Aside0.mk (blk_below (g := gb195) (o := .cells #[.int .i64 t193, .int .i64 t194] 24 (0, 0)) (bz BK195.out) hb); have n6_ := Aside0.mk (blk_below (g := gb205) (o := .cells #[.int .i64 t203, .int .i64 t204] 24 (0, 0)) (bz BK205.out) hb); have n7_ := Aside0.mk (below_step (hz4 HB.out GE184.out GE185.out GE195.out GE205.out) hb); clear HO192; clear HO198; clear BK184; clear BK185; clear BK195; clear BK205; clear HB; have HO192 := n0_; have HO198 := n1_; have HO209 := n2_; have BK184 := n3_; have BK185 := n4_; have BK195 := n5_; have BK205 := n6_; have HB := n7_; clear n0_ n1_ n2_ n3_ n4_ n5_ n6_ n7_; (try clear hb); (try clear hb2); (try clear hk); (try clear hi); (try clear ho0); obtain ⟨Ao51, co51, eo51⟩ := Kd.R_slice HO209.out; subst eo51) | ((with_reducible refine gate_callee (f := 24) rfl ?_); refine goesL_ (some 35) rfl rfl Try.func24 (by kernel_rfl) rfl #[.slice Ao33 t196.length co33, .slice Ao51 t207.length co51] rfl mz ?_; (with_reducible refine (laws_eqIntS.calls k _ _ t196 _ _ t207 true _ ?side1 ?side2 ?side3 ?side4 A18.out).mono ?_); (case side1 => repeat (first | exact (Kd.R_reads' HO198.out).2.2 | (with_reducible refine Kd.C_alloc ?_ _) | (with_reducible refine Kd.C_drewN ?_ _) | (with_reducible refine Kd.C_drew ?_))); (case side2 => exact (Kd.R_reads' HO198.out).2.1); (case side3 => repeat (first | exact (Kd.R_reads' HO209.out).2.2 | (with_reducible refine Kd.C_alloc ?_ _) | (with_reducible refine Kd.C_drewN ?_ _) | (with_reducible refine Kd.C_drew ?_))); (case side4 => exact (Kd.R_reads' HO209.out).2.1); rintro e w' ⟨rfl, ⟨nd, rfl⟩⟩; refine ⟨_, rfl, ?_⟩))
    go_ret
    exact ⟨by first | rfl | (simp [errW_none, errW_some] <;> rfl) | (simp [*, errW_none, errW_some] <;> rfl), hz4 HB.out GE184.out GE185.out GE195.out GE205.out⟩
   ·replace c19 := Bool.eq_false_iff.mpr c19
    subst c19
    have H1 : (none) = some r := by rw [if_neg (show ¬ (false = true) by decide)] at H; exact H
    clear H
    have H := H1
    clear H1
    exact absurd H (by simp)
  ·replace c16 := Bool.eq_false_iff.mpr c16
   subst c16
   have H1 : (none) = some r := by rw [if_neg (show ¬ (false = true) by decide)] at H; exact H
   clear H
   have H := H1
   clear H1
   exact absurd H (by simp)

end Go.Proofs.Ytlipfemjlicbbaa.PFnExactRangeWiden
