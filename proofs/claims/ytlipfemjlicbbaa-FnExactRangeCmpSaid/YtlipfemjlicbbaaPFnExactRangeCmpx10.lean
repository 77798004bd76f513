/- Written by this session's own driver (wip/dprint.py): the functions that the law FnExactRangeCmp reaches, as Lean functions, each with its contract. -/
import Derived.Test.YtlipfemjlicbbaaPFnExactRangeCmpx0
import Derived.Test.YtlipfemjlicbbaaPFnExactRangeCmpx2
import Derived.Test.YtlipfemjlicbbaaPFnExactRangeCmpx6
import Derived.Test.YtlipfemjlicbbaaPFnExactRangeCmpx9
import Derived.Test.YtlipfemjlicbbaaSv
namespace Go.Proofs.Ytlipfemjlicbbaa.PFnExactRangeCmp
open Go.RowKit Go.Proofs.YtlipfemjlicbbaaV.PrintWords Go.Proofs.YtlipfemjlicbbaaV.PrintLast Go.Proofs.YtlipfemjlicbbaaV.PrintMore Go.Proofs.YtlipfemjlicbbaaSv
attribute [local go_sem] max2_int min2_int max_two min_two max_three min_three max_four min_four   -- for this text's walks alone
set_option linter.unusedVariables false
set_option linter.unusedSimpArgs false

/-! ### laws_FnExactRangeCmp: function 6 -/
def laws_FnExactRangeCmp.f (k : Nat) (a0 : Int) (a1_0 : Int) (a1_1 : Int) (a2_0 : Int) (a2_1 : Int) : Option (Bool) := (laws_toRange.f a1_0 a1_1).bind fun bt264 => ((laws_toRange.f a2_0 a2_1).bind fun bt266 => ((spec_RangeCmp.f k a0 bt264.1 bt264.2 bt266.1 bt266.2).bind fun bt268 => ((laws_toRange.f a1_0 a1_1).bind fun bt274 => ((laws_toRange.f a2_0 a2_1).bind fun bt276 => ((impl_RangeCmp.f k a0 bt274.1 bt274.2 bt276.1 bt276.2).bind fun bt278 => ((laws_eqRange.f bt278.1 bt278.2.1 bt268.1 bt268.2.1).bind fun t284 => (if t284 = true then ((laws_eqRange.f bt278.2.2.1 bt278.2.2.2 bt268.2.2.1 bt268.2.2.2).bind fun t285 => (if t285 = true then (some true) else (none))) else (none))))))))
theorem laws_FnExactRangeCmp.mono : ∀ a0 a1 a2 a3 a4 k, LeO (laws_FnExactRangeCmp.f k a0 a1 a2 a3 a4) (laws_FnExactRangeCmp.f (k + 1) a0 a1 a2 a3 a4) := by
 intro a0 a1 a2 a3 a4 k
 unfold laws_FnExactRangeCmp.f
 repeat' first
   | (with_reducible exact impl_RangeCmp.mono _ _ _ _ _ _)
   | (with_reducible exact spec_RangeCmp.mono _ _ _ _ _ _)
   | (with_reducible exact LeO.refl _)
   | (with_reducible exact LeO.none _)
   | (with_reducible refine LeO.ite ?_ ?_)
   | (with_reducible refine LeO.bind ?_ (fun _ => ?_))
   | exact impl_RangeCmp.mono _ _ _ _ _ _
   | exact spec_RangeCmp.mono _ _ _ _ _ _
   | exact LeO.none _
   | refine LeO.ite ?_ ?_
   | refine LeO.bind ?_ (fun _ => ?_)
def laws_FnExactRangeCmp.T1 : Bool × List (List Nat × List Nat) := (true, [([], []), ([], []), ([1], [1]), ([], []), ([3, 2], [3]), ([0, 2, 4, 4], [0, 2, 4]), ([5], [5]), ([6], [6]), ([6], [6]), ([], []), ([], []), ([9, 7, 5, 0, 1, 2, 3, 4, 5, 6, 7, 9, 10], [7, 9]), ([10, 8, 11, 0, 1, 2, 3, 4, 5, 6, 7, 8, 9, 10, 11], [8, 10])])
def laws_FnExactRangeCmp.B1 : List Nat := [0, 0, 2, 0, 14, 31, 63, 127, 127, 0, 0, 1791, 4095]
theorem laws_FnExactRangeCmp.tab1 : rtab .any (opsOf Try.f6 1) = laws_FnExactRangeCmp.T1 := by kernel_rfl
theorem laws_FnExactRangeCmp.bits1 : waitsOk laws_FnExactRangeCmp.T1.2 laws_FnExactRangeCmp.B1 = true := by kernel_rfl
def laws_FnExactRangeCmp.T2 : Bool × List (List Nat × List Nat) := (true, [([], []), ([], []), ([1], [1]), ([], []), ([3, 2], [3]), ([0, 2, 4, 4], [0, 2, 4]), ([5], [5]), ([6], [6]), ([6], [6]), ([], []), ([], []), ([9, 7, 5, 0, 1, 2, 3, 4, 5, 6, 7, 9, 10], [7, 9]), ([10, 8, 11, 0, 1, 2, 3, 4, 5, 6, 7, 8, 9, 10, 11], [8, 10])])
def laws_FnExactRangeCmp.B2 : List Nat := [0, 0, 2, 0, 14, 31, 63, 127, 127, 0, 0, 1791, 4095]
theorem laws_FnExactRangeCmp.tab2 : rtab .any (opsOf Try.f6 2) = laws_FnExactRangeCmp.T2 := by kernel_rfl
theorem laws_FnExactRangeCmp.bits2 : waitsOk laws_FnExactRangeCmp.T2.2 laws_FnExactRangeCmp.B2 = true := by kernel_rfl
set_option maxHeartbeats 8000000 in
set_option maxRecDepth 100000 in
theorem laws_FnExactRangeCmp.calls (k : Nat) (a0 : Int) (a1_0 : Int) (a1_1 : Int) (a2_0 : Int) (a2_1 : Int) (r : Bool) (w : World) (h : laws_FnExactRangeCmp.f k a0 a1_0 a1_1 a2_0 a2_1 = some r) :
  Calls Try.prog 6 #[.int .i64 a0, .agg #[.int .i64 a1_0, .int .i64 a1_1], .agg #[.int .i64 a2_0, .int .i64 a2_1]] w fun e w' => e = .returned (.bool r) ∧ Below w.heap.size w w' := by
 have hu23 := Try.underlying23
 have hu24 := Try.underlying24
 have HB := am (Below.refl w.heap.size w)
 have H : ((laws_toRange.f a1_0 a1_1).bind fun bt264 => ((laws_toRange.f a2_0 a2_1).bind fun bt266 => ((spec_RangeCmp.f k a0 bt264.1 bt264.2 bt266.1 bt266.2).bind fun bt268 => ((laws_toRange.f a1_0 a1_1).bind fun bt274 => ((laws_toRange.f a2_0 a2_1).bind fun bt276 => ((impl_RangeCmp.f k a0 bt274.1 bt274.2 bt276.1 bt276.2).bind fun bt278 => ((laws_eqRange.f bt278.1 bt278.2.1 bt268.1 bt268.2.1).bind fun t284 => (if t284 = true then ((laws_eqRange.f bt278.2.2.1 bt278.2.2.2 bt268.2.2.1 bt268.2.2.2).bind fun t285 => (if t285 = true then (some true) else (none))) else (none))))))))) = some r := h
 clear h
 replace H := Option.bind_eq_some_iff.mp H
 obtain ⟨⟨t264, t265⟩, A40, H⟩ := H
 replace H : ((laws_toRange.f a2_0 a2_1).bind fun bt266 => ((spec_RangeCmp.f k a0 t264 t265 bt266.1 bt266.2).bind fun bt268 => ((laws_toRange.f a1_0 a1_1).bind fun bt274 => ((laws_toRange.f a2_0 a2_1).bind fun bt276 => ((impl_RangeCmp.f k a0 bt274.1 bt274.2 bt276.1 bt276.2).bind fun bt278 => ((laws_eqRange.f bt278.1 bt278.2.1 bt268.1 bt268.2.1).bind fun t284 => (if t284 = true then ((laws_eqRange.f bt278.2.2.1 bt278.2.2.2 bt268.2.2.1 bt268.2.2.2).bind fun t285 => (if t285 = true then (some true) else (none))) else (none)))))))) = some r := H
 have A4 := am A40
 clear A40
 replace H := Option.bind_eq_some_iff.mp H
 obtain ⟨⟨t266, t267⟩, A50, H⟩ := H
 replace H : ((spec_RangeCmp.f k a0 t264 t265 t266 t267).bind fun bt268 => ((laws_toRange.f a1_0 a1_1).bind fun bt274 => ((laws_toRange.f a2_0 a2_1).bind fun bt276 => ((impl_RangeCmp.f k a0 bt274.1 bt274.2 bt276.1 bt276.2).bind fun bt278 => ((laws_eqRange.f bt278.1 bt278.2.1 bt268.1 bt268.2.1).bind fun t284 => (if t284 = true then ((laws_eqRange.f bt278.2.2.1 bt278.2.2.2 bt268.2.2.1 bt268.2.2.2).bind fun t285 => (if t285 = true then (some true) else (none))) else (none))))))) = some r := H
 have A5 := am A50
 clear A50
 replace H := Option.bind_eq_some_iff.mp H
 obtain ⟨⟨t268, t269, t270, t271⟩, A60, H⟩ := H
 replace H : ((laws_toRange.f a1_0 a1_1).bind fun bt274 => ((laws_toRange.f a2_0 a2_1).bind fun bt276 => ((impl_RangeCmp.f k a0 bt274.1 bt274.2 bt276.1 bt276.2).bind fun bt278 => ((laws_eqRange.f bt278.1 bt278.2.1 t268 t269).bind fun t284 => (if t284 = true then ((laws_eqRange.f bt278.2.2.1 bt278.2.2.2 t270 t271).bind fun t285 => (if t285 = true then (some true) else (none))) else (none)))))) = some r := H
 have A6 := am A60
 clear A60
 replace H := Option.bind_eq_some_iff.mp H
 obtain ⟨⟨t274, t275⟩, A70, H⟩ := H
 replace H : ((laws_toRange.f a2_0 a2_1).bind fun bt276 => ((impl_RangeCmp.f k a0 t274 t275 bt276.1 bt276.2).bind fun bt278 => ((laws_eqRange.f bt278.1 bt278.2.1 t268 t269).bind fun t284 => (if t284 = true then ((laws_eqRange.f bt278.2.2.1 bt278.2.2.2 t270 t271).bind fun t285 => (if t285 = true then (some true) else (none))) else (none))))) = some r := H
 have A7 := am A70
 clear A70
 replace H := Option.bind_eq_some_iff.mp H
 obtain ⟨⟨t276, t277⟩, A80, H⟩ := H
 replace H : ((impl_RangeCmp.f k a0 t274 t275 t276 t277).bind fun bt278 => ((laws_eqRange.f bt278.1 bt278.2.1 t268 t269).bind fun t284 => (if t284 = true then ((laws_eqRange.f bt278.2.2.1 bt278.2.2.2 t270 t271).bind fun t285 => (if t285 = true then (some true) else (none))) else (none)))) = some r := H
 have A8 := am A80
 clear A80
 replace H := Option.bind_eq_some_iff.mp H
 obtain ⟨⟨t278, t279, t280, t281⟩, A90, H⟩ := H
 replace H : ((laws_eqRange.f t278 t279 t268 t269).bind fun t284 => (if t284 = true then ((laws_eqRange.f t280 t281 t270 t271).bind fun t285 => (if t285 = true then (some true) else (none))) else (none))) = some r := H
 have A9 := am A90
 clear A90
 replace H := Option.bind_eq_some_iff.mp H
 obtain ⟨t284, A100, H⟩ := H
 replace H : (if t284 = true then ((laws_eqRange.f t280 t281 t270 t271).bind fun t285 => (if t285 = true then (some true) else (none))) else (none)) = some r := H
 have A10 := am A100
 clear A100
 by_cases c11 : t284 = true
 ·subst c11
  have H1 : ((laws_eqRange.f t280 t281 t270 t271).bind fun t285 => (if t285 = true then (some true) else (none))) = some r := by rw [if_pos rfl] at H; exact H
  clear H
  have H := H1
  clear H1
  replace H := Option.bind_eq_some_iff.mp H
  obtain ⟨t285, A120, H⟩ := H
  replace H : (if t285 = true then (some true) else (none)) = some r := H
  have A12 := am A120
  clear A120
  by_cases c13 : t285 = true
  ·subst c13
   have H1 : (some true) = some r := by rw [if_pos rfl] at H; exact H
   clear H
   have H := H1
   clear H1
   obtain rfl := Option.some.inj H
   go_enter Try.func6, Try.ntmps6
   try go_wp2_with (first | ((with_reducible refine gate_dst (N := 4) rfl ?_); refine box_event ?hg (N := 4) ?hd (cs := #[.int .i64 a1_0, .int .i64 a1_1]) (t := 23) ?hr ?_; (case hd => rfl); (case hg => rfl); (case hr => first | (go_simp; done) | (go_simp; rfl)); intro gb262 hg w14 hbox hb; have n0_ := am (below_step (Y0 HB) hb); have n1_ := am (hbox); have n2_ := am ((by rw [hg]; exact (below_size (Y0 HB)) : w.heap.size ≤ gb262)); have n3_ := am ((by rw [hg]; exact (below_size (Y0 HB)) : w.heap.size ≤ gb262)); clear HB; have HB := n0_; have BK262 := n1_; have GW262 := n2_; have GE262 := n3_; clear n0_ n1_ n2_ n3_; clear hb hbox hg) | ((with_reducible refine gate_dst (N := 5) rfl ?_); refine box_event ?hg (N := 5) ?hd (cs := #[.int .i64 a2_0, .int .i64 a2_1]) (t := 23) ?hr ?_; (case hd => rfl); (case hg => rfl); (case hr => first | (go_simp; done) | (go_simp; rfl)); intro gb263 hg w15 hbox hb; have n0_ := am (blk_below (g := gb262) (o := b2 a1_0 a1_1 23) (Z BK262) hb); have n1_ := am (below_step (Y1 HB GE262) hb); have n2_ := am (hbox); have n3_ := am ((by rw [hg]; exact (below_size (Y1 HB GE262)) : w.heap.size ≤ gb263)); have n4_ := am ((by rw [hg]; exact (below_size (Y1 HB GE262)) : w.heap.size ≤ gb263)); have n5_ := am ((nl (o := b2 a1_0 a1_1 23) hg (Z BK262) : gb262 ≠ gb263)); have n6_ := am ((ng (o := b2 a1_0 a1_1 23) hg (Z BK262) : gb263 ≠ gb262)); clear BK262; clear HB; have BK262 := n0_; have HB := n1_; have BK263 := n2_; have GW263 := n3_; have GE263 := n4_; have NB262_263 := n5_; have NB263_262 := n6_; clear n0_ n1_ n2_ n3_ n4_ n5_ n6_; clear hb hbox hg))
   have n0_ := am (blk_drew BK262.out)
   have n1_ := am (blk_drew BK263.out)
   have n2_ := am (below_drew1 HB.out)
   clear BK262
   clear BK263
   clear HB
   have BK262 := n0_
   have BK263 := n1_
   have HB := n2_
   clear n0_ n1_ n2_
   refine start_ (n := 13) (S := fun w' => w'.cell? ⟨gb262, 0, none⟩ = some (.int .i64 a1_0) ∧ w'.cell? ⟨gb262, 1, none⟩ = some (.int .i64 a1_1) ∧ w'.cell? ⟨gb263, 0, none⟩ = some (.int .i64 a2_0) ∧ w'.cell? ⟨gb263, 1, none⟩ = some (.int .i64 a2_1)) (ds := []) #[F, F, F, F, F, F, F, F, F, F, F, F, F] (by kernel_rfl) rfl rfl ⟨bc BK262 0, bc BK262 1, bc BK263 0, bc BK263 1⟩ (fun hHeld => ?_); refine with_tabW laws_FnExactRangeCmp.tab1 laws_FnExactRangeCmp.bits1 (fun HT_ HW_ => ?_)
   generalize w15.drew = w16 at BK262 BK263 HB hHeld ⊢
   refine pure_ (i := 0) (N := some 12) (v := ?_) (a' := ?_) #[T, F, F, F, F, F, F, F, F, F, F, F, F] rfl rfl (any_of HT_.out (by kernel_rfl)) (fun _ _ _ h => h) (Or.inl ⟨by rfl, ?_⟩) ?_ ?_
   rotate_left
   ·exact gz
   rotate_left
   ·exact pz
   refine take_ (i := 1) (N := some 13) (v := ?_) (a' := ?_) #[T, T, F, F, F, F, F, F, F, F, F, F, F] rfl rfl (take_ofW HT_.out HW_.out (by kernel_rfl)) (fun _ _ _ h => h) (Or.inl ⟨by rfl, ?_⟩) hHeld ?_ ?_
   rotate_left
   ·rintro w' ⟨s0, s1, s2, s3⟩
    go_simp
    with_reducible rfl
   rotate_left
   ·exact pz
   refine take_ (i := 3) (N := some 15) (v := ?_) (a' := ?_) #[T, T, F, T, F, F, F, F, F, F, F, F, F] rfl rfl (take_ofW HT_.out HW_.out (by kernel_rfl)) (fun _ _ _ h => h) (Or.inl ⟨by rfl, ?_⟩) hHeld ?_ ?_
   rotate_left
   ·rintro w' ⟨s0, s1, s2, s3⟩
    go_simp
    with_reducible rfl
   rotate_left
   ·exact pz
   refine join_ (σ := Nat × Nat) 2 #[T, T, T, T, T, T, T, T, T, T, T, F, F] (fun s_ => [(14, .agg #[.int .i64 t264, .int .i64 t265]), (16, .agg #[.int .i64 t266, .int .i64 t267]), (17, .tuple #[.agg #[.int .i64 t268, .int .i64 t269], .agg #[.int .i64 t270, .int .i64 t271]]), (7, .pointer (some ⟨s_.1, 0, none⟩)), (8, .pointer (some ⟨s_.2, 0, none⟩)), (11, .tuple #[.agg #[.int .i64 t268, .int .i64 t269], .agg #[.int .i64 t270, .int .i64 t271]]), (18, .agg #[.int .i64 t268, .int .i64 t269]), (19, .agg #[.int .i64 t270, .int .i64 t271])]) (fun s_ w' => (w'.cell? ⟨gb262, 0, none⟩ = some (.int .i64 a1_0) ∧ w'.cell? ⟨gb262, 1, none⟩ = some (.int .i64 a1_1) ∧ w'.cell? ⟨gb263, 0, none⟩ = some (.int .i64 a2_0) ∧ w'.cell? ⟨gb263, 1, none⟩ = some (.int .i64 a2_1)) ∧ (w'.heap[gb262]? = some (.cells #[.int .i64 a1_0, .int .i64 a1_1] 23 (0, 0))) ∧ (w'.heap[gb263]? = some (.cells #[.int .i64 a2_0, .int .i64 a2_1] 23 (0, 0))) ∧ (w'.heap[s_.1]? = some (.cells #[.int .i64 0, .int .i64 0] 24 (0, 0))) ∧ (w'.heap[s_.2]? = some (.cells #[.int .i64 0, .int .i64 0] 24 (0, 0))) ∧ (w.heap.size ≤ s_.1) ∧ (w.heap.size ≤ s_.1) ∧ (gb262 ≠ s_.1) ∧ (s_.1 ≠ gb262) ∧ (gb263 ≠ s_.1) ∧ (s_.1 ≠ gb263) ∧ (s_.2 ≠ s_.1) ∧ (s_.1 ≠ s_.2) ∧ (w.heap.size ≤ s_.2) ∧ (w.heap.size ≤ s_.2) ∧ (gb262 ≠ s_.2) ∧ (s_.2 ≠ gb262) ∧ (gb263 ≠ s_.2) ∧ (s_.2 ≠ gb263) ∧ (Below w.heap.size w w')) ?_ ?_
   rotate_left
   ·intro hJ2_4_5_9_10
    refine join_ (σ := Nat) 3 #[T, T, T, T, T, T, T, T, T, T, F, F, F] (fun s_ => [(14, .agg #[.int .i64 t264, .int .i64 t265]), (16, .agg #[.int .i64 t266, .int .i64 t267]), (17, .tuple #[.agg #[.int .i64 t268, .int .i64 t269], .agg #[.int .i64 t270, .int .i64 t271]]), (7, .pointer (some ⟨s_, 0, none⟩)), (11, .tuple #[.agg #[.int .i64 t268, .int .i64 t269], .agg #[.int .i64 t270, .int .i64 t271]]), (18, .agg #[.int .i64 t268, .int .i64 t269]), (19, .agg #[.int .i64 t270, .int .i64 t271])]) (fun s_ w' => (w'.cell? ⟨gb262, 0, none⟩ = some (.int .i64 a1_0) ∧ w'.cell? ⟨gb262, 1, none⟩ = some (.int .i64 a1_1) ∧ w'.cell? ⟨gb263, 0, none⟩ = some (.int .i64 a2_0) ∧ w'.cell? ⟨gb263, 1, none⟩ = some (.int .i64 a2_1)) ∧ (w'.heap[gb262]? = some (.cells #[.int .i64 a1_0, .int .i64 a1_1] 23 (0, 0))) ∧ (w'.heap[gb263]? = some (.cells #[.int .i64 a2_0, .int .i64 a2_1] 23 (0, 0))) ∧ (w'.heap[s_]? = some (.cells #[.int .i64 0, .int .i64 0] 24 (0, 0))) ∧ (w.heap.size ≤ s_) ∧ (w.heap.size ≤ s_) ∧ (gb262 ≠ s_) ∧ (s_ ≠ gb262) ∧ (gb263 ≠ s_) ∧ (s_ ≠ gb263) ∧ (Below w.heap.size w w')) ?_ ?_
    rotate_left
    ·intro hJ2_4_5_9
     refine join_ (σ := Nat) 3 #[T, T, T, T, T, T, T, T, T, F, T, F, F] (fun s_ => [(14, .agg #[.int .i64 t264, .int .i64 t265]), (16, .agg #[.int .i64 t266, .int .i64 t267]), (17, .tuple #[.agg #[.int .i64 t268, .int .i64 t269], .agg #[.int .i64 t270, .int .i64 t271]]), (8, .pointer (some ⟨s_, 0, none⟩)), (11, .tuple #[.agg #[.int .i64 t268, .int .i64 t269], .agg #[.int .i64 t270, .int .i64 t271]]), (18, .agg #[.int .i64 t268, .int .i64 t269]), (19, .agg #[.int .i64 t270, .int .i64 t271])]) (fun s_ w' => (w'.cell? ⟨gb262, 0, none⟩ = some (.int .i64 a1_0) ∧ w'.cell? ⟨gb262, 1, none⟩ = some (.int .i64 a1_1) ∧ w'.cell? ⟨gb263, 0, none⟩ = some (.int .i64 a2_0) ∧ w'.cell? ⟨gb263, 1, none⟩ = some (.int .i64 a2_1)) ∧ (w'.heap[gb262]? = some (.cells #[.int .i64 a1_0, .int .i64 a1_1] 23 (0, 0))) ∧ (w'.heap[gb263]? = some (.cells #[.int .i64 a2_0, .int .i64 a2_1] 23 (0, 0))) ∧ (w'.heap[s_]? = some (.cells #[.int .i64 0, .int .i64 0] 24 (0, 0))) ∧ (w.heap.size ≤ s_) ∧ (w.heap.size ≤ s_) ∧ (gb262 ≠ s_) ∧ (s_ ≠ gb262) ∧ (gb263 ≠ s_) ∧ (s_ ≠ gb263) ∧ (Below w.heap.size w w')) ?_ ?_
     rotate_left
     ·intro hJ2_4_5_10
      refine join_ (σ := Nat × Nat) 6 #[T, T, T, T, T, F, F, F, F, T, T, F, F] (fun s_ => [(14, .agg #[.int .i64 t264, .int .i64 t265]), (16, .agg #[.int .i64 t266, .int .i64 t267]), (7, .pointer (some ⟨s_.1, 0, none⟩)), (8, .pointer (some ⟨s_.2, 0, none⟩))]) (fun s_ w' => (w'.cell? ⟨gb262, 0, none⟩ = some (.int .i64 a1_0) ∧ w'.cell? ⟨gb262, 1, none⟩ = some (.int .i64 a1_1) ∧ w'.cell? ⟨gb263, 0, none⟩ = some (.int .i64 a2_0) ∧ w'.cell? ⟨gb263, 1, none⟩ = some (.int .i64 a2_1)) ∧ (w'.heap[gb262]? = some (.cells #[.int .i64 a1_0, .int .i64 a1_1] 23 (0, 0))) ∧ (w'.heap[gb263]? = some (.cells #[.int .i64 a2_0, .int .i64 a2_1] 23 (0, 0))) ∧ (w'.heap[s_.1]? = some (.cells #[.int .i64 0, .int .i64 0] 24 (0, 0))) ∧ (w'.heap[s_.2]? = some (.cells #[.int .i64 0, .int .i64 0] 24 (0, 0))) ∧ (w.heap.size ≤ s_.1) ∧ (w.heap.size ≤ s_.1) ∧ (gb262 ≠ s_.1) ∧ (s_.1 ≠ gb262) ∧ (gb263 ≠ s_.1) ∧ (s_.1 ≠ gb263) ∧ (s_.2 ≠ s_.1) ∧ (s_.1 ≠ s_.2) ∧ (w.heap.size ≤ s_.2) ∧ (w.heap.size ≤ s_.2) ∧ (gb262 ≠ s_.2) ∧ (s_.2 ≠ gb262) ∧ (gb263 ≠ s_.2) ∧ (s_.2 ≠ gb263) ∧ (Below w.heap.size w w')) ?_ ?_
      rotate_left
      ·intro hJ2_4_9_10
       refine join_ (σ := Unit) 4 #[T, T, T, T, T, T, T, T, T, F, F, F, F] (fun s_ => [(14, .agg #[.int .i64 t264, .int .i64 t265]), (16, .agg #[.int .i64 t266, .int .i64 t267]), (17, .tuple #[.agg #[.int .i64 t268, .int .i64 t269], .agg #[.int .i64 t270, .int .i64 t271]]), (11, .tuple #[.agg #[.int .i64 t268, .int .i64 t269], .agg #[.int .i64 t270, .int .i64 t271]]), (18, .agg #[.int .i64 t268, .int .i64 t269]), (19, .agg #[.int .i64 t270, .int .i64 t271])]) (fun s_ w' => (w'.cell? ⟨gb262, 0, none⟩ = some (.int .i64 a1_0) ∧ w'.cell? ⟨gb262, 1, none⟩ = some (.int .i64 a1_1) ∧ w'.cell? ⟨gb263, 0, none⟩ = some (.int .i64 a2_0) ∧ w'.cell? ⟨gb263, 1, none⟩ = some (.int .i64 a2_1)) ∧ (w'.heap[gb262]? = some (.cells #[.int .i64 a1_0, .int .i64 a1_1] 23 (0, 0))) ∧ (w'.heap[gb263]? = some (.cells #[.int .i64 a2_0, .int .i64 a2_1] 23 (0, 0))) ∧ (Below w.heap.size w w')) ?_ ?_
       rotate_left
       ·intro hJ2_4_5
        refine join_ (σ := Nat) 7 #[T, T, T, T, T, F, F, F, F, T, F, F, F] (fun s_ => [(14, .agg #[.int .i64 t264, .int .i64 t265]), (16, .agg #[.int .i64 t266, .int .i64 t267]), (7, .pointer (some ⟨s_, 0, none⟩))]) (fun s_ w' => (w'.cell? ⟨gb262, 0, none⟩ = some (.int .i64 a1_0) ∧ w'.cell? ⟨gb262, 1, none⟩ = some (.int .i64 a1_1) ∧ w'.cell? ⟨gb263, 0, none⟩ = some (.int .i64 a2_0) ∧ w'.cell? ⟨gb263, 1, none⟩ = some (.int .i64 a2_1)) ∧ (w'.heap[gb262]? = some (.cells #[.int .i64 a1_0, .int .i64 a1_1] 23 (0, 0))) ∧ (w'.heap[gb263]? = some (.cells #[.int .i64 a2_0, .int .i64 a2_1] 23 (0, 0))) ∧ (w'.heap[s_]? = some (.cells #[.int .i64 0, .int .i64 0] 24 (0, 0))) ∧ (w.heap.size ≤ s_) ∧ (w.heap.size ≤ s_) ∧ (gb262 ≠ s_) ∧ (s_ ≠ gb262) ∧ (gb263 ≠ s_) ∧ (s_ ≠ gb263) ∧ (Below w.heap.size w w')) ?_ ?_
        rotate_left
        ·intro hJ2_4_9
         refine join_ (σ := Nat) 7 #[T, T, T, T, T, F, F, F, F, F, T, F, F] (fun s_ => [(14, .agg #[.int .i64 t264, .int .i64 t265]), (16, .agg #[.int .i64 t266, .int .i64 t267]), (8, .pointer (some ⟨s_, 0, none⟩))]) (fun s_ w' => (w'.cell? ⟨gb262, 0, none⟩ = some (.int .i64 a1_0) ∧ w'.cell? ⟨gb262, 1, none⟩ = some (.int .i64 a1_1) ∧ w'.cell? ⟨gb263, 0, none⟩ = some (.int .i64 a2_0) ∧ w'.cell? ⟨gb263, 1, none⟩ = some (.int .i64 a2_1)) ∧ (w'.heap[gb262]? = some (.cells #[.int .i64 a1_0, .int .i64 a1_1] 23 (0, 0))) ∧ (w'.heap[gb263]? = some (.cells #[.int .i64 a2_0, .int .i64 a2_1] 23 (0, 0))) ∧ (w'.heap[s_]? = some (.cells #[.int .i64 0, .int .i64 0] 24 (0, 0))) ∧ (w.heap.size ≤ s_) ∧ (w.heap.size ≤ s_) ∧ (gb262 ≠ s_) ∧ (s_ ≠ gb262) ∧ (gb263 ≠ s_) ∧ (s_ ≠ gb263) ∧ (Below w.heap.size w w')) ?_ ?_
         rotate_left
         ·intro hJ2_4_10
          refine join_ (σ := Nat × Nat) 7 #[T, T, T, T, F, F, F, F, F, T, T, F, F] (fun s_ => [(14, .agg #[.int .i64 t264, .int .i64 t265]), (7, .pointer (some ⟨s_.1, 0, none⟩)), (8, .pointer (some ⟨s_.2, 0, none⟩))]) (fun s_ w' => (w'.cell? ⟨gb262, 0, none⟩ = some (.int .i64 a1_0) ∧ w'.cell? ⟨gb262, 1, none⟩ = some (.int .i64 a1_1) ∧ w'.cell? ⟨gb263, 0, none⟩ = some (.int .i64 a2_0) ∧ w'.cell? ⟨gb263, 1, none⟩ = some (.int .i64 a2_1)) ∧ (w'.heap[gb262]? = some (.cells #[.int .i64 a1_0, .int .i64 a1_1] 23 (0, 0))) ∧ (w'.heap[gb263]? = some (.cells #[.int .i64 a2_0, .int .i64 a2_1] 23 (0, 0))) ∧ (w'.heap[s_.1]? = some (.cells #[.int .i64 0, .int .i64 0] 24 (0, 0))) ∧ (w'.heap[s_.2]? = some (.cells #[.int .i64 0, .int .i64 0] 24 (0, 0))) ∧ (w.heap.size ≤ s_.1) ∧ (w.heap.size ≤ s_.1) ∧ (gb262 ≠ s_.1) ∧ (s_.1 ≠ gb262) ∧ (gb263 ≠ s_.1) ∧ (s_.1 ≠ gb263) ∧ (s_.2 ≠ s_.1) ∧ (s_.1 ≠ s_.2) ∧ (w.heap.size ≤ s_.2) ∧ (w.heap.size ≤ s_.2) ∧ (gb262 ≠ s_.2) ∧ (s_.2 ≠ gb262) ∧ (gb263 ≠ s_.2) ∧ (s_.2 ≠ gb263) ∧ (Below w.heap.size w w')) ?_ ?_
          rotate_left
          ·intro hJ2_9_10
           refine join_ (σ := Unit) 8 #[T, T, T, T, T, F, F, F, F, F, F, F, F] (fun s_ => [(14, .agg #[.int .i64 t264, .int .i64 t265]), (16, .agg #[.int .i64 t266, .int .i64 t267])]) (fun s_ w' => (w'.cell? ⟨gb262, 0, none⟩ = some (.int .i64 a1_0) ∧ w'.cell? ⟨gb262, 1, none⟩ = some (.int .i64 a1_1) ∧ w'.cell? ⟨gb263, 0, none⟩ = some (.int .i64 a2_0) ∧ w'.cell? ⟨gb263, 1, none⟩ = some (.int .i64 a2_1)) ∧ (w'.heap[gb262]? = some (.cells #[.int .i64 a1_0, .int .i64 a1_1] 23 (0, 0))) ∧ (w'.heap[gb263]? = some (.cells #[.int .i64 a2_0, .int .i64 a2_1] 23 (0, 0))) ∧ (Below w.heap.size w w')) ?_ ?_
           rotate_left
           ·intro hJ2_4
            refine join_ (σ := Nat) 8 #[T, T, T, T, F, F, F, F, F, T, F, F, F] (fun s_ => [(14, .agg #[.int .i64 t264, .int .i64 t265]), (7, .pointer (some ⟨s_, 0, none⟩))]) (fun s_ w' => (w'.cell? ⟨gb262, 0, none⟩ = some (.int .i64 a1_0) ∧ w'.cell? ⟨gb262, 1, none⟩ = some (.int .i64 a1_1) ∧ w'.cell? ⟨gb263, 0, none⟩ = some (.int .i64 a2_0) ∧ w'.cell? ⟨gb263, 1, none⟩ = some (.int .i64 a2_1)) ∧ (w'.heap[gb262]? = some (.cells #[.int .i64 a1_0, .int .i64 a1_1] 23 (0, 0))) ∧ (w'.heap[gb263]? = some (.cells #[.int .i64 a2_0, .int .i64 a2_1] 23 (0, 0))) ∧ (w'.heap[s_]? = some (.cells #[.int .i64 0, .int .i64 0] 24 (0, 0))) ∧ (w.heap.size ≤ s_) ∧ (w.heap.size ≤ s_) ∧ (gb262 ≠ s_) ∧ (s_ ≠ gb262) ∧ (gb263 ≠ s_) ∧ (s_ ≠ gb263) ∧ (Below w.heap.size w w')) ?_ ?_
            rotate_left
            ·intro hJ2_9
             refine join_ (σ := Nat) 8 #[T, T, T, T, F, F, F, F, F, F, T, F, F] (fun s_ => [(14, .agg #[.int .i64 t264, .int .i64 t265]), (8, .pointer (some ⟨s_, 0, none⟩))]) (fun s_ w' => (w'.cell? ⟨gb262, 0, none⟩ = some (.int .i64 a1_0) ∧ w'.cell? ⟨gb262, 1, none⟩ = some (.int .i64 a1_1) ∧ w'.cell? ⟨gb263, 0, none⟩ = some (.int .i64 a2_0) ∧ w'.cell? ⟨gb263, 1, none⟩ = some (.int .i64 a2_1)) ∧ (w'.heap[gb262]? = some (.cells #[.int .i64 a1_0, .int .i64 a1_1] 23 (0, 0))) ∧ (w'.heap[gb263]? = some (.cells #[.int .i64 a2_0, .int .i64 a2_1] 23 (0, 0))) ∧ (w'.heap[s_]? = some (.cells #[.int .i64 0, .int .i64 0] 24 (0, 0))) ∧ (w.heap.size ≤ s_) ∧ (w.heap.size ≤ s_) ∧ (gb262 ≠ s_) ∧ (s_ ≠ gb262) ∧ (gb263 ≠ s_) ∧ (s_ ≠ gb263) ∧ (Below w.heap.size w w')) ?_ ?_
             rotate_left
             ·intro hJ2_10
              refine join_ (σ := Nat × Nat) 8 #[T, T, F, T, F, F, F, F, F, T, T, F, F] (fun s_ => [(7, .pointer (some ⟨s_.1, 0, none⟩)), (8, .pointer (some ⟨s_.2, 0, none⟩))]) (fun s_ w' => (w'.cell? ⟨gb262, 0, none⟩ = some (.int .i64 a1_0) ∧ w'.cell? ⟨gb262, 1, none⟩ = some (.int .i64 a1_1) ∧ w'.cell? ⟨gb263, 0, none⟩ = some (.int .i64 a2_0) ∧ w'.cell? ⟨gb263, 1, none⟩ = some (.int .i64 a2_1)) ∧ (w'.heap[gb262]? = some (.cells #[.int .i64 a1_0, .int .i64 a1_1] 23 (0, 0))) ∧ (w'.heap[gb263]? = some (.cells #[.int .i64 a2_0, .int .i64 a2_1] 23 (0, 0))) ∧ (w'.heap[s_.1]? = some (.cells #[.int .i64 0, .int .i64 0] 24 (0, 0))) ∧ (w'.heap[s_.2]? = some (.cells #[.int .i64 0, .int .i64 0] 24 (0, 0))) ∧ (w.heap.size ≤ s_.1) ∧ (w.heap.size ≤ s_.1) ∧ (gb262 ≠ s_.1) ∧ (s_.1 ≠ gb262) ∧ (gb263 ≠ s_.1) ∧ (s_.1 ≠ gb263) ∧ (s_.2 ≠ s_.1) ∧ (s_.1 ≠ s_.2) ∧ (w.heap.size ≤ s_.2) ∧ (w.heap.size ≤ s_.2) ∧ (gb262 ≠ s_.2) ∧ (s_.2 ≠ gb262) ∧ (gb263 ≠ s_.2) ∧ (s_.2 ≠ gb263) ∧ (Below w.heap.size w w')) ?_ ?_
              rotate_left
              ·intro hJ9_10
               refine join_ (σ := Unit) 9 #[T, T, T, T, F, F, F, F, F, F, F, F, F] (fun s_ => [(14, .agg #[.int .i64 t264, .int .i64 t265])]) (fun s_ w' => (w'.cell? ⟨gb262, 0, none⟩ = some (.int .i64 a1_0) ∧ w'.cell? ⟨gb262, 1, none⟩ = some (.int .i64 a1_1) ∧ w'.cell? ⟨gb263, 0, none⟩ = some (.int .i64 a2_0) ∧ w'.cell? ⟨gb263, 1, none⟩ = some (.int .i64 a2_1)) ∧ (w'.heap[gb262]? = some (.cells #[.int .i64 a1_0, .int .i64 a1_1] 23 (0, 0))) ∧ (w'.heap[gb263]? = some (.cells #[.int .i64 a2_0, .int .i64 a2_1] 23 (0, 0))) ∧ (Below w.heap.size w w')) ?_ ?_
               rotate_left
               ·intro hJ2
                refine join_ (σ := Nat) 9 #[T, T, F, T, F, F, F, F, F, T, F, F, F] (fun s_ => [(7, .pointer (some ⟨s_, 0, none⟩))]) (fun s_ w' => (w'.cell? ⟨gb262, 0, none⟩ = some (.int .i64 a1_0) ∧ w'.cell? ⟨gb262, 1, none⟩ = some (.int .i64 a1_1) ∧ w'.cell? ⟨gb263, 0, none⟩ = some (.int .i64 a2_0) ∧ w'.cell? ⟨gb263, 1, none⟩ = some (.int .i64 a2_1)) ∧ (w'.heap[gb262]? = some (.cells #[.int .i64 a1_0, .int .i64 a1_1] 23 (0, 0))) ∧ (w'.heap[gb263]? = some (.cells #[.int .i64 a2_0, .int .i64 a2_1] 23 (0, 0))) ∧ (w'.heap[s_]? = some (.cells #[.int .i64 0, .int .i64 0] 24 (0, 0))) ∧ (w.heap.size ≤ s_) ∧ (w.heap.size ≤ s_) ∧ (gb262 ≠ s_) ∧ (s_ ≠ gb262) ∧ (gb263 ≠ s_) ∧ (s_ ≠ gb263) ∧ (Below w.heap.size w w')) ?_ ?_
                rotate_left
                ·intro hJ9
                 refine join_ (σ := Nat) 9 #[T, T, F, T, F, F, F, F, F, F, T, F, F] (fun s_ => [(8, .pointer (some ⟨s_, 0, none⟩))]) (fun s_ w' => (w'.cell? ⟨gb262, 0, none⟩ = some (.int .i64 a1_0) ∧ w'.cell? ⟨gb262, 1, none⟩ = some (.int .i64 a1_1) ∧ w'.cell? ⟨gb263, 0, none⟩ = some (.int .i64 a2_0) ∧ w'.cell? ⟨gb263, 1, none⟩ = some (.int .i64 a2_1)) ∧ (w'.heap[gb262]? = some (.cells #[.int .i64 a1_0, .int .i64 a1_1] 23 (0, 0))) ∧ (w'.heap[gb263]? = some (.cells #[.int .i64 a2_0, .int .i64 a2_1] 23 (0, 0))) ∧ (w'.heap[s_]? = some (.cells #[.int .i64 0, .int .i64 0] 24 (0, 0))) ∧ (w.heap.size ≤ s_) ∧ (w.heap.size ≤ s_) ∧ (gb262 ≠ s_) ∧ (s_ ≠ gb262) ∧ (gb263 ≠ s_) ∧ (s_ ≠ gb263) ∧ (Below w.heap.size w w')) ?_ ?_
                 rotate_left
                 ·intro hJ10
                  refine three_ (i := 2) (j := 9) (k := 10) (Ni := some 14) (Nj := some 7) (Nk := some 8) #[T, T, T, T, F, F, F, F, F, F, F, F, F] #[T, T, F, T, F, F, F, F, F, T, F, F, F] #[T, T, F, T, F, F, F, F, F, F, T, F, F] rfl rfl rfl rfl rfl rfl (three_of HT_.out (by kernel_rfl)) (by decide) (by decide) (by decide) (fun K hK => ?_) (fun K hK => ?_) (fun K hK => ?_)
                  ·skip
                   refine goes_ Try.func16 (by kernel_rfl) rfl #[.agg #[.int .i64 a1_0, .int .i64 a1_1]] (by rfl) rfl rfl mz ?_
                   with_reducible refine (laws_toRange.calls a1_0 a1_1 t264 t265 _ A4.out).mono ?_
                   rintro e w17 ⟨rfl, hb⟩
                   refine ⟨_, rfl, ?_⟩
                   have n0_ := am (blk_below (g := gb262) (o := b2 a1_0 a1_1 23) (Z BK262) hb)
                   have n1_ := am (blk_below (g := gb263) (o := b2 a2_0 a2_1 23) (Z BK263) hb)
                   have n2_ := am (below_step (Y2 HB GE262 GE263) hb)
                   clear BK262
                   clear BK263
                   clear HB
                   have BK262 := n0_
                   have BK263 := n1_
                   have HB := n2_
                   clear n0_ n1_ n2_
                   (try clear hb)
                   (try clear hb2)
                   (try clear hk)
                   (try clear hi)
                   refine hK.out _ _ ⟨bc BK262 0, bc BK262 1, bc BK263 0, bc BK263 1⟩ (fun hHeld => ?_)
                   clear hK K
                   refine norm_ (a' := ?_) ?_ ?_
                   rotate_left
                   ·show Act.put _ (some 14) _ = _
                    simp only [Act.put, List.setIfInBounds_toArray, List.set_cons_zero, List.set_cons_succ, i64_w, i32_w]
                    rfl
                   exact norm_ nz (hJ2 () _ ⟨hHeld, (Z BK262), (Z BK263), (Y2 HB GE262 GE263)⟩)
                  ·skip
                   refine box_step ?hg (N := 7) ?hd (cs := #[.int .i64 0, .int .i64 0]) (t := 24) ?hr ?_; (case hd => rfl); (case hg => rfl); (case hr => first | (go_simp; done) | (go_simp; rfl))
                   intro gb272 hg w17 hbox hb
                   have n0_ := am (blk_below (g := gb262) (o := b2 a1_0 a1_1 23) (Z BK262) hb)
                   have n1_ := am (blk_below (g := gb263) (o := b2 a2_0 a2_1 23) (Z BK263) hb)
                   have n2_ := am (below_step (Y2 HB GE262 GE263) hb)
                   have n3_ := am (hbox)
                   have n4_ := am ((by rw [hg]; exact (below_size (Y2 HB GE262 GE263)) : w.heap.size ≤ gb272))
                   have n5_ := am ((by rw [hg]; exact (below_size (Y2 HB GE262 GE263)) : w.heap.size ≤ gb272))
                   have n6_ := am ((nl (o := b2 a1_0 a1_1 23) hg (Z BK262) : gb262 ≠ gb272))
                   have n7_ := am ((ng (o := b2 a1_0 a1_1 23) hg (Z BK262) : gb272 ≠ gb262))
                   have n8_ := am ((nl (o := b2 a2_0 a2_1 23) hg (Z BK263) : gb263 ≠ gb272))
                   have n9_ := am ((ng (o := b2 a2_0 a2_1 23) hg (Z BK263) : gb272 ≠ gb263))
                   clear BK262
                   clear BK263
                   clear HB
                   have BK262 := n0_
                   have BK263 := n1_
                   have HB := n2_
                   have BK272 := n3_
                   have GW272 := n4_
                   have GE272 := n5_
                   have NB262_272 := n6_
                   have NB272_262 := n7_
                   have NB263_272 := n8_
                   have NB272_263 := n9_
                   clear n0_ n1_ n2_ n3_ n4_ n5_ n6_ n7_ n8_ n9_
                   clear hb hbox hg
                   refine hK.out _ _ ⟨bc BK262 0, bc BK262 1, bc BK263 0, bc BK263 1⟩ (fun hHeld => ?_)
                   clear hK K
                   refine norm_ (a' := ?_) ?_ ?_
                   rotate_left
                   ·show Act.put _ (some 7) _ = _
                    simp only [Act.put, List.setIfInBounds_toArray, List.set_cons_zero, List.set_cons_succ, i64_w, i32_w]
                    rfl
                   exact norm_ nz (hJ9 (gb272) _ ⟨hHeld, (Z BK262), (Z BK263), (Z BK272), GW272.out, GE272.out, NB262_272.out, NB272_262.out, NB263_272.out, NB272_263.out, (Y3 HB GE262 GE263 GE272)⟩)
                  ·skip
                   refine box_step ?hg (N := 8) ?hd (cs := #[.int .i64 0, .int .i64 0]) (t := 24) ?hr ?_; (case hd => rfl); (case hg => rfl); (case hr => first | (go_simp; done) | (go_simp; rfl))
                   intro gb273 hg w17 hbox hb
                   have n0_ := am (blk_below (g := gb262) (o := b2 a1_0 a1_1 23) (Z BK262) hb)
                   have n1_ := am (blk_below (g := gb263) (o := b2 a2_0 a2_1 23) (Z BK263) hb)
                   have n2_ := am (below_step (Y2 HB GE262 GE263) hb)
                   have n3_ := am (hbox)
                   have n4_ := am ((by rw [hg]; exact (below_size (Y2 HB GE262 GE263)) : w.heap.size ≤ gb273))
                   have n5_ := am ((by rw [hg]; exact (below_size (Y2 HB GE262 GE263)) : w.heap.size ≤ gb273))
                   have n6_ := am ((nl (o := b2 a1_0 a1_1 23) hg (Z BK262) : gb262 ≠ gb273))
                   have n7_ := am ((ng (o := b2 a1_0 a1_1 23) hg (Z BK262) : gb273 ≠ gb262))
                   have n8_ := am ((nl (o := b2 a2_0 a2_1 23) hg (Z BK263) : gb263 ≠ gb273))
                   have n9_ := am ((ng (o := b2 a2_0 a2_1 23) hg (Z BK263) : gb273 ≠ gb263))
                   clear BK262
                   clear BK263
                   clear HB
                   have BK262 := n0_
                   have BK263 := n1_
                   have HB := n2_
                   have BK273 := n3_
                   have GW273 := n4_
                   have GE273 := n5_
                   have NB262_273 := n6_
                   have NB273_262 := n7_
                   have NB263_273 := n8_
                   have NB273_263 := n9_
                   clear n0_ n1_ n2_ n3_ n4_ n5_ n6_ n7_ n8_ n9_
                   clear hb hbox hg
                   refine hK.out _ _ ⟨bc BK262 0, bc BK262 1, bc BK263 0, bc BK263 1⟩ (fun hHeld => ?_)
                   clear hK K
                   refine norm_ (a' := ?_) ?_ ?_
                   rotate_left
                   ·show Act.put _ (some 8) _ = _
                    simp only [Act.put, List.setIfInBounds_toArray, List.set_cons_zero, List.set_cons_succ, i64_w, i32_w]
                    rfl
                   exact norm_ nz (hJ10 (gb273) _ ⟨hHeld, (Z BK262), (Z BK263), (Z BK273), GW273.out, GE273.out, NB262_273.out, NB273_262.out, NB263_273.out, NB273_263.out, (Y3 HB GE262 GE263 GE273)⟩)
                 ·skip
                  rintro gb273 w18 ⟨hS_, h0_, h1_, h2_, h3_, h4_, h5_, h6_, h7_, h8_, h9_⟩
                  have n0_ : Aside0 (w18.heap[gb262]? = some (.cells #[.int .i64 a1_0, .int .i64 a1_1] 23 (0, 0))) := ⟨h0_⟩
                  have n1_ : Aside0 (w18.heap[gb263]? = some (.cells #[.int .i64 a2_0, .int .i64 a2_1] 23 (0, 0))) := ⟨h1_⟩
                  have n2_ : Aside0 (w18.heap[gb273]? = some (.cells #[.int .i64 0, .int .i64 0] 24 (0, 0))) := ⟨h2_⟩
                  have n3_ : Aside0 (w.heap.size ≤ gb273) := ⟨h3_⟩
                  have n4_ : Aside0 (w.heap.size ≤ gb273) := ⟨h4_⟩
                  have n5_ : Aside0 (gb262 ≠ gb273) := ⟨h5_⟩
                  have n6_ : Aside0 (gb273 ≠ gb262) := ⟨h6_⟩
                  have n7_ : Aside0 (gb263 ≠ gb273) := ⟨h7_⟩
                  have n8_ : Aside0 (gb273 ≠ gb263) := ⟨h8_⟩
                  have n9_ : Aside0 (Below w.heap.size w w18) := ⟨h9_⟩
                  clear BK262
                  clear BK263
                  clear HB
                  clear h0_ h1_ h2_ h3_ h4_ h5_ h6_ h7_ h8_ h9_
                  have BK262 := n0_
                  have BK263 := n1_
                  have BK273 := n2_
                  have GW273 := n3_
                  have GE273 := n4_
                  have NB262_273 := n5_
                  have NB273_262 := n6_
                  have NB263_273 := n7_
                  have NB273_263 := n8_
                  have HB := n9_
                  clear n0_ n1_ n2_ n3_ n4_ n5_ n6_ n7_ n8_ n9_
                  have hHeld : w18.cell? ⟨gb262, 0, none⟩ = some (.int .i64 a1_0) ∧ w18.cell? ⟨gb262, 1, none⟩ = some (.int .i64 a1_1) ∧ w18.cell? ⟨gb263, 0, none⟩ = some (.int .i64 a2_0) ∧ w18.cell? ⟨gb263, 1, none⟩ = some (.int .i64 a2_1) := hS_
                  refine norm_ (a' := ?_) ?_ ?_
                  rotate_left
                  ·simp only [putAll, Act.put, List.setIfInBounds_toArray, List.set_cons_zero, List.set_cons_succ]
                   rfl
                  refine two_ (i := 2) (j := 9) (Ni := some 14) (Nj := some 7) #[T, T, T, T, F, F, F, F, F, F, T, F, F] #[T, T, F, T, F, F, F, F, F, T, T, F, F] rfl rfl rfl rfl (two_of HT_.out (by kernel_rfl)) (by decide) (by decide) (fun K hK => ?_) (fun K hK => ?_)
                  ·skip
                   refine goes_ Try.func16 (by kernel_rfl) rfl #[.agg #[.int .i64 a1_0, .int .i64 a1_1]] (by rfl) rfl rfl mz ?_
                   with_reducible refine (laws_toRange.calls a1_0 a1_1 t264 t265 _ A4.out).mono ?_
                   rintro e w19 ⟨rfl, hb⟩
                   refine ⟨_, rfl, ?_⟩
                   have n0_ := am (blk_below (g := gb262) (o := b2 a1_0 a1_1 23) (Z BK262) hb)
                   have n1_ := am (blk_below (g := gb263) (o := b2 a2_0 a2_1 23) (Z BK263) hb)
                   have n2_ := am (blk_below (g := gb273) (o := b2 0 0 24) (Z BK273) hb)
                   have n3_ := am (below_step (Y3 HB GE262 GE263 GE273) hb)
                   clear BK262
                   clear BK263
                   clear BK273
                   clear HB
                   have BK262 := n0_
                   have BK263 := n1_
                   have BK273 := n2_
                   have HB := n3_
                   clear n0_ n1_ n2_ n3_
                   (try clear hb)
                   (try clear hb2)
                   (try clear hk)
                   (try clear hi)
                   refine hK.out _ _ ⟨bc BK262 0, bc BK262 1, bc BK263 0, bc BK263 1⟩ (fun hHeld => ?_)
                   clear hK K
                   refine norm_ (a' := ?_) ?_ ?_
                   rotate_left
                   ·show Act.put _ (some 14) _ = _
                    simp only [Act.put, List.setIfInBounds_toArray, List.set_cons_zero, List.set_cons_succ, i64_w, i32_w]
                    rfl
                   exact norm_ nz (hJ2_10 (gb273) _ ⟨hHeld, (Z BK262), (Z BK263), (Z BK273), GW273.out, GE273.out, NB262_273.out, NB273_262.out, NB263_273.out, NB273_263.out, (Y3 HB GE262 GE263 GE273)⟩)
                  ·skip
                   refine box_step ?hg (N := 7) ?hd (cs := #[.int .i64 0, .int .i64 0]) (t := 24) ?hr ?_; (case hd => rfl); (case hg => rfl); (case hr => first | (go_simp; done) | (go_simp; rfl))
                   intro gb272 hg w19 hbox hb
                   have n0_ := am (blk_below (g := gb262) (o := b2 a1_0 a1_1 23) (Z BK262) hb)
                   have n1_ := am (blk_below (g := gb263) (o := b2 a2_0 a2_1 23) (Z BK263) hb)
                   have n2_ := am (blk_below (g := gb273) (o := b2 0 0 24) (Z BK273) hb)
                   have n3_ := am (below_step (Y3 HB GE262 GE263 GE273) hb)
                   have n4_ := am (hbox)
                   have n5_ := am ((by rw [hg]; exact (below_size (Y3 HB GE262 GE263 GE273)) : w.heap.size ≤ gb272))
                   have n6_ := am ((by rw [hg]; exact (below_size (Y3 HB GE262 GE263 GE273)) : w.heap.size ≤ gb272))
                   have n7_ := am ((nl (o := b2 a1_0 a1_1 23) hg (Z BK262) : gb262 ≠ gb272))
                   have n8_ := am ((ng (o := b2 a1_0 a1_1 23) hg (Z BK262) : gb272 ≠ gb262))
                   have n9_ := am ((nl (o := b2 a2_0 a2_1 23) hg (Z BK263) : gb263 ≠ gb272))
                   have n10_ := am ((ng (o := b2 a2_0 a2_1 23) hg (Z BK263) : gb272 ≠ gb263))
                   have n11_ := am ((nl (o := b2 0 0 24) hg (Z BK273) : gb273 ≠ gb272))
                   have n12_ := am ((ng (o := b2 0 0 24) hg (Z BK273) : gb272 ≠ gb273))
                   clear BK262
                   clear BK263
                   clear BK273
                   clear HB
                   have BK262 := n0_
                   have BK263 := n1_
                   have BK273 := n2_
                   have HB := n3_
                   have BK272 := n4_
                   have GW272 := n5_
                   have GE272 := n6_
                   have NB262_272 := n7_
                   have NB272_262 := n8_
                   have NB263_272 := n9_
                   have NB272_263 := n10_
                   have NB273_272 := n11_
                   have NB272_273 := n12_
                   clear n0_ n1_ n2_ n3_ n4_ n5_ n6_ n7_ n8_ n9_ n10_ n11_ n12_
                   clear hb hbox hg
                   refine hK.out _ _ ⟨bc BK262 0, bc BK262 1, bc BK263 0, bc BK263 1⟩ (fun hHeld => ?_)
                   clear hK K
                   refine norm_ (a' := ?_) ?_ ?_
                   rotate_left
                   ·show Act.put _ (some 7) _ = _
                    simp only [Act.put, List.setIfInBounds_toArray, List.set_cons_zero, List.set_cons_succ, i64_w, i32_w]
                    rfl
                   exact norm_ nz (hJ9_10 (gb272, gb273) _ ⟨hHeld, (Z BK262), (Z BK263), (Z BK272), (Z BK273), GW272.out, GE272.out, NB262_272.out, NB272_262.out, NB263_272.out, NB272_263.out, NB273_272.out, NB272_273.out, GW273.out, GE273.out, NB262_273.out, NB273_262.out, NB263_273.out, NB273_263.out, (Y4 HB GE262 GE263 GE273 GE272)⟩)
                ·skip
                 rintro gb272 w18 ⟨hS_, h0_, h1_, h2_, h3_, h4_, h5_, h6_, h7_, h8_, h9_⟩
                 have n0_ : Aside0 (w18.heap[gb262]? = some (.cells #[.int .i64 a1_0, .int .i64 a1_1] 23 (0, 0))) := ⟨h0_⟩
                 have n1_ : Aside0 (w18.heap[gb263]? = some (.cells #[.int .i64 a2_0, .int .i64 a2_1] 23 (0, 0))) := ⟨h1_⟩
                 have n2_ : Aside0 (w18.heap[gb272]? = some (.cells #[.int .i64 0, .int .i64 0] 24 (0, 0))) := ⟨h2_⟩
                 have n3_ : Aside0 (w.heap.size ≤ gb272) := ⟨h3_⟩
                 have n4_ : Aside0 (w.heap.size ≤ gb272) := ⟨h4_⟩
                 have n5_ : Aside0 (gb262 ≠ gb272) := ⟨h5_⟩
                 have n6_ : Aside0 (gb272 ≠ gb262) := ⟨h6_⟩
                 have n7_ : Aside0 (gb263 ≠ gb272) := ⟨h7_⟩
                 have n8_ : Aside0 (gb272 ≠ gb263) := ⟨h8_⟩
                 have n9_ : Aside0 (Below w.heap.size w w18) := ⟨h9_⟩
                 clear BK262
                 clear BK263
                 clear HB
                 clear h0_ h1_ h2_ h3_ h4_ h5_ h6_ h7_ h8_ h9_
                 have BK262 := n0_
                 have BK263 := n1_
                 have BK272 := n2_
                 have GW272 := n3_
                 have GE272 := n4_
                 have NB262_272 := n5_
                 have NB272_262 := n6_
                 have NB263_272 := n7_
                 have NB272_263 := n8_
                 have HB := n9_
                 clear n0_ n1_ n2_ n3_ n4_ n5_ n6_ n7_ n8_ n9_
                 have hHeld : w18.cell? ⟨gb262, 0, none⟩ = some (.int .i64 a1_0) ∧ w18.cell? ⟨gb262, 1, none⟩ = some (.int .i64 a1_1) ∧ w18.cell? ⟨gb263, 0, none⟩ = some (.int .i64 a2_0) ∧ w18.cell? ⟨gb263, 1, none⟩ = some (.int .i64 a2_1) := hS_
                 refine norm_ (a' := ?_) ?_ ?_
                 rotate_left
                 ·simp only [putAll, Act.put, List.setIfInBounds_toArray, List.set_cons_zero, List.set_cons_succ]
                  rfl
                 refine two_ (i := 2) (j := 10) (Ni := some 14) (Nj := some 8) #[T, T, T, T, F, F, F, F, F, T, F, F, F] #[T, T, F, T, F, F, F, F, F, T, T, F, F] rfl rfl rfl rfl (two_of HT_.out (by kernel_rfl)) (by decide) (by decide) (fun K hK => ?_) (fun K hK => ?_)
                 ·skip
                  refine goes_ Try.func16 (by kernel_rfl) rfl #[.agg #[.int .i64 a1_0, .int .i64 a1_1]] (by rfl) rfl rfl mz ?_
                  with_reducible refine (laws_toRange.calls a1_0 a1_1 t264 t265 _ A4.out).mono ?_
                  rintro e w19 ⟨rfl, hb⟩
                  refine ⟨_, rfl, ?_⟩
                  have n0_ := am (blk_below (g := gb262) (o := b2 a1_0 a1_1 23) (Z BK262) hb)
                  have n1_ := am (blk_below (g := gb263) (o := b2 a2_0 a2_1 23) (Z BK263) hb)
                  have n2_ := am (blk_below (g := gb272) (o := b2 0 0 24) (Z BK272) hb)
                  have n3_ := am (below_step (Y3 HB GE262 GE263 GE272) hb)
                  clear BK262
                  clear BK263
                  clear BK272
                  clear HB
                  have BK262 := n0_
                  have BK263 := n1_
                  have BK272 := n2_
                  have HB := n3_
                  clear n0_ n1_ n2_ n3_
                  (try clear hb)
                  (try clear hb2)
                  (try clear hk)
                  (try clear hi)
                  refine hK.out _ _ ⟨bc BK262 0, bc BK262 1, bc BK263 0, bc BK263 1⟩ (fun hHeld => ?_)
                  clear hK K
                  refine norm_ (a' := ?_) ?_ ?_
                  rotate_left
                  ·show Act.put _ (some 14) _ = _
                   simp only [Act.put, List.setIfInBounds_toArray, List.set_cons_zero, List.set_cons_succ, i64_w, i32_w]
                   rfl
                  exact norm_ nz (hJ2_9 (gb272) _ ⟨hHeld, (Z BK262), (Z BK263), (Z BK272), GW272.out, GE272.out, NB262_272.out, NB272_262.out, NB263_272.out, NB272_263.out, (Y3 HB GE262 GE263 GE272)⟩)
                 ·skip
                  refine box_step ?hg (N := 8) ?hd (cs := #[.int .i64 0, .int .i64 0]) (t := 24) ?hr ?_; (case hd => rfl); (case hg => rfl); (case hr => first | (go_simp; done) | (go_simp; rfl))
                  intro gb273 hg w19 hbox hb
                  have n0_ := am (blk_below (g := gb262) (o := b2 a1_0 a1_1 23) (Z BK262) hb)
                  have n1_ := am (blk_below (g := gb263) (o := b2 a2_0 a2_1 23) (Z BK263) hb)
                  have n2_ := am (blk_below (g := gb272) (o := b2 0 0 24) (Z BK272) hb)
                  have n3_ := am (below_step (Y3 HB GE262 GE263 GE272) hb)
                  have n4_ := am (hbox)
                  have n5_ := am ((by rw [hg]; exact (below_size (Y3 HB GE262 GE263 GE272)) : w.heap.size ≤ gb273))
                  have n6_ := am ((by rw [hg]; exact (below_size (Y3 HB GE262 GE263 GE272)) : w.heap.size ≤ gb273))
                  have n7_ := am ((nl (o := b2 a1_0 a1_1 23) hg (Z BK262) : gb262 ≠ gb273))
                  have n8_ := am ((ng (o := b2 a1_0 a1_1 23) hg (Z BK262) : gb273 ≠ gb262))
                  have n9_ := am ((nl (o := b2 a2_0 a2_1 23) hg (Z BK263) : gb263 ≠ gb273))
                  have n10_ := am ((ng (o := b2 a2_0 a2_1 23) hg (Z BK263) : gb273 ≠ gb263))
                  have n11_ := am ((nl (o := b2 0 0 24) hg (Z BK272) : gb272 ≠ gb273))
                  have n12_ := am ((ng (o := b2 0 0 24) hg (Z BK272) : gb273 ≠ gb272))
                  clear BK262
                  clear BK263
                  clear BK272
                  clear HB
                  have BK262 := n0_
                  have BK263 := n1_
                  have BK272 := n2_
                  have HB := n3_
                  have BK273 := n4_
                  have GW273 := n5_
                  have GE273 := n6_
                  have NB262_273 := n7_
                  have NB273_262 := n8_
                  have NB263_273 := n9_
                  have NB273_263 := n10_
                  have NB272_273 := n11_
                  have NB273_272 := n12_
                  clear n0_ n1_ n2_ n3_ n4_ n5_ n6_ n7_ n8_ n9_ n10_ n11_ n12_
                  clear hb hbox hg
                  refine hK.out _ _ ⟨bc BK262 0, bc BK262 1, bc BK263 0, bc BK263 1⟩ (fun hHeld => ?_)
                  clear hK K
                  refine norm_ (a' := ?_) ?_ ?_
                  rotate_left
                  ·show Act.put _ (some 8) _ = _
                   simp only [Act.put, List.setIfInBounds_toArray, List.set_cons_zero, List.set_cons_succ, i64_w, i32_w]
                   rfl
                  exact norm_ nz (hJ9_10 (gb272, gb273) _ ⟨hHeld, (Z BK262), (Z BK263), (Z BK272), (Z BK273), GW272.out, GE272.out, NB262_272.out, NB272_262.out, NB263_272.out, NB272_263.out, NB273_272.out, NB272_273.out, GW273.out, GE273.out, NB262_273.out, NB273_262.out, NB263_273.out, NB273_263.out, (Y4 HB GE262 GE263 GE272 GE273)⟩)
               ·skip
                rintro _ w18 ⟨hS_, h0_, h1_, h2_⟩
                have n0_ : Aside0 (w18.heap[gb262]? = some (.cells #[.int .i64 a1_0, .int .i64 a1_1] 23 (0, 0))) := ⟨h0_⟩
                have n1_ : Aside0 (w18.heap[gb263]? = some (.cells #[.int .i64 a2_0, .int .i64 a2_1] 23 (0, 0))) := ⟨h1_⟩
                have n2_ : Aside0 (Below w.heap.size w w18) := ⟨h2_⟩
                clear BK262
                clear BK263
                clear HB
                clear h0_ h1_ h2_
                have BK262 := n0_
                have BK263 := n1_
                have HB := n2_
                clear n0_ n1_ n2_
                have hHeld : w18.cell? ⟨gb262, 0, none⟩ = some (.int .i64 a1_0) ∧ w18.cell? ⟨gb262, 1, none⟩ = some (.int .i64 a1_1) ∧ w18.cell? ⟨gb263, 0, none⟩ = some (.int .i64 a2_0) ∧ w18.cell? ⟨gb263, 1, none⟩ = some (.int .i64 a2_1) := hS_
                refine norm_ (a' := ?_) ?_ ?_
                rotate_left
                ·simp only [putAll, Act.put, List.setIfInBounds_toArray, List.set_cons_zero, List.set_cons_succ]
                 rfl
                refine three_ (i := 4) (j := 9) (k := 10) (Ni := some 16) (Nj := some 7) (Nk := some 8) #[T, T, T, T, T, F, F, F, F, F, F, F, F] #[T, T, T, T, F, F, F, F, F, T, F, F, F] #[T, T, T, T, F, F, F, F, F, F, T, F, F] rfl rfl rfl rfl rfl rfl (three_of HT_.out (by kernel_rfl)) (by decide) (by decide) (by decide) (fun K hK => ?_) (fun K hK => ?_) (fun K hK => ?_)
                ·skip
                 refine goes_ Try.func16 (by kernel_rfl) rfl #[.agg #[.int .i64 a2_0, .int .i64 a2_1]] (by rfl) rfl rfl mz ?_
                 with_reducible refine (laws_toRange.calls a2_0 a2_1 t266 t267 _ A5.out).mono ?_
                 rintro e w19 ⟨rfl, hb⟩
                 refine ⟨_, rfl, ?_⟩
                 have n0_ := am (blk_below (g := gb262) (o := b2 a1_0 a1_1 23) (Z BK262) hb)
                 have n1_ := am (blk_below (g := gb263) (o := b2 a2_0 a2_1 23) (Z BK263) hb)
                 have n2_ := am (below_step (Y2 HB GE262 GE263) hb)
                 clear BK262
                 clear BK263
                 clear HB
                 have BK262 := n0_
                 have BK263 := n1_
                 have HB := n2_
                 clear n0_ n1_ n2_
                 (try clear hb)
                 (try clear hb2)
                 (try clear hk)
                 (try clear hi)
                 refine hK.out _ _ ⟨bc BK262 0, bc BK262 1, bc BK263 0, bc BK263 1⟩ (fun hHeld => ?_)
                 clear hK K
                 refine norm_ (a' := ?_) ?_ ?_
                 rotate_left
                 ·show Act.put _ (some 16) _ = _
                  simp only [Act.put, List.setIfInBounds_toArray, List.set_cons_zero, List.set_cons_succ, i64_w, i32_w]
                  rfl
                 exact norm_ nz (hJ2_4 () _ ⟨hHeld, (Z BK262), (Z BK263), (Y2 HB GE262 GE263)⟩)
                ·skip
                 refine box_step ?hg (N := 7) ?hd (cs := #[.int .i64 0, .int .i64 0]) (t := 24) ?hr ?_; (case hd => rfl); (case hg => rfl); (case hr => first | (go_simp; done) | (go_simp; rfl))
                 intro gb272 hg w19 hbox hb
                 have n0_ := am (blk_below (g := gb262) (o := b2 a1_0 a1_1 23) (Z BK262) hb)
                 have n1_ := am (blk_below (g := gb263) (o := b2 a2_0 a2_1 23) (Z BK263) hb)
                 have n2_ := am (below_step (Y2 HB GE262 GE263) hb)
                 have n3_ := am (hbox)
                 have n4_ := am ((by rw [hg]; exact (below_size (Y2 HB GE262 GE263)) : w.heap.size ≤ gb272))
                 have n5_ := am ((by rw [hg]; exact (below_size (Y2 HB GE262 GE263)) : w.heap.size ≤ gb272))
                 have n6_ := am ((nl (o := b2 a1_0 a1_1 23) hg (Z BK262) : gb262 ≠ gb272))
                 have n7_ := am ((ng (o := b2 a1_0 a1_1 23) hg (Z BK262) : gb272 ≠ gb262))
                 have n8_ := am ((nl (o := b2 a2_0 a2_1 23) hg (Z BK263) : gb263 ≠ gb272))
                 have n9_ := am ((ng (o := b2 a2_0 a2_1 23) hg (Z BK263) : gb272 ≠ gb263))
                 clear BK262
                 clear BK263
                 clear HB
                 have BK262 := n0_
                 have BK263 := n1_
                 have HB := n2_
                 have BK272 := n3_
                 have GW272 := n4_
                 have GE272 := n5_
                 have NB262_272 := n6_
                 have NB272_262 := n7_
                 have NB263_272 := n8_
                 have NB272_263 := n9_
                 clear n0_ n1_ n2_ n3_ n4_ n5_ n6_ n7_ n8_ n9_
                 clear hb hbox hg
                 refine hK.out _ _ ⟨bc BK262 0, bc BK262 1, bc BK263 0, bc BK263 1⟩ (fun hHeld => ?_)
                 clear hK K
                 refine norm_ (a' := ?_) ?_ ?_
                 rotate_left
                 ·show Act.put _ (some 7) _ = _
                  simp only [Act.put, List.setIfInBounds_toArray, List.set_cons_zero, List.set_cons_succ, i64_w, i32_w]
                  rfl
                 exact norm_ nz (hJ2_9 (gb272) _ ⟨hHeld, (Z BK262), (Z BK263), (Z BK272), GW272.out, GE272.out, NB262_272.out, NB272_262.out, NB263_272.out, NB272_263.out, (Y3 HB GE262 GE263 GE272)⟩)
                ·skip
                 refine box_step ?hg (N := 8) ?hd (cs := #[.int .i64 0, .int .i64 0]) (t := 24) ?hr ?_; (case hd => rfl); (case hg => rfl); (case hr => first | (go_simp; done) | (go_simp; rfl))
                 intro gb273 hg w19 hbox hb
                 have n0_ := am (blk_below (g := gb262) (o := b2 a1_0 a1_1 23) (Z BK262) hb)
                 have n1_ := am (blk_below (g := gb263) (o := b2 a2_0 a2_1 23) (Z BK263) hb)
                 have n2_ := am (below_step (Y2 HB GE262 GE263) hb)
                 have n3_ := am (hbox)
                 have n4_ := am ((by rw [hg]; exact (below_size (Y2 HB GE262 GE263)) : w.heap.size ≤ gb273))
                 have n5_ := am ((by rw [hg]; exact (below_size (Y2 HB GE262 GE263)) : w.heap.size ≤ gb273))
                 have n6_ := am ((nl (o := b2 a1_0 a1_1 23) hg (Z BK262) : gb262 ≠ gb273))
                 have n7_ := am ((ng (o := b2 a1_0 a1_1 23) hg (Z BK262) : gb273 ≠ gb262))
                 have n8_ := am ((nl (o := b2 a2_0 a2_1 23) hg (Z BK263) : gb263 ≠ gb273))
                 have n9_ := am ((ng (o := b2 a2_0 a2_1 23) hg (Z BK263) : gb273 ≠ gb263))
                 clear BK262
                 clear BK263
                 clear HB
                 have BK262 := n0_
                 have BK263 := n1_
                 have HB := n2_
                 have BK273 := n3_
                 have GW273 := n4_
                 have GE273 := n5_
                 have NB262_273 := n6_
                 have NB273_262 := n7_
                 have NB263_273 := n8_
                 have NB273_263 := n9_
                 clear n0_ n1_ n2_ n3_ n4_ n5_ n6_ n7_ n8_ n9_
                 clear hb hbox hg
                 refine hK.out _ _ ⟨bc BK262 0, bc BK262 1, bc BK263 0, bc BK263 1⟩ (fun hHeld => ?_)
                 clear hK K
                 refine norm_ (a' := ?_) ?_ ?_
                 rotate_left
                 ·show Act.put _ (some 8) _ = _
                  simp only [Act.put, List.setIfInBounds_toArray, List.set_cons_zero, List.set_cons_succ, i64_w, i32_w]
                  rfl
                 exact norm_ nz (hJ2_10 (gb273) _ ⟨hHeld, (Z BK262), (Z BK263), (Z BK273), GW273.out, GE273.out, NB262_273.out, NB273_262.out, NB263_273.out, NB273_263.out, (Y3 HB GE262 GE263 GE273)⟩)
              ·skip
               rintro ⟨gb272, gb273⟩ w19 ⟨hS_, h0_, h1_, h2_, h3_, h4_, h5_, h6_, h7_, h8_, h9_, h10_, h11_, h12_, h13_, h14_, h15_, h16_, h17_, h18_⟩
               have n0_ : Aside0 (w19.heap[gb262]? = some (.cells #[.int .i64 a1_0, .int .i64 a1_1] 23 (0, 0))) := ⟨h0_⟩
               have n1_ : Aside0 (w19.heap[gb263]? = some (.cells #[.int .i64 a2_0, .int .i64 a2_1] 23 (0, 0))) := ⟨h1_⟩
               have n2_ : Aside0 (w19.heap[gb272]? = some (.cells #[.int .i64 0, .int .i64 0] 24 (0, 0))) := ⟨h2_⟩
               have n3_ : Aside0 (w19.heap[gb273]? = some (.cells #[.int .i64 0, .int .i64 0] 24 (0, 0))) := ⟨h3_⟩
               have n4_ : Aside0 (w.heap.size ≤ gb272) := ⟨h4_⟩
               have n5_ : Aside0 (w.heap.size ≤ gb272) := ⟨h5_⟩
               have n6_ : Aside0 (gb262 ≠ gb272) := ⟨h6_⟩
               have n7_ : Aside0 (gb272 ≠ gb262) := ⟨h7_⟩
               have n8_ : Aside0 (gb263 ≠ gb272) := ⟨h8_⟩
               have n9_ : Aside0 (gb272 ≠ gb263) := ⟨h9_⟩
               have n10_ : Aside0 (gb273 ≠ gb272) := ⟨h10_⟩
               have n11_ : Aside0 (gb272 ≠ gb273) := ⟨h11_⟩
               have n12_ : Aside0 (w.heap.size ≤ gb273) := ⟨h12_⟩
               have n13_ : Aside0 (w.heap.size ≤ gb273) := ⟨h13_⟩
               have n14_ : Aside0 (gb262 ≠ gb273) := ⟨h14_⟩
               have n15_ : Aside0 (gb273 ≠ gb262) := ⟨h15_⟩
               have n16_ : Aside0 (gb263 ≠ gb273) := ⟨h16_⟩
               have n17_ : Aside0 (gb273 ≠ gb263) := ⟨h17_⟩
               have n18_ : Aside0 (Below w.heap.size w w19) := ⟨h18_⟩
               clear BK262
               clear BK263
               clear HB
               clear h0_ h1_ h2_ h3_ h4_ h5_ h6_ h7_ h8_ h9_ h10_ h11_ h12_ h13_ h14_ h15_ h16_ h17_ h18_
               have BK262 := n0_
               have BK263 := n1_
               have BK272 := n2_
               have BK273 := n3_
               have GW272 := n4_
               have GE272 := n5_
               have NB262_272 := n6_
               have NB272_262 := n7_
               have NB263_272 := n8_
               have NB272_263 := n9_
               have NB273_272 := n10_
               have NB272_273 := n11_
               have GW273 := n12_
               have GE273 := n13_
               have NB262_273 := n14_
               have NB273_262 := n15_
               have NB263_273 := n16_
               have NB273_263 := n17_
               have HB := n18_
               clear n0_ n1_ n2_ n3_ n4_ n5_ n6_ n7_ n8_ n9_ n10_ n11_ n12_ n13_ n14_ n15_ n16_ n17_ n18_
               have hHeld : w19.cell? ⟨gb262, 0, none⟩ = some (.int .i64 a1_0) ∧ w19.cell? ⟨gb262, 1, none⟩ = some (.int .i64 a1_1) ∧ w19.cell? ⟨gb263, 0, none⟩ = some (.int .i64 a2_0) ∧ w19.cell? ⟨gb263, 1, none⟩ = some (.int .i64 a2_1) := hS_
               refine norm_ (a' := ?_) ?_ ?_
               rotate_left
               ·simp only [putAll, Act.put, List.setIfInBounds_toArray, List.set_cons_zero, List.set_cons_succ]
                rfl
               refine one_ (i := 2) (N := some 14) #[T, T, T, T, F, F, F, F, F, T, T, F, F] rfl rfl (one_of HT_.out (by kernel_rfl)) (by decide) (fun K hK => ?_)
               refine goes_ Try.func16 (by kernel_rfl) rfl #[.agg #[.int .i64 a1_0, .int .i64 a1_1]] (by rfl) rfl rfl mz ?_
               with_reducible refine (laws_toRange.calls a1_0 a1_1 t264 t265 _ A4.out).mono ?_
               rintro e w20 ⟨rfl, hb⟩
               refine ⟨_, rfl, ?_⟩
               have n0_ := am (blk_below (g := gb262) (o := b2 a1_0 a1_1 23) (Z BK262) hb)
               have n1_ := am (blk_below (g := gb263) (o := b2 a2_0 a2_1 23) (Z BK263) hb)
               have n2_ := am (blk_below (g := gb272) (o := b2 0 0 24) (Z BK272) hb)
               have n3_ := am (blk_below (g := gb273) (o := b2 0 0 24) (Z BK273) hb)
               have n4_ := am (below_step (Y4 HB GE262 GE263 GE272 GE273) hb)
               clear BK262
               clear BK263
               clear BK272
               clear BK273
               clear HB
               have BK262 := n0_
               have BK263 := n1_
               have BK272 := n2_
               have BK273 := n3_
               have HB := n4_
               clear n0_ n1_ n2_ n3_ n4_
               (try clear hb)
               (try clear hb2)
               (try clear hk)
               (try clear hi)
               refine hK.out _ _ ⟨bc BK262 0, bc BK262 1, bc BK263 0, bc BK263 1⟩ (fun hHeld => ?_)
               clear hK K
               refine norm_ (a' := ?_) ?_ ?_
               rotate_left
               ·show Act.put _ (some 14) _ = _
                simp only [Act.put, List.setIfInBounds_toArray, List.set_cons_zero, List.set_cons_succ, i64_w, i32_w]
                rfl
               exact norm_ nz (hJ2_9_10 (gb272, gb273) _ ⟨hHeld, (Z BK262), (Z BK263), (Z BK272), (Z BK273), GW272.out, GE272.out, NB262_272.out, NB272_262.out, NB263_272.out, NB272_263.out, NB273_272.out, NB272_273.out, GW273.out, GE273.out, NB262_273.out, NB273_262.out, NB263_273.out, NB273_263.out, (Y4 HB GE262 GE263 GE272 GE273)⟩)
             ·skip
              rintro gb273 w19 ⟨hS_, h0_, h1_, h2_, h3_, h4_, h5_, h6_, h7_, h8_, h9_⟩
              have n0_ : Aside0 (w19.heap[gb262]? = some (.cells #[.int .i64 a1_0, .int .i64 a1_1] 23 (0, 0))) := ⟨h0_⟩
              have n1_ : Aside0 (w19.heap[gb263]? = some (.cells #[.int .i64 a2_0, .int .i64 a2_1] 23 (0, 0))) := ⟨h1_⟩
              have n2_ : Aside0 (w19.heap[gb273]? = some (.cells #[.int .i64 0, .int .i64 0] 24 (0, 0))) := ⟨h2_⟩
              have n3_ : Aside0 (w.heap.size ≤ gb273) := ⟨h3_⟩
              have n4_ : Aside0 (w.heap.size ≤ gb273) := ⟨h4_⟩
              have n5_ : Aside0 (gb262 ≠ gb273) := ⟨h5_⟩
              have n6_ : Aside0 (gb273 ≠ gb262) := ⟨h6_⟩
              have n7_ : Aside0 (gb263 ≠ gb273) := ⟨h7_⟩
              have n8_ : Aside0 (gb273 ≠ gb263) := ⟨h8_⟩
              have n9_ : Aside0 (Below w.heap.size w w19) := ⟨h9_⟩
              clear BK262
              clear BK263
              clear HB
              clear h0_ h1_ h2_ h3_ h4_ h5_ h6_ h7_ h8_ h9_
              have BK262 := n0_
              have BK263 := n1_
              have BK273 := n2_
              have GW273 := n3_
              have GE273 := n4_
              have NB262_273 := n5_
              have NB273_262 := n6_
              have NB263_273 := n7_
              have NB273_263 := n8_
              have HB := n9_
              clear n0_ n1_ n2_ n3_ n4_ n5_ n6_ n7_ n8_ n9_
              have hHeld : w19.cell? ⟨gb262, 0, none⟩ = some (.int .i64 a1_0) ∧ w19.cell? ⟨gb262, 1, none⟩ = some (.int .i64 a1_1) ∧ w19.cell? ⟨gb263, 0, none⟩ = some (.int .i64 a2_0) ∧ w19.cell? ⟨gb263, 1, none⟩ = some (.int .i64 a2_1) := hS_
              refine norm_ (a' := ?_) ?_ ?_
              rotate_left
              ·simp only [putAll, Act.put, List.setIfInBounds_toArray, List.set_cons_zero, List.set_cons_succ]
               rfl
              refine two_ (i := 4) (j := 9) (Ni := some 16) (Nj := some 7) #[T, T, T, T, T, F, F, F, F, F, T, F, F] #[T, T, T, T, F, F, F, F, F, T, T, F, F] rfl rfl rfl rfl (two_of HT_.out (by kernel_rfl)) (by decide) (by decide) (fun K hK => ?_) (fun K hK => ?_)
              ·skip
               refine goes_ Try.func16 (by kernel_rfl) rfl #[.agg #[.int .i64 a2_0, .int .i64 a2_1]] (by rfl) rfl rfl mz ?_
               with_reducible refine (laws_toRange.calls a2_0 a2_1 t266 t267 _ A5.out).mono ?_
               rintro e w20 ⟨rfl, hb⟩
               refine ⟨_, rfl, ?_⟩
               have n0_ := am (blk_below (g := gb262) (o := b2 a1_0 a1_1 23) (Z BK262) hb)
               have n1_ := am (blk_below (g := gb263) (o := b2 a2_0 a2_1 23) (Z BK263) hb)
               have n2_ := am (blk_below (g := gb273) (o := b2 0 0 24) (Z BK273) hb)
               have n3_ := am (below_step (Y3 HB GE262 GE263 GE273) hb)
               clear BK262
               clear BK263
               clear BK273
               clear HB
               have BK262 := n0_
               have BK263 := n1_
               have BK273 := n2_
               have HB := n3_
               clear n0_ n1_ n2_ n3_
               (try clear hb)
               (try clear hb2)
               (try clear hk)
               (try clear hi)
               refine hK.out _ _ ⟨bc BK262 0, bc BK262 1, bc BK263 0, bc BK263 1⟩ (fun hHeld => ?_)
               clear hK K
               refine norm_ (a' := ?_) ?_ ?_
               rotate_left
               ·show Act.put _ (some 16) _ = _
                simp only [Act.put, List.setIfInBounds_toArray, List.set_cons_zero, List.set_cons_succ, i64_w, i32_w]
                rfl
               exact norm_ nz (hJ2_4_10 (gb273) _ ⟨hHeld, (Z BK262), (Z BK263), (Z BK273), GW273.out, GE273.out, NB262_273.out, NB273_262.out, NB263_273.out, NB273_263.out, (Y3 HB GE262 GE263 GE273)⟩)
              ·skip
               refine box_step ?hg (N := 7) ?hd (cs := #[.int .i64 0, .int .i64 0]) (t := 24) ?hr ?_; (case hd => rfl); (case hg => rfl); (case hr => first | (go_simp; done) | (go_simp; rfl))
               intro gb272 hg w20 hbox hb
               have n0_ := am (blk_below (g := gb262) (o := b2 a1_0 a1_1 23) (Z BK262) hb)
               have n1_ := am (blk_below (g := gb263) (o := b2 a2_0 a2_1 23) (Z BK263) hb)
               have n2_ := am (blk_below (g := gb273) (o := b2 0 0 24) (Z BK273) hb)
               have n3_ := am (below_step (Y3 HB GE262 GE263 GE273) hb)
               have n4_ := am (hbox)
               have n5_ := am ((by rw [hg]; exact (below_size (Y3 HB GE262 GE263 GE273)) : w.heap.size ≤ gb272))
               have n6_ := am ((by rw [hg]; exact (below_size (Y3 HB GE262 GE263 GE273)) : w.heap.size ≤ gb272))
               have n7_ := am ((nl (o := b2 a1_0 a1_1 23) hg (Z BK262) : gb262 ≠ gb272))
               have n8_ := am ((ng (o := b2 a1_0 a1_1 23) hg (Z BK262) : gb272 ≠ gb262))
               have n9_ := am ((nl (o := b2 a2_0 a2_1 23) hg (Z BK263) : gb263 ≠ gb272))
               have n10_ := am ((ng (o := b2 a2_0 a2_1 23) hg (Z BK263) : gb272 ≠ gb263))
               have n11_ := am ((nl (o := b2 0 0 24) hg (Z BK273) : gb273 ≠ gb272))
               have n12_ := am ((ng (o := b2 0 0 24) hg (Z BK273) : gb272 ≠ gb273))
               clear BK262
               clear BK263
               clear BK273
               clear HB
               have BK262 := n0_
               have BK263 := n1_
               have BK273 := n2_
               have HB := n3_
               have BK272 := n4_
               have GW272 := n5_
               have GE272 := n6_
               have NB262_272 := n7_
               have NB272_262 := n8_
               have NB263_272 := n9_
               have NB272_263 := n10_
               have NB273_272 := n11_
               have NB272_273 := n12_
               clear n0_ n1_ n2_ n3_ n4_ n5_ n6_ n7_ n8_ n9_ n10_ n11_ n12_
               clear hb hbox hg
               refine hK.out _ _ ⟨bc BK262 0, bc BK262 1, bc BK263 0, bc BK263 1⟩ (fun hHeld => ?_)
               clear hK K
               refine norm_ (a' := ?_) ?_ ?_
               rotate_left
               ·show Act.put _ (some 7) _ = _
                simp only [Act.put, List.setIfInBounds_toArray, List.set_cons_zero, List.set_cons_succ, i64_w, i32_w]
                rfl
               exact norm_ nz (hJ2_9_10 (gb272, gb273) _ ⟨hHeld, (Z BK262), (Z BK263), (Z BK272), (Z BK273), GW272.out, GE272.out, NB262_272.out, NB272_262.out, NB263_272.out, NB272_263.out, NB273_272.out, NB272_273.out, GW273.out, GE273.out, NB262_273.out, NB273_262.out, NB263_273.out, NB273_263.out, (Y4 HB GE262 GE263 GE273 GE272)⟩)
            ·skip
             rintro gb272 w19 ⟨hS_, h0_, h1_, h2_, h3_, h4_, h5_, h6_, h7_, h8_, h9_⟩
             have n0_ : Aside0 (w19.heap[gb262]? = some (.cells #[.int .i64 a1_0, .int .i64 a1_1] 23 (0, 0))) := ⟨h0_⟩
             have n1_ : Aside0 (w19.heap[gb263]? = some (.cells #[.int .i64 a2_0, .int .i64 a2_1] 23 (0, 0))) := ⟨h1_⟩
             have n2_ : Aside0 (w19.heap[gb272]? = some (.cells #[.int .i64 0, .int .i64 0] 24 (0, 0))) := ⟨h2_⟩
             have n3_ : Aside0 (w.heap.size ≤ gb272) := ⟨h3_⟩
             have n4_ : Aside0 (w.heap.size ≤ gb272) := ⟨h4_⟩
             have n5_ : Aside0 (gb262 ≠ gb272) := ⟨h5_⟩
             have n6_ : Aside0 (gb272 ≠ gb262) := ⟨h6_⟩
             have n7_ : Aside0 (gb263 ≠ gb272) := ⟨h7_⟩
             have n8_ : Aside0 (gb272 ≠ gb263) := ⟨h8_⟩
             have n9_ : Aside0 (Below w.heap.size w w19) := ⟨h9_⟩
             clear BK262
             clear BK263
             clear HB
             clear h0_ h1_ h2_ h3_ h4_ h5_ h6_ h7_ h8_ h9_
             have BK262 := n0_
             have BK263 := n1_
             have BK272 := n2_
             have GW272 := n3_
             have GE272 := n4_
             have NB262_272 := n5_
             have NB272_262 := n6_
             have NB263_272 := n7_
             have NB272_263 := n8_
             have HB := n9_
             clear n0_ n1_ n2_ n3_ n4_ n5_ n6_ n7_ n8_ n9_
             have hHeld : w19.cell? ⟨gb262, 0, none⟩ = some (.int .i64 a1_0) ∧ w19.cell? ⟨gb262, 1, none⟩ = some (.int .i64 a1_1) ∧ w19.cell? ⟨gb263, 0, none⟩ = some (.int .i64 a2_0) ∧ w19.cell? ⟨gb263, 1, none⟩ = some (.int .i64 a2_1) := hS_
             refine norm_ (a' := ?_) ?_ ?_
             rotate_left
             ·simp only [putAll, Act.put, List.setIfInBounds_toArray, List.set_cons_zero, List.set_cons_succ]
              rfl
             refine two_ (i := 4) (j := 10) (Ni := some 16) (Nj := some 8) #[T, T, T, T, T, F, F, F, F, T, F, F, F] #[T, T, T, T, F, F, F, F, F, T, T, F, F] rfl rfl rfl rfl (two_of HT_.out (by kernel_rfl)) (by decide) (by decide) (fun K hK => ?_) (fun K hK => ?_)
             ·skip
              refine goes_ Try.func16 (by kernel_rfl) rfl #[.agg #[.int .i64 a2_0, .int .i64 a2_1]] (by rfl) rfl rfl mz ?_
              with_reducible refine (laws_toRange.calls a2_0 a2_1 t266 t267 _ A5.out).mono ?_
              rintro e w20 ⟨rfl, hb⟩
              refine ⟨_, rfl, ?_⟩
              have n0_ := am (blk_below (g := gb262) (o := b2 a1_0 a1_1 23) (Z BK262) hb)
              have n1_ := am (blk_below (g := gb263) (o := b2 a2_0 a2_1 23) (Z BK263) hb)
              have n2_ := am (blk_below (g := gb272) (o := b2 0 0 24) (Z BK272) hb)
              have n3_ := am (below_step (Y3 HB GE262 GE263 GE272) hb)
              clear BK262
              clear BK263
              clear BK272
              clear HB
              have BK262 := n0_
              have BK263 := n1_
              have BK272 := n2_
              have HB := n3_
              clear n0_ n1_ n2_ n3_
              (try clear hb)
              (try clear hb2)
              (try clear hk)
              (try clear hi)
              refine hK.out _ _ ⟨bc BK262 0, bc BK262 1, bc BK263 0, bc BK263 1⟩ (fun hHeld => ?_)
              clear hK K
              refine norm_ (a' := ?_) ?_ ?_
              rotate_left
              ·show Act.put _ (some 16) _ = _
               simp only [Act.put, List.setIfInBounds_toArray, List.set_cons_zero, List.set_cons_succ, i64_w, i32_w]
               rfl
              exact norm_ nz (hJ2_4_9 (gb272) _ ⟨hHeld, (Z BK262), (Z BK263), (Z BK272), GW272.out, GE272.out, NB262_272.out, NB272_262.out, NB263_272.out, NB272_263.out, (Y3 HB GE262 GE263 GE272)⟩)
             ·skip
              refine box_step ?hg (N := 8) ?hd (cs := #[.int .i64 0, .int .i64 0]) (t := 24) ?hr ?_; (case hd => rfl); (case hg => rfl); (case hr => first | (go_simp; done) | (go_simp; rfl))
              intro gb273 hg w20 hbox hb
              have n0_ := am (blk_below (g := gb262) (o := b2 a1_0 a1_1 23) (Z BK262) hb)
              have n1_ := am (blk_below (g := gb263) (o := b2 a2_0 a2_1 23) (Z BK263) hb)
              have n2_ := am (blk_below (g := gb272) (o := b2 0 0 24) (Z BK272) hb)
              have n3_ := am (below_step (Y3 HB GE262 GE263 GE272) hb)
              have n4_ := am (hbox)
              have n5_ := am ((by rw [hg]; exact (below_size (Y3 HB GE262 GE263 GE272)) : w.heap.size ≤ gb273))
              have n6_ := am ((by rw [hg]; exact (below_size (Y3 HB GE262 GE263 GE272)) : w.heap.size ≤ gb273))
              have n7_ := am ((nl (o := b2 a1_0 a1_1 23) hg (Z BK262) : gb262 ≠ gb273))
              have n8_ := am ((ng (o := b2 a1_0 a1_1 23) hg (Z BK262) : gb273 ≠ gb262))
              have n9_ := am ((nl (o := b2 a2_0 a2_1 23) hg (Z BK263) : gb263 ≠ gb273))
              have n10_ := am ((ng (o := b2 a2_0 a2_1 23) hg (Z BK263) : gb273 ≠ gb263))
              have n11_ := am ((nl (o := b2 0 0 24) hg (Z BK272) : gb272 ≠ gb273))
              have n12_ := am ((ng (o := b2 0 0 24) hg (Z BK272) : gb273 ≠ gb272))
              clear BK262
              clear BK263
              clear BK272
              clear HB
              have BK262 := n0_
              have BK263 := n1_
              have BK272 := n2_
              have HB := n3_
              have BK273 := n4_
              have GW273 := n5_
              have GE273 := n6_
              have NB262_273 := n7_
              have NB273_262 := n8_
              have NB263_273 := n9_
              have NB273_263 := n10_
              have NB272_273 := n11_
              have NB273_272 := n12_
              clear n0_ n1_ n2_ n3_ n4_ n5_ n6_ n7_ n8_ n9_ n10_ n11_ n12_
              clear hb hbox hg
              refine hK.out _ _ ⟨bc BK262 0, bc BK262 1, bc BK263 0, bc BK263 1⟩ (fun hHeld => ?_)
              clear hK K
              refine norm_ (a' := ?_) ?_ ?_
              rotate_left
              ·show Act.put _ (some 8) _ = _
               simp only [Act.put, List.setIfInBounds_toArray, List.set_cons_zero, List.set_cons_succ, i64_w, i32_w]
               rfl
              exact norm_ nz (hJ2_9_10 (gb272, gb273) _ ⟨hHeld, (Z BK262), (Z BK263), (Z BK272), (Z BK273), GW272.out, GE272.out, NB262_272.out, NB272_262.out, NB263_272.out, NB272_263.out, NB273_272.out, NB272_273.out, GW273.out, GE273.out, NB262_273.out, NB273_262.out, NB263_273.out, NB273_263.out, (Y4 HB GE262 GE263 GE272 GE273)⟩)
           ·skip
            rintro _ w19 ⟨hS_, h0_, h1_, h2_⟩
            have n0_ : Aside0 (w19.heap[gb262]? = some (.cells #[.int .i64 a1_0, .int .i64 a1_1] 23 (0, 0))) := ⟨h0_⟩
            have n1_ : Aside0 (w19.heap[gb263]? = some (.cells #[.int .i64 a2_0, .int .i64 a2_1] 23 (0, 0))) := ⟨h1_⟩
            have n2_ : Aside0 (Below w.heap.size w w19) := ⟨h2_⟩
            clear BK262
            clear BK263
            clear HB
            clear h0_ h1_ h2_
            have BK262 := n0_
            have BK263 := n1_
            have HB := n2_
            clear n0_ n1_ n2_
            have hHeld : w19.cell? ⟨gb262, 0, none⟩ = some (.int .i64 a1_0) ∧ w19.cell? ⟨gb262, 1, none⟩ = some (.int .i64 a1_1) ∧ w19.cell? ⟨gb263, 0, none⟩ = some (.int .i64 a2_0) ∧ w19.cell? ⟨gb263, 1, none⟩ = some (.int .i64 a2_1) := hS_
            refine norm_ (a' := ?_) ?_ ?_
            rotate_left
            ·simp only [putAll, Act.put, List.setIfInBounds_toArray, List.set_cons_zero, List.set_cons_succ]
             rfl
            refine three_ (i := 5) (j := 9) (k := 10) (Ni := some 17) (Nj := some 7) (Nk := some 8) #[T, T, T, T, T, T, F, F, F, F, F, F, F] #[T, T, T, T, T, F, F, F, F, T, F, F, F] #[T, T, T, T, T, F, F, F, F, F, T, F, F] rfl rfl rfl rfl rfl rfl (three_of HT_.out (by kernel_rfl)) (by decide) (by decide) (by decide) (fun K hK => ?_) (fun K hK => ?_) (fun K hK => ?_)
            ·skip
             refine goes_ Try.func25 (by kernel_rfl) rfl #[.int .i64 a0, .agg #[.int .i64 t264, .int .i64 t265], .agg #[.int .i64 t266, .int .i64 t267]] (by rfl) rfl rfl mz ?_
             with_reducible refine (spec_RangeCmp.calls k a0 t264 t265 t266 t267 t268 t269 t270 t271 _ A6.out).mono ?_
             rintro e w20 ⟨rfl, hb⟩
             refine ⟨_, rfl, ?_⟩
             have n0_ := am (blk_below (g := gb262) (o := b2 a1_0 a1_1 23) (Z BK262) hb)
             have n1_ := am (blk_below (g := gb263) (o := b2 a2_0 a2_1 23) (Z BK263) hb)
             have n2_ := am (below_step (Y2 HB GE262 GE263) hb)
             clear BK262
             clear BK263
             clear HB
             have BK262 := n0_
             have BK263 := n1_
             have HB := n2_
             clear n0_ n1_ n2_
             (try clear hb)
             (try clear hb2)
             (try clear hk)
             (try clear hi)
             refine hK.out _ _ ⟨bc BK262 0, bc BK262 1, bc BK263 0, bc BK263 1⟩ (fun hHeld => ?_)
             clear hK K
             refine norm_ (a' := ?_) ?_ ?_
             rotate_left
             ·show Act.put _ (some 17) _ = _
              simp only [Act.put, List.setIfInBounds_toArray, List.set_cons_zero, List.set_cons_succ, i64_w, i32_w]
              rfl
             refine pure_ (i := 6) (N := some 11) (v := ?_) (a' := ?_) #[T, T, T, T, T, T, T, F, F, F, F, F, F] rfl rfl (any_of HT_.out (by kernel_rfl)) (fun _ _ _ h => h) (Or.inl ⟨by rfl, ?_⟩) ?_ ?_
             rotate_left
             ·exact gz
             rotate_left
             ·exact pz
             refine pure_ (i := 7) (N := some 18) (v := ?_) (a' := ?_) #[T, T, T, T, T, T, T, T, F, F, F, F, F] rfl rfl (any_of HT_.out (by kernel_rfl)) (fun _ _ _ h => h) (Or.inl ⟨by rfl, ?_⟩) ?_ ?_
             rotate_left
             ·exact gz
             rotate_left
             ·exact pz
             refine pure_ (i := 8) (N := some 19) (v := ?_) (a' := ?_) #[T, T, T, T, T, T, T, T, T, F, F, F, F] rfl rfl (any_of HT_.out (by kernel_rfl)) (fun _ _ _ h => h) (Or.inl ⟨by rfl, ?_⟩) ?_ ?_
             rotate_left
             ·exact gz
             rotate_left
             ·exact pz
             exact norm_ nz (hJ2_4_5 () _ ⟨hHeld, (Z BK262), (Z BK263), (Y2 HB GE262 GE263)⟩)
            ·skip
             refine box_step ?hg (N := 7) ?hd (cs := #[.int .i64 0, .int .i64 0]) (t := 24) ?hr ?_; (case hd => rfl); (case hg => rfl); (case hr => first | (go_simp; done) | (go_simp; rfl))
             intro gb272 hg w20 hbox hb
             have n0_ := am (blk_below (g := gb262) (o := b2 a1_0 a1_1 23) (Z BK262) hb)
             have n1_ := am (blk_below (g := gb263) (o := b2 a2_0 a2_1 23) (Z BK263) hb)
             have n2_ := am (below_step (Y2 HB GE262 GE263) hb)
             have n3_ := am (hbox)
             have n4_ := am ((by rw [hg]; exact (below_size (Y2 HB GE262 GE263)) : w.heap.size ≤ gb272))
             have n5_ := am ((by rw [hg]; exact (below_size (Y2 HB GE262 GE263)) : w.heap.size ≤ gb272))
             have n6_ := am ((nl (o := b2 a1_0 a1_1 23) hg (Z BK262) : gb262 ≠ gb272))
             have n7_ := am ((ng (o := b2 a1_0 a1_1 23) hg (Z BK262) : gb272 ≠ gb262))
             have n8_ := am ((nl (o := b2 a2_0 a2_1 23) hg (Z BK263) : gb263 ≠ gb272))
             have n9_ := am ((ng (o := b2 a2_0 a2_1 23) hg (Z BK263) : gb272 ≠ gb263))
             clear BK262
             clear BK263
             clear HB
             have BK262 := n0_
             have BK263 := n1_
             have HB := n2_
             have BK272 := n3_
             have GW272 := n4_
             have GE272 := n5_
             have NB262_272 := n6_
             have NB272_262 := n7_
             have NB263_272 := n8_
             have NB272_263 := n9_
             clear n0_ n1_ n2_ n3_ n4_ n5_ n6_ n7_ n8_ n9_
             clear hb hbox hg
             refine hK.out _ _ ⟨bc BK262 0, bc BK262 1, bc BK263 0, bc BK263 1⟩ (fun hHeld => ?_)
             clear hK K
             refine norm_ (a' := ?_) ?_ ?_
             rotate_left
             ·show Act.put _ (some 7) _ = _
              simp only [Act.put, List.setIfInBounds_toArray, List.set_cons_zero, List.set_cons_succ, i64_w, i32_w]
              rfl
             exact norm_ nz (hJ2_4_9 (gb272) _ ⟨hHeld, (Z BK262), (Z BK263), (Z BK272), GW272.out, GE272.out, NB262_272.out, NB272_262.out, NB263_272.out, NB272_263.out, (Y3 HB GE262 GE263 GE272)⟩)
            ·skip
             refine box_step ?hg (N := 8) ?hd (cs := #[.int .i64 0, .int .i64 0]) (t := 24) ?hr ?_; (case hd => rfl); (case hg => rfl); (case hr => first | (go_simp; done) | (go_simp; rfl))
             intro gb273 hg w20 hbox hb
             have n0_ := am (blk_below (g := gb262) (o := b2 a1_0 a1_1 23) (Z BK262) hb)
             have n1_ := am (blk_below (g := gb263) (o := b2 a2_0 a2_1 23) (Z BK263) hb)
             have n2_ := am (below_step (Y2 HB GE262 GE263) hb)
             have n3_ := am (hbox)
             have n4_ := am ((by rw [hg]; exact (below_size (Y2 HB GE262 GE263)) : w.heap.size ≤ gb273))
             have n5_ := am ((by rw [hg]; exact (below_size (Y2 HB GE262 GE263)) : w.heap.size ≤ gb273))
             have n6_ := am ((nl (o := b2 a1_0 a1_1 23) hg (Z BK262) : gb262 ≠ gb273))
             have n7_ := am ((ng (o := b2 a1_0 a1_1 23) hg (Z BK262) : gb273 ≠ gb262))
             have n8_ := am ((nl (o := b2 a2_0 a2_1 23) hg (Z BK263) : gb263 ≠ gb273))
             have n9_ := am ((ng (o := b2 a2_0 a2_1 23) hg (Z BK263) : gb273 ≠ gb263))
             clear BK262
             clear BK263
             clear HB
             have BK262 := n0_
             have BK263 := n1_
             have HB := n2_
             have BK273 := n3_
             have GW273 := n4_
             have GE273 := n5_
             have NB262_273 := n6_
             have NB273_262 := n7_
             have NB263_273 := n8_
             have NB273_263 := n9_
             clear n0_ n1_ n2_ n3_ n4_ n5_ n6_ n7_ n8_ n9_
             clear hb hbox hg
             refine hK.out _ _ ⟨bc BK262 0, bc BK262 1, bc BK263 0, bc BK263 1⟩ (fun hHeld => ?_)
             clear hK K
             refine norm_ (a' := ?_) ?_ ?_
             rotate_left
             ·show Act.put _ (some 8) _ = _
              simp only [Act.put, List.setIfInBounds_toArray, List.set_cons_zero, List.set_cons_succ, i64_w, i32_w]
              rfl
             exact norm_ nz (hJ2_4_10 (gb273) _ ⟨hHeld, (Z BK262), (Z BK263), (Z BK273), GW273.out, GE273.out, NB262_273.out, NB273_262.out, NB263_273.out, NB273_263.out, (Y3 HB GE262 GE263 GE273)⟩)
          ·skip
           rintro ⟨gb272, gb273⟩ w20 ⟨hS_, h0_, h1_, h2_, h3_, h4_, h5_, h6_, h7_, h8_, h9_, h10_, h11_, h12_, h13_, h14_, h15_, h16_, h17_, h18_⟩
           have n0_ : Aside0 (w20.heap[gb262]? = some (.cells #[.int .i64 a1_0, .int .i64 a1_1] 23 (0, 0))) := ⟨h0_⟩
           have n1_ : Aside0 (w20.heap[gb263]? = some (.cells #[.int .i64 a2_0, .int .i64 a2_1] 23 (0, 0))) := ⟨h1_⟩
           have n2_ : Aside0 (w20.heap[gb272]? = some (.cells #[.int .i64 0, .int .i64 0] 24 (0, 0))) := ⟨h2_⟩
           have n3_ : Aside0 (w20.heap[gb273]? = some (.cells #[.int .i64 0, .int .i64 0] 24 (0, 0))) := ⟨h3_⟩
           have n4_ : Aside0 (w.heap.size ≤ gb272) := ⟨h4_⟩
           have n5_ : Aside0 (w.heap.size ≤ gb272) := ⟨h5_⟩
           have n6_ : Aside0 (gb262 ≠ gb272) := ⟨h6_⟩
           have n7_ : Aside0 (gb272 ≠ gb262) := ⟨h7_⟩
           have n8_ : Aside0 (gb263 ≠ gb272) := ⟨h8_⟩
           have n9_ : Aside0 (gb272 ≠ gb263) := ⟨h9_⟩
           have n10_ : Aside0 (gb273 ≠ gb272) := ⟨h10_⟩
           have n11_ : Aside0 (gb272 ≠ gb273) := ⟨h11_⟩
           have n12_ : Aside0 (w.heap.size ≤ gb273) := ⟨h12_⟩
           have n13_ : Aside0 (w.heap.size ≤ gb273) := ⟨h13_⟩
           have n14_ : Aside0 (gb262 ≠ gb273) := ⟨h14_⟩
           have n15_ : Aside0 (gb273 ≠ gb262) := ⟨h15_⟩
           have n16_ : Aside0 (gb263 ≠ gb273) := ⟨h16_⟩
           have n17_ : Aside0 (gb273 ≠ gb263) := ⟨h17_⟩
           have n18_ : Aside0 (Below w.heap.size w w20) := ⟨h18_⟩
           clear BK262
           clear BK263
           clear HB
           clear h0_ h1_ h2_ h3_ h4_ h5_ h6_ h7_ h8_ h9_ h10_ h11_ h12_ h13_ h14_ h15_ h16_ h17_ h18_
           have BK262 := n0_
           have BK263 := n1_
           have BK272 := n2_
           have BK273 := n3_
           have GW272 := n4_
           have GE272 := n5_
           have NB262_272 := n6_
           have NB272_262 := n7_
           have NB263_272 := n8_
           have NB272_263 := n9_
           have NB273_272 := n10_
           have NB272_273 := n11_
           have GW273 := n12_
           have GE273 := n13_
           have NB262_273 := n14_
           have NB273_262 := n15_
           have NB263_273 := n16_
           have NB273_263 := n17_
           have HB := n18_
           clear n0_ n1_ n2_ n3_ n4_ n5_ n6_ n7_ n8_ n9_ n10_ n11_ n12_ n13_ n14_ n15_ n16_ n17_ n18_
           have hHeld : w20.cell? ⟨gb262, 0, none⟩ = some (.int .i64 a1_0) ∧ w20.cell? ⟨gb262, 1, none⟩ = some (.int .i64 a1_1) ∧ w20.cell? ⟨gb263, 0, none⟩ = some (.int .i64 a2_0) ∧ w20.cell? ⟨gb263, 1, none⟩ = some (.int .i64 a2_1) := hS_
           refine norm_ (a' := ?_) ?_ ?_
           rotate_left
           ·simp only [putAll, Act.put, List.setIfInBounds_toArray, List.set_cons_zero, List.set_cons_succ]
            rfl
           refine one_ (i := 4) (N := some 16) #[T, T, T, T, T, F, F, F, F, T, T, F, F] rfl rfl (one_of HT_.out (by kernel_rfl)) (by decide) (fun K hK => ?_)
           refine goes_ Try.func16 (by kernel_rfl) rfl #[.agg #[.int .i64 a2_0, .int .i64 a2_1]] (by rfl) rfl rfl mz ?_
           with_reducible refine (laws_toRange.calls a2_0 a2_1 t266 t267 _ A5.out).mono ?_
           rintro e w21 ⟨rfl, hb⟩
           refine ⟨_, rfl, ?_⟩
           have n0_ := am (blk_below (g := gb262) (o := b2 a1_0 a1_1 23) (Z BK262) hb)
           have n1_ := am (blk_below (g := gb263) (o := b2 a2_0 a2_1 23) (Z BK263) hb)
           have n2_ := am (blk_below (g := gb272) (o := b2 0 0 24) (Z BK272) hb)
           have n3_ := am (blk_below (g := gb273) (o := b2 0 0 24) (Z BK273) hb)
           have n4_ := am (below_step (Y4 HB GE262 GE263 GE272 GE273) hb)
           clear BK262
           clear BK263
           clear BK272
           clear BK273
           clear HB
           have BK262 := n0_
           have BK263 := n1_
           have BK272 := n2_
           have BK273 := n3_
           have HB := n4_
           clear n0_ n1_ n2_ n3_ n4_
           (try clear hb)
           (try clear hb2)
           (try clear hk)
           (try clear hi)
           refine hK.out _ _ ⟨bc BK262 0, bc BK262 1, bc BK263 0, bc BK263 1⟩ (fun hHeld => ?_)
           clear hK K
           refine norm_ (a' := ?_) ?_ ?_
           rotate_left
           ·show Act.put _ (some 16) _ = _
            simp only [Act.put, List.setIfInBounds_toArray, List.set_cons_zero, List.set_cons_succ, i64_w, i32_w]
            rfl
           exact norm_ nz (hJ2_4_9_10 (gb272, gb273) _ ⟨hHeld, (Z BK262), (Z BK263), (Z BK272), (Z BK273), GW272.out, GE272.out, NB262_272.out, NB272_262.out, NB263_272.out, NB272_263.out, NB273_272.out, NB272_273.out, GW273.out, GE273.out, NB262_273.out, NB273_262.out, NB263_273.out, NB273_263.out, (Y4 HB GE262 GE263 GE272 GE273)⟩)
         ·skip
          rintro gb273 w20 ⟨hS_, h0_, h1_, h2_, h3_, h4_, h5_, h6_, h7_, h8_, h9_⟩
          have n0_ : Aside0 (w20.heap[gb262]? = some (.cells #[.int .i64 a1_0, .int .i64 a1_1] 23 (0, 0))) := ⟨h0_⟩
          have n1_ : Aside0 (w20.heap[gb263]? = some (.cells #[.int .i64 a2_0, .int .i64 a2_1] 23 (0, 0))) := ⟨h1_⟩
          have n2_ : Aside0 (w20.heap[gb273]? = some (.cells #[.int .i64 0, .int .i64 0] 24 (0, 0))) := ⟨h2_⟩
          have n3_ : Aside0 (w.heap.size ≤ gb273) := ⟨h3_⟩
          have n4_ : Aside0 (w.heap.size ≤ gb273) := ⟨h4_⟩
          have n5_ : Aside0 (gb262 ≠ gb273) := ⟨h5_⟩
          have n6_ : Aside0 (gb273 ≠ gb262) := ⟨h6_⟩
          have n7_ : Aside0 (gb263 ≠ gb273) := ⟨h7_⟩
          have n8_ : Aside0 (gb273 ≠ gb263) := ⟨h8_⟩
          have n9_ : Aside0 (Below w.heap.size w w20) := ⟨h9_⟩
          clear BK262
          clear BK263
          clear HB
          clear h0_ h1_ h2_ h3_ h4_ h5_ h6_ h7_ h8_ h9_
          have BK262 := n0_
          have BK263 := n1_
          have BK273 := n2_
          have GW273 := n3_
          have GE273 := n4_
          have NB262_273 := n5_
          have NB273_262 := n6_
          have NB263_273 := n7_
          have NB273_263 := n8_
          have HB := n9_
          clear n0_ n1_ n2_ n3_ n4_ n5_ n6_ n7_ n8_ n9_
          have hHeld : w20.cell? ⟨gb262, 0, none⟩ = some (.int .i64 a1_0) ∧ w20.cell? ⟨gb262, 1, none⟩ = some (.int .i64 a1_1) ∧ w20.cell? ⟨gb263, 0, none⟩ = some (.int .i64 a2_0) ∧ w20.cell? ⟨gb263, 1, none⟩ = some (.int .i64 a2_1) := hS_
          refine norm_ (a' := ?_) ?_ ?_
          rotate_left
          ·simp only [putAll, Act.put, List.setIfInBounds_toArray, List.set_cons_zero, List.set_cons_succ]
           rfl
          refine two_ (i := 5) (j := 9) (Ni := some 17) (Nj := some 7) #[T, T, T, T, T, T, F, F, F, F, T, F, F] #[T, T, T, T, T, F, F, F, F, T, T, F, F] rfl rfl rfl rfl (two_of HT_.out (by kernel_rfl)) (by decide) (by decide) (fun K hK => ?_) (fun K hK => ?_)
          ·skip
           refine goes_ Try.func25 (by kernel_rfl) rfl #[.int .i64 a0, .agg #[.int .i64 t264, .int .i64 t265], .agg #[.int .i64 t266, .int .i64 t267]] (by rfl) rfl rfl mz ?_
           with_reducible refine (spec_RangeCmp.calls k a0 t264 t265 t266 t267 t268 t269 t270 t271 _ A6.out).mono ?_
           rintro e w21 ⟨rfl, hb⟩
           refine ⟨_, rfl, ?_⟩
           have n0_ := am (blk_below (g := gb262) (o := b2 a1_0 a1_1 23) (Z BK262) hb)
           have n1_ := am (blk_below (g := gb263) (o := b2 a2_0 a2_1 23) (Z BK263) hb)
           have n2_ := am (blk_below (g := gb273) (o := b2 0 0 24) (Z BK273) hb)
           have n3_ := am (below_step (Y3 HB GE262 GE263 GE273) hb)
           clear BK262
           clear BK263
           clear BK273
           clear HB
           have BK262 := n0_
           have BK263 := n1_
           have BK273 := n2_
           have HB := n3_
           clear n0_ n1_ n2_ n3_
           (try clear hb)
           (try clear hb2)
           (try clear hk)
           (try clear hi)
           refine hK.out _ _ ⟨bc BK262 0, bc BK262 1, bc BK263 0, bc BK263 1⟩ (fun hHeld => ?_)
           clear hK K
           refine norm_ (a' := ?_) ?_ ?_
           rotate_left
           ·show Act.put _ (some 17) _ = _
            simp only [Act.put, List.setIfInBounds_toArray, List.set_cons_zero, List.set_cons_succ, i64_w, i32_w]
            rfl
           refine pure_ (i := 6) (N := some 11) (v := ?_) (a' := ?_) #[T, T, T, T, T, T, T, F, F, F, T, F, F] rfl rfl (any_of HT_.out (by kernel_rfl)) (fun _ _ _ h => h) (Or.inl ⟨by rfl, ?_⟩) ?_ ?_
           rotate_left
           ·exact gz
           rotate_left
           ·exact pz
           refine pure_ (i := 7) (N := some 18) (v := ?_) (a' := ?_) #[T, T, T, T, T, T, T, T, F, F, T, F, F] rfl rfl (any_of HT_.out (by kernel_rfl)) (fun _ _ _ h => h) (Or.inl ⟨by rfl, ?_⟩) ?_ ?_
           rotate_left
           ·exact gz
           rotate_left
           ·exact pz
           refine pure_ (i := 8) (N := some 19) (v := ?_) (a' := ?_) #[T, T, T, T, T, T, T, T, T, F, T, F, F] rfl rfl (any_of HT_.out (by kernel_rfl)) (fun _ _ _ h => h) (Or.inl ⟨by rfl, ?_⟩) ?_ ?_
           rotate_left
           ·exact gz
           rotate_left
           ·exact pz
           exact norm_ nz (hJ2_4_5_10 (gb273) _ ⟨hHeld, (Z BK262), (Z BK263), (Z BK273), GW273.out, GE273.out, NB262_273.out, NB273_262.out, NB263_273.out, NB273_263.out, (Y3 HB GE262 GE263 GE273)⟩)
          ·skip
           refine box_step ?hg (N := 7) ?hd (cs := #[.int .i64 0, .int .i64 0]) (t := 24) ?hr ?_; (case hd => rfl); (case hg => rfl); (case hr => first | (go_simp; done) | (go_simp; rfl))
           intro gb272 hg w21 hbox hb
           have n0_ := am (blk_below (g := gb262) (o := b2 a1_0 a1_1 23) (Z BK262) hb)
           have n1_ := am (blk_below (g := gb263) (o := b2 a2_0 a2_1 23) (Z BK263) hb)
           have n2_ := am (blk_below (g := gb273) (o := b2 0 0 24) (Z BK273) hb)
           have n3_ := am (below_step (Y3 HB GE262 GE263 GE273) hb)
           have n4_ := am (hbox)
           have n5_ := am ((by rw [hg]; exact (below_size (Y3 HB GE262 GE263 GE273)) : w.heap.size ≤ gb272))
           have n6_ := am ((by rw [hg]; exact (below_size (Y3 HB GE262 GE263 GE273)) : w.heap.size ≤ gb272))
           have n7_ := am ((nl (o := b2 a1_0 a1_1 23) hg (Z BK262) : gb262 ≠ gb272))
           have n8_ := am ((ng (o := b2 a1_0 a1_1 23) hg (Z BK262) : gb272 ≠ gb262))
           have n9_ := am ((nl (o := b2 a2_0 a2_1 23) hg (Z BK263) : gb263 ≠ gb272))
           have n10_ := am ((ng (o := b2 a2_0 a2_1 23) hg (Z BK263) : gb272 ≠ gb263))
           have n11_ := am ((nl (o := b2 0 0 24) hg (Z BK273) : gb273 ≠ gb272))
           have n12_ := am ((ng (o := b2 0 0 24) hg (Z BK273) : gb272 ≠ gb273))
           clear BK262
           clear BK263
           clear BK273
           clear HB
           have BK262 := n0_
           have BK263 := n1_
           have BK273 := n2_
           have HB := n3_
           have BK272 := n4_
           have GW272 := n5_
           have GE272 := n6_
           have NB262_272 := n7_
           have NB272_262 := n8_
           have NB263_272 := n9_
           have NB272_263 := n10_
           have NB273_272 := n11_
           have NB272_273 := n12_
           clear n0_ n1_ n2_ n3_ n4_ n5_ n6_ n7_ n8_ n9_ n10_ n11_ n12_
           clear hb hbox hg
           refine hK.out _ _ ⟨bc BK262 0, bc BK262 1, bc BK263 0, bc BK263 1⟩ (fun hHeld => ?_)
           clear hK K
           refine norm_ (a' := ?_) ?_ ?_
           rotate_left
           ·show Act.put _ (some 7) _ = _
            simp only [Act.put, List.setIfInBounds_toArray, List.set_cons_zero, List.set_cons_succ, i64_w, i32_w]
            rfl
           exact norm_ nz (hJ2_4_9_10 (gb272, gb273) _ ⟨hHeld, (Z BK262), (Z BK263), (Z BK272), (Z BK273), GW272.out, GE272.out, NB262_272.out, NB272_262.out, NB263_272.out, NB272_263.out, NB273_272.out, NB272_273.out, GW273.out, GE273.out, NB262_273.out, NB273_262.out, NB263_273.out, NB273_263.out, (Y4 HB GE262 GE263 GE273 GE272)⟩)
        ·skip
         rintro gb272 w20 ⟨hS_, h0_, h1_, h2_, h3_, h4_, h5_, h6_, h7_, h8_, h9_⟩
         have n0_ : Aside0 (w20.heap[gb262]? = some (.cells #[.int .i64 a1_0, .int .i64 a1_1] 23 (0, 0))) := ⟨h0_⟩
         have n1_ : Aside0 (w20.heap[gb263]? = some (.cells #[.int .i64 a2_0, .int .i64 a2_1] 23 (0, 0))) := ⟨h1_⟩
         have n2_ : Aside0 (w20.heap[gb272]? = some (.cells #[.int .i64 0, .int .i64 0] 24 (0, 0))) := ⟨h2_⟩
         have n3_ : Aside0 (w.heap.size ≤ gb272) := ⟨h3_⟩
         have n4_ : Aside0 (w.heap.size ≤ gb272) := ⟨h4_⟩
         have n5_ : Aside0 (gb262 ≠ gb272) := ⟨h5_⟩
         have n6_ : Aside0 (gb272 ≠ gb262) := ⟨h6_⟩
         have n7_ : Aside0 (gb263 ≠ gb272) := ⟨h7_⟩
         have n8_ : Aside0 (gb272 ≠ gb263) := ⟨h8_⟩
         have n9_ : Aside0 (Below w.heap.size w w20) := ⟨h9_⟩
         clear BK262
         clear BK263
         clear HB
         clear h0_ h1_ h2_ h3_ h4_ h5_ h6_ h7_ h8_ h9_
         have BK262 := n0_
         have BK263 := n1_
         have BK272 := n2_
         have GW272 := n3_
         have GE272 := n4_
         have NB262_272 := n5_
         have NB272_262 := n6_
         have NB263_272 := n7_
         have NB272_263 := n8_
         have HB := n9_
         clear n0_ n1_ n2_ n3_ n4_ n5_ n6_ n7_ n8_ n9_
         have hHeld : w20.cell? ⟨gb262, 0, none⟩ = some (.int .i64 a1_0) ∧ w20.cell? ⟨gb262, 1, none⟩ = some (.int .i64 a1_1) ∧ w20.cell? ⟨gb263, 0, none⟩ = some (.int .i64 a2_0) ∧ w20.cell? ⟨gb263, 1, none⟩ = some (.int .i64 a2_1) := hS_
         refine norm_ (a' := ?_) ?_ ?_
         rotate_left
         ·simp only [putAll, Act.put, List.setIfInBounds_toArray, List.set_cons_zero, List.set_cons_succ]
          rfl
         refine two_ (i := 5) (j := 10) (Ni := some 17) (Nj := some 8) #[T, T, T, T, T, T, F, F, F, T, F, F, F] #[T, T, T, T, T, F, F, F, F, T, T, F, F] rfl rfl rfl rfl (two_of HT_.out (by kernel_rfl)) (by decide) (by decide) (fun K hK => ?_) (fun K hK => ?_)
         ·skip
          refine goes_ Try.func25 (by kernel_rfl) rfl #[.int .i64 a0, .agg #[.int .i64 t264, .int .i64 t265], .agg #[.int .i64 t266, .int .i64 t267]] (by rfl) rfl rfl mz ?_
          with_reducible refine (spec_RangeCmp.calls k a0 t264 t265 t266 t267 t268 t269 t270 t271 _ A6.out).mono ?_
          rintro e w21 ⟨rfl, hb⟩
          refine ⟨_, rfl, ?_⟩
          have n0_ := am (blk_below (g := gb262) (o := b2 a1_0 a1_1 23) (Z BK262) hb)
          have n1_ := am (blk_below (g := gb263) (o := b2 a2_0 a2_1 23) (Z BK263) hb)
          have n2_ := am (blk_below (g := gb272) (o := b2 0 0 24) (Z BK272) hb)
          have n3_ := am (below_step (Y3 HB GE262 GE263 GE272) hb)
          clear BK262
          clear BK263
          clear BK272
          clear HB
          have BK262 := n0_
          have BK263 := n1_
          have BK272 := n2_
          have HB := n3_
          clear n0_ n1_ n2_ n3_
          (try clear hb)
          (try clear hb2)
          (try clear hk)
          (try clear hi)
          refine hK.out _ _ ⟨bc BK262 0, bc BK262 1, bc BK263 0, bc BK263 1⟩ (fun hHeld => ?_)
          clear hK K
          refine norm_ (a' := ?_) ?_ ?_
          rotate_left
          ·show Act.put _ (some 17) _ = _
           simp only [Act.put, List.setIfInBounds_toArray, List.set_cons_zero, List.set_cons_succ, i64_w, i32_w]
           rfl
          refine pure_ (i := 6) (N := some 11) (v := ?_) (a' := ?_) #[T, T, T, T, T, T, T, F, F, T, F, F, F] rfl rfl (any_of HT_.out (by kernel_rfl)) (fun _ _ _ h => h) (Or.inl ⟨by rfl, ?_⟩) ?_ ?_
          rotate_left
          ·exact gz
          rotate_left
          ·exact pz
          refine pure_ (i := 7) (N := some 18) (v := ?_) (a' := ?_) #[T, T, T, T, T, T, T, T, F, T, F, F, F] rfl rfl (any_of HT_.out (by kernel_rfl)) (fun _ _ _ h => h) (Or.inl ⟨by rfl, ?_⟩) ?_ ?_
          rotate_left
          ·exact gz
          rotate_left
          ·exact pz
          refine pure_ (i := 8) (N := some 19) (v := ?_) (a' := ?_) #[T, T, T, T, T, T, T, T, T, T, F, F, F] rfl rfl (any_of HT_.out (by kernel_rfl)) (fun _ _ _ h => h) (Or.inl ⟨by rfl, ?_⟩) ?_ ?_
          rotate_left
          ·exact gz
          rotate_left
          ·exact pz
          exact norm_ nz (hJ2_4_5_9 (gb272) _ ⟨hHeld, (Z BK262), (Z BK263), (Z BK272), GW272.out, GE272.out, NB262_272.out, NB272_262.out, NB263_272.out, NB272_263.out, (Y3 HB GE262 GE263 GE272)⟩)
         ·skip
          refine box_step ?hg (N := 8) ?hd (cs := #[.int .i64 0, .int .i64 0]) (t := 24) ?hr ?_; (case hd => rfl); (case hg => rfl); (case hr => first | (go_simp; done) | (go_simp; rfl))
          intro gb273 hg w21 hbox hb
          have n0_ := am (blk_below (g := gb262) (o := b2 a1_0 a1_1 23) (Z BK262) hb)
          have n1_ := am (blk_below (g := gb263) (o := b2 a2_0 a2_1 23) (Z BK263) hb)
          have n2_ := am (blk_below (g := gb272) (o := b2 0 0 24) (Z BK272) hb)
          have n3_ := am (below_step (Y3 HB GE262 GE263 GE272) hb)
          have n4_ := am (hbox)
          have n5_ := am ((by rw [hg]; exact (below_size (Y3 HB GE262 GE263 GE272)) : w.heap.size ≤ gb273))
          have n6_ := am ((by rw [hg]; exact (below_size (Y3 HB GE262 GE263 GE272)) : w.heap.size ≤ gb273))
          have n7_ := am ((nl (o := b2 a1_0 a1_1 23) hg (Z BK262) : gb262 ≠ gb273))
          have n8_ := am ((ng (o := b2 a1_0 a1_1 23) hg (Z BK262) : gb273 ≠ gb262))
          have n9_ := am ((nl (o := b2 a2_0 a2_1 23) hg (Z BK263) : gb263 ≠ gb273))
          have n10_ := am ((ng (o := b2 a2_0 a2_1 23) hg (Z BK263) : gb273 ≠ gb263))
          have n11_ := am ((nl (o := b2 0 0 24) hg (Z BK272) : gb272 ≠ gb273))
          have n12_ := am ((ng (o := b2 0 0 24) hg (Z BK272) : gb273 ≠ gb272))
          clear BK262
          clear BK263
          clear BK272
          clear HB
          have BK262 := n0_
          have BK263 := n1_
          have BK272 := n2_
          have HB := n3_
          have BK273 := n4_
          have GW273 := n5_
          have GE273 := n6_
          have NB262_273 := n7_
          have NB273_262 := n8_
          have NB263_273 := n9_
          have NB273_263 := n10_
          have NB272_273 := n11_
          have NB273_272 := n12_
          clear n0_ n1_ n2_ n3_ n4_ n5_ n6_ n7_ n8_ n9_ n10_ n11_ n12_
          clear hb hbox hg
          refine hK.out _ _ ⟨bc BK262 0, bc BK262 1, bc BK263 0, bc BK263 1⟩ (fun hHeld => ?_)
          clear hK K
          refine norm_ (a' := ?_) ?_ ?_
          rotate_left
          ·show Act.put _ (some 8) _ = _
           simp only [Act.put, List.setIfInBounds_toArray, List.set_cons_zero, List.set_cons_succ, i64_w, i32_w]
           rfl
          exact norm_ nz (hJ2_4_9_10 (gb272, gb273) _ ⟨hHeld, (Z BK262), (Z BK263), (Z BK272), (Z BK273), GW272.out, GE272.out, NB262_272.out, NB272_262.out, NB263_272.out, NB272_263.out, NB273_272.out, NB272_273.out, GW273.out, GE273.out, NB262_273.out, NB273_262.out, NB263_273.out, NB273_263.out, (Y4 HB GE262 GE263 GE272 GE273)⟩)
       ·skip
        rintro _ w20 ⟨hS_, h0_, h1_, h2_⟩
        have n0_ : Aside0 (w20.heap[gb262]? = some (.cells #[.int .i64 a1_0, .int .i64 a1_1] 23 (0, 0))) := ⟨h0_⟩
        have n1_ : Aside0 (w20.heap[gb263]? = some (.cells #[.int .i64 a2_0, .int .i64 a2_1] 23 (0, 0))) := ⟨h1_⟩
        have n2_ : Aside0 (Below w.heap.size w w20) := ⟨h2_⟩
        clear BK262
        clear BK263
        clear HB
        clear h0_ h1_ h2_
        have BK262 := n0_
        have BK263 := n1_
        have HB := n2_
        clear n0_ n1_ n2_
        have hHeld : w20.cell? ⟨gb262, 0, none⟩ = some (.int .i64 a1_0) ∧ w20.cell? ⟨gb262, 1, none⟩ = some (.int .i64 a1_1) ∧ w20.cell? ⟨gb263, 0, none⟩ = some (.int .i64 a2_0) ∧ w20.cell? ⟨gb263, 1, none⟩ = some (.int .i64 a2_1) := hS_
        refine norm_ (a' := ?_) ?_ ?_
        rotate_left
        ·simp only [putAll, Act.put, List.setIfInBounds_toArray, List.set_cons_zero, List.set_cons_succ]
         rfl
        refine two_ (i := 9) (j := 10) (Ni := some 7) (Nj := some 8) #[T, T, T, T, T, T, T, T, T, T, F, F, F] #[T, T, T, T, T, T, T, T, T, F, T, F, F] rfl rfl rfl rfl (two_of HT_.out (by kernel_rfl)) (by decide) (by decide) (fun K hK => ?_) (fun K hK => ?_)
        ·skip
         refine box_step ?hg (N := 7) ?hd (cs := #[.int .i64 0, .int .i64 0]) (t := 24) ?hr ?_; (case hd => rfl); (case hg => rfl); (case hr => first | (go_simp; done) | (go_simp; rfl))
         intro gb272 hg w21 hbox hb
         have n0_ := am (blk_below (g := gb262) (o := b2 a1_0 a1_1 23) (Z BK262) hb)
         have n1_ := am (blk_below (g := gb263) (o := b2 a2_0 a2_1 23) (Z BK263) hb)
         have n2_ := am (below_step (Y2 HB GE262 GE263) hb)
         have n3_ := am (hbox)
         have n4_ := am ((by rw [hg]; exact (below_size (Y2 HB GE262 GE263)) : w.heap.size ≤ gb272))
         have n5_ := am ((by rw [hg]; exact (below_size (Y2 HB GE262 GE263)) : w.heap.size ≤ gb272))
         have n6_ := am ((nl (o := b2 a1_0 a1_1 23) hg (Z BK262) : gb262 ≠ gb272))
         have n7_ := am ((ng (o := b2 a1_0 a1_1 23) hg (Z BK262) : gb272 ≠ gb262))
         have n8_ := am ((nl (o := b2 a2_0 a2_1 23) hg (Z BK263) : gb263 ≠ gb272))
         have n9_ := am ((ng (o := b2 a2_0 a2_1 23) hg (Z BK263) : gb272 ≠ gb263))
         clear BK262
         clear BK263
         clear HB
         have BK262 := n0_
         have BK263 := n1_
         have HB := n2_
         have BK272 := n3_
         have GW272 := n4_
         have GE272 := n5_
         have NB262_272 := n6_
         have NB272_262 := n7_
         have NB263_272 := n8_
         have NB272_263 := n9_
         clear n0_ n1_ n2_ n3_ n4_ n5_ n6_ n7_ n8_ n9_
         clear hb hbox hg
         refine hK.out _ _ ⟨bc BK262 0, bc BK262 1, bc BK263 0, bc BK263 1⟩ (fun hHeld => ?_)
         clear hK K
         refine norm_ (a' := ?_) ?_ ?_
         rotate_left
         ·show Act.put _ (some 7) _ = _
          simp only [Act.put, List.setIfInBounds_toArray, List.set_cons_zero, List.set_cons_succ, i64_w, i32_w]
          rfl
         exact norm_ nz (hJ2_4_5_9 (gb272) _ ⟨hHeld, (Z BK262), (Z BK263), (Z BK272), GW272.out, GE272.out, NB262_272.out, NB272_262.out, NB263_272.out, NB272_263.out, (Y3 HB GE262 GE263 GE272)⟩)
        ·skip
         refine box_step ?hg (N := 8) ?hd (cs := #[.int .i64 0, .int .i64 0]) (t := 24) ?hr ?_; (case hd => rfl); (case hg => rfl); (case hr => first | (go_simp; done) | (go_simp; rfl))
         intro gb273 hg w21 hbox hb
         have n0_ := am (blk_below (g := gb262) (o := b2 a1_0 a1_1 23) (Z BK262) hb)
         have n1_ := am (blk_below (g := gb263) (o := b2 a2_0 a2_1 23) (Z BK263) hb)
         have n2_ := am (below_step (Y2 HB GE262 GE263) hb)
         have n3_ := am (hbox)
         have n4_ := am ((by rw [hg]; exact (below_size (Y2 HB GE262 GE263)) : w.heap.size ≤ gb273))
         have n5_ := am ((by rw [hg]; exact (below_size (Y2 HB GE262 GE263)) : w.heap.size ≤ gb273))
         have n6_ := am ((nl (o := b2 a1_0 a1_1 23) hg (Z BK262) : gb262 ≠ gb273))
         have n7_ := am ((ng (o := b2 a1_0 a1_1 23) hg (Z BK262) : gb273 ≠ gb262))
         have n8_ := am ((nl (o := b2 a2_0 a2_1 23) hg (Z BK263) : gb263 ≠ gb273))
         have n9_ := am ((ng (o := b2 a2_0 a2_1 23) hg (Z BK263) : gb273 ≠ gb263))
         clear BK262
         clear BK263
         clear HB
         have BK262 := n0_
         have BK263 := n1_
         have HB := n2_
         have BK273 := n3_
         have GW273 := n4_
         have GE273 := n5_
         have NB262_273 := n6_
         have NB273_262 := n7_
         have NB263_273 := n8_
         have NB273_263 := n9_
         clear n0_ n1_ n2_ n3_ n4_ n5_ n6_ n7_ n8_ n9_
         clear hb hbox hg
         refine hK.out _ _ ⟨bc BK262 0, bc BK262 1, bc BK263 0, bc BK263 1⟩ (fun hHeld => ?_)
         clear hK K
         refine norm_ (a' := ?_) ?_ ?_
         rotate_left
         ·show Act.put _ (some 8) _ = _
          simp only [Act.put, List.setIfInBounds_toArray, List.set_cons_zero, List.set_cons_succ, i64_w, i32_w]
          rfl
         exact norm_ nz (hJ2_4_5_10 (gb273) _ ⟨hHeld, (Z BK262), (Z BK263), (Z BK273), GW273.out, GE273.out, NB262_273.out, NB273_262.out, NB263_273.out, NB273_263.out, (Y3 HB GE262 GE263 GE273)⟩)
      ·skip
       rintro ⟨gb272, gb273⟩ w21 ⟨hS_, h0_, h1_, h2_, h3_, h4_, h5_, h6_, h7_, h8_, h9_, h10_, h11_, h12_, h13_, h14_, h15_, h16_, h17_, h18_⟩
       have n0_ : Aside0 (w21.heap[gb262]? = some (.cells #[.int .i64 a1_0, .int .i64 a1_1] 23 (0, 0))) := ⟨h0_⟩
       have n1_ : Aside0 (w21.heap[gb263]? = some (.cells #[.int .i64 a2_0, .int .i64 a2_1] 23 (0, 0))) := ⟨h1_⟩
       have n2_ : Aside0 (w21.heap[gb272]? = some (.cells #[.int .i64 0, .int .i64 0] 24 (0, 0))) := ⟨h2_⟩
       have n3_ : Aside0 (w21.heap[gb273]? = some (.cells #[.int .i64 0, .int .i64 0] 24 (0, 0))) := ⟨h3_⟩
       have n4_ : Aside0 (w.heap.size ≤ gb272) := ⟨h4_⟩
       have n5_ : Aside0 (w.heap.size ≤ gb272) := ⟨h5_⟩
       have n6_ : Aside0 (gb262 ≠ gb272) := ⟨h6_⟩
       have n7_ : Aside0 (gb272 ≠ gb262) := ⟨h7_⟩
       have n8_ : Aside0 (gb263 ≠ gb272) := ⟨h8_⟩
       have n9_ : Aside0 (gb272 ≠ gb263) := ⟨h9_⟩
       have n10_ : Aside0 (gb273 ≠ gb272) := ⟨h10_⟩
       have n11_ : Aside0 (gb272 ≠ gb273) := ⟨h11_⟩
       have n12_ : Aside0 (w.heap.size ≤ gb273) := ⟨h12_⟩
       have n13_ : Aside0 (w.heap.size ≤ gb273) := ⟨h13_⟩
       have n14_ : Aside0 (gb262 ≠ gb273) := ⟨h14_⟩
       have n15_ : Aside0 (gb273 ≠ gb262) := ⟨h15_⟩
       have n16_ : Aside0 (gb263 ≠ gb273) := ⟨h16_⟩
       have n17_ : Aside0 (gb273 ≠ gb263) := ⟨h17_⟩
       have n18_ : Aside0 (Below w.heap.size w w21) := ⟨h18_⟩
       clear BK262
       clear BK263
       clear HB
       clear h0_ h1_ h2_ h3_ h4_ h5_ h6_ h7_ h8_ h9_ h10_ h11_ h12_ h13_ h14_ h15_ h16_ h17_ h18_
       have BK262 := n0_
       have BK263 := n1_
       have BK272 := n2_
       have BK273 := n3_
       have GW272 := n4_
       have GE272 := n5_
       have NB262_272 := n6_
       have NB272_262 := n7_
       have NB263_272 := n8_
       have NB272_263 := n9_
       have NB273_272 := n10_
       have NB272_273 := n11_
       have GW273 := n12_
       have GE273 := n13_
       have NB262_273 := n14_
       have NB273_262 := n15_
       have NB263_273 := n16_
       have NB273_263 := n17_
       have HB := n18_
       clear n0_ n1_ n2_ n3_ n4_ n5_ n6_ n7_ n8_ n9_ n10_ n11_ n12_ n13_ n14_ n15_ n16_ n17_ n18_
       have hHeld : w21.cell? ⟨gb262, 0, none⟩ = some (.int .i64 a1_0) ∧ w21.cell? ⟨gb262, 1, none⟩ = some (.int .i64 a1_1) ∧ w21.cell? ⟨gb263, 0, none⟩ = some (.int .i64 a2_0) ∧ w21.cell? ⟨gb263, 1, none⟩ = some (.int .i64 a2_1) := hS_
       refine norm_ (a' := ?_) ?_ ?_
       rotate_left
       ·simp only [putAll, Act.put, List.setIfInBounds_toArray, List.set_cons_zero, List.set_cons_succ]
        rfl
       refine one_ (i := 5) (N := some 17) #[T, T, T, T, T, T, F, F, F, T, T, F, F] rfl rfl (one_of HT_.out (by kernel_rfl)) (by decide) (fun K hK => ?_)
       refine goes_ Try.func25 (by kernel_rfl) rfl #[.int .i64 a0, .agg #[.int .i64 t264, .int .i64 t265], .agg #[.int .i64 t266, .int .i64 t267]] (by rfl) rfl rfl mz ?_
       with_reducible refine (spec_RangeCmp.calls k a0 t264 t265 t266 t267 t268 t269 t270 t271 _ A6.out).mono ?_
       rintro e w22 ⟨rfl, hb⟩
       refine ⟨_, rfl, ?_⟩
       have n0_ := am (blk_below (g := gb262) (o := b2 a1_0 a1_1 23) (Z BK262) hb)
       have n1_ := am (blk_below (g := gb263) (o := b2 a2_0 a2_1 23) (Z BK263) hb)
       have n2_ := am (blk_below (g := gb272) (o := b2 0 0 24) (Z BK272) hb)
       have n3_ := am (blk_below (g := gb273) (o := b2 0 0 24) (Z BK273) hb)
       have n4_ := am (below_step (Y4 HB GE262 GE263 GE272 GE273) hb)
       clear BK262
       clear BK263
       clear BK272
       clear BK273
       clear HB
       have BK262 := n0_
       have BK263 := n1_
       have BK272 := n2_
       have BK273 := n3_
       have HB := n4_
       clear n0_ n1_ n2_ n3_ n4_
       (try clear hb)
       (try clear hb2)
       (try clear hk)
       (try clear hi)
       refine hK.out _ _ ⟨bc BK262 0, bc BK262 1, bc BK263 0, bc BK263 1⟩ (fun hHeld => ?_)
       clear hK K
       refine norm_ (a' := ?_) ?_ ?_
       rotate_left
       ·show Act.put _ (some 17) _ = _
        simp only [Act.put, List.setIfInBounds_toArray, List.set_cons_zero, List.set_cons_succ, i64_w, i32_w]
        rfl
       refine pure_ (i := 6) (N := some 11) (v := ?_) (a' := ?_) #[T, T, T, T, T, T, T, F, F, T, T, F, F] rfl rfl (any_of HT_.out (by kernel_rfl)) (fun _ _ _ h => h) (Or.inl ⟨by rfl, ?_⟩) ?_ ?_
       rotate_left
       ·exact gz
       rotate_left
       ·exact pz
       refine pure_ (i := 7) (N := some 18) (v := ?_) (a' := ?_) #[T, T, T, T, T, T, T, T, F, T, T, F, F] rfl rfl (any_of HT_.out (by kernel_rfl)) (fun _ _ _ h => h) (Or.inl ⟨by rfl, ?_⟩) ?_ ?_
       rotate_left
       ·exact gz
       rotate_left
       ·exact pz
       refine pure_ (i := 8) (N := some 19) (v := ?_) (a' := ?_) #[T, T, T, T, T, T, T, T, T, T, T, F, F] rfl rfl (any_of HT_.out (by kernel_rfl)) (fun _ _ _ h => h) (Or.inl ⟨by rfl, ?_⟩) ?_ ?_
       rotate_left
       ·exact gz
       rotate_left
       ·exact pz
       exact norm_ nz (hJ2_4_5_9_10 (gb272, gb273) _ ⟨hHeld, (Z BK262), (Z BK263), (Z BK272), (Z BK273), GW272.out, GE272.out, NB262_272.out, NB272_262.out, NB263_272.out, NB272_263.out, NB273_272.out, NB272_273.out, GW273.out, GE273.out, NB262_273.out, NB273_262.out, NB263_273.out, NB273_263.out, (Y4 HB GE262 GE263 GE272 GE273)⟩)
     ·skip
      rintro gb273 w21 ⟨hS_, h0_, h1_, h2_, h3_, h4_, h5_, h6_, h7_, h8_, h9_⟩
      have n0_ : Aside0 (w21.heap[gb262]? = some (.cells #[.int .i64 a1_0, .int .i64 a1_1] 23 (0, 0))) := ⟨h0_⟩
      have n1_ : Aside0 (w21.heap[gb263]? = some (.cells #[.int .i64 a2_0, .int .i64 a2_1] 23 (0, 0))) := ⟨h1_⟩
      have n2_ : Aside0 (w21.heap[gb273]? = some (.cells #[.int .i64 0, .int .i64 0] 24 (0, 0))) := ⟨h2_⟩
      have n3_ : Aside0 (w.heap.size ≤ gb273) := ⟨h3_⟩
      have n4_ : Aside0 (w.heap.size ≤ gb273) := ⟨h4_⟩
      have n5_ : Aside0 (gb262 ≠ gb273) := ⟨h5_⟩
      have n6_ : Aside0 (gb273 ≠ gb262) := ⟨h6_⟩
      have n7_ : Aside0 (gb263 ≠ gb273) := ⟨h7_⟩
      have n8_ : Aside0 (gb273 ≠ gb263) := ⟨h8_⟩
      have n9_ : Aside0 (Below w.heap.size w w21) := ⟨h9_⟩
      clear BK262
      clear BK263
      clear HB
      clear h0_ h1_ h2_ h3_ h4_ h5_ h6_ h7_ h8_ h9_
      have BK262 := n0_
      have BK263 := n1_
      have BK273 := n2_
      have GW273 := n3_
      have GE273 := n4_
      have NB262_273 := n5_
      have NB273_262 := n6_
      have NB263_273 := n7_
      have NB273_263 := n8_
      have HB := n9_
      clear n0_ n1_ n2_ n3_ n4_ n5_ n6_ n7_ n8_ n9_
      have hHeld : w21.cell? ⟨gb262, 0, none⟩ = some (.int .i64 a1_0) ∧ w21.cell? ⟨gb262, 1, none⟩ = some (.int .i64 a1_1) ∧ w21.cell? ⟨gb263, 0, none⟩ = some (.int .i64 a2_0) ∧ w21.cell? ⟨gb263, 1, none⟩ = some (.int .i64 a2_1) := hS_
      refine norm_ (a' := ?_) ?_ ?_
      rotate_left
      ·simp only [putAll, Act.put, List.setIfInBounds_toArray, List.set_cons_zero, List.set_cons_succ]
       rfl
      refine one_ (i := 9) (N := some 7) #[T, T, T, T, T, T, T, T, T, T, T, F, F] rfl rfl (one_of HT_.out (by kernel_rfl)) (by decide) (fun K hK => ?_)
      refine box_step ?hg (N := 7) ?hd (cs := #[.int .i64 0, .int .i64 0]) (t := 24) ?hr ?_; (case hd => rfl); (case hg => rfl); (case hr => first | (go_simp; done) | (go_simp; rfl))
      intro gb272 hg w22 hbox hb
      have n0_ := am (blk_below (g := gb262) (o := b2 a1_0 a1_1 23) (Z BK262) hb)
      have n1_ := am (blk_below (g := gb263) (o := b2 a2_0 a2_1 23) (Z BK263) hb)
      have n2_ := am (blk_below (g := gb273) (o := b2 0 0 24) (Z BK273) hb)
      have n3_ := am (below_step (Y3 HB GE262 GE263 GE273) hb)
      have n4_ := am (hbox)
      have n5_ := am ((by rw [hg]; exact (below_size (Y3 HB GE262 GE263 GE273)) : w.heap.size ≤ gb272))
      have n6_ := am ((by rw [hg]; exact (below_size (Y3 HB GE262 GE263 GE273)) : w.heap.size ≤ gb272))
      have n7_ := am ((nl (o := b2 a1_0 a1_1 23) hg (Z BK262) : gb262 ≠ gb272))
      have n8_ := am ((ng (o := b2 a1_0 a1_1 23) hg (Z BK262) : gb272 ≠ gb262))
      have n9_ := am ((nl (o := b2 a2_0 a2_1 23) hg (Z BK263) : gb263 ≠ gb272))
      have n10_ := am ((ng (o := b2 a2_0 a2_1 23) hg (Z BK263) : gb272 ≠ gb263))
      have n11_ := am ((nl (o := b2 0 0 24) hg (Z BK273) : gb273 ≠ gb272))
      have n12_ := am ((ng (o := b2 0 0 24) hg (Z BK273) : gb272 ≠ gb273))
      clear BK262
      clear BK263
      clear BK273
      clear HB
      have BK262 := n0_
      have BK263 := n1_
      have BK273 := n2_
      have HB := n3_
      have BK272 := n4_
      have GW272 := n5_
      have GE272 := n6_
      have NB262_272 := n7_
      have NB272_262 := n8_
      have NB263_272 := n9_
      have NB272_263 := n10_
      have NB273_272 := n11_
      have NB272_273 := n12_
      clear n0_ n1_ n2_ n3_ n4_ n5_ n6_ n7_ n8_ n9_ n10_ n11_ n12_
      clear hb hbox hg
      refine hK.out _ _ ⟨bc BK262 0, bc BK262 1, bc BK263 0, bc BK263 1⟩ (fun hHeld => ?_)
      clear hK K
      refine norm_ (a' := ?_) ?_ ?_
      rotate_left
      ·show Act.put _ (some 7) _ = _
       simp only [Act.put, List.setIfInBounds_toArray, List.set_cons_zero, List.set_cons_succ, i64_w, i32_w]
       rfl
      exact norm_ nz (hJ2_4_5_9_10 (gb272, gb273) _ ⟨hHeld, (Z BK262), (Z BK263), (Z BK272), (Z BK273), GW272.out, GE272.out, NB262_272.out, NB272_262.out, NB263_272.out, NB272_263.out, NB273_272.out, NB272_273.out, GW273.out, GE273.out, NB262_273.out, NB273_262.out, NB263_273.out, NB273_263.out, (Y4 HB GE262 GE263 GE273 GE272)⟩)
    ·skip
     rintro gb272 w21 ⟨hS_, h0_, h1_, h2_, h3_, h4_, h5_, h6_, h7_, h8_, h9_⟩
     have n0_ : Aside0 (w21.heap[gb262]? = some (.cells #[.int .i64 a1_0, .int .i64 a1_1] 23 (0, 0))) := ⟨h0_⟩
     have n1_ : Aside0 (w21.heap[gb263]? = some (.cells #[.int .i64 a2_0, .int .i64 a2_1] 23 (0, 0))) := ⟨h1_⟩
     have n2_ : Aside0 (w21.heap[gb272]? = some (.cells #[.int .i64 0, .int .i64 0] 24 (0, 0))) := ⟨h2_⟩
     have n3_ : Aside0 (w.heap.size ≤ gb272) := ⟨h3_⟩
     have n4_ : Aside0 (w.heap.size ≤ gb272) := ⟨h4_⟩
     have n5_ : Aside0 (gb262 ≠ gb272) := ⟨h5_⟩
     have n6_ : Aside0 (gb272 ≠ gb262) := ⟨h6_⟩
     have n7_ : Aside0 (gb263 ≠ gb272) := ⟨h7_⟩
     have n8_ : Aside0 (gb272 ≠ gb263) := ⟨h8_⟩
     have n9_ : Aside0 (Below w.heap.size w w21) := ⟨h9_⟩
     clear BK262
     clear BK263
     clear HB
     clear h0_ h1_ h2_ h3_ h4_ h5_ h6_ h7_ h8_ h9_
     have BK262 := n0_
     have BK263 := n1_
     have BK272 := n2_
     have GW272 := n3_
     have GE272 := n4_
     have NB262_272 := n5_
     have NB272_262 := n6_
     have NB263_272 := n7_
     have NB272_263 := n8_
     have HB := n9_
     clear n0_ n1_ n2_ n3_ n4_ n5_ n6_ n7_ n8_ n9_
     have hHeld : w21.cell? ⟨gb262, 0, none⟩ = some (.int .i64 a1_0) ∧ w21.cell? ⟨gb262, 1, none⟩ = some (.int .i64 a1_1) ∧ w21.cell? ⟨gb263, 0, none⟩ = some (.int .i64 a2_0) ∧ w21.cell? ⟨gb263, 1, none⟩ = some (.int .i64 a2_1) := hS_
     refine norm_ (a' := ?_) ?_ ?_
     rotate_left
     ·simp only [putAll, Act.put, List.setIfInBounds_toArray, List.set_cons_zero, List.set_cons_succ]
      rfl
     refine one_ (i := 10) (N := some 8) #[T, T, T, T, T, T, T, T, T, T, T, F, F] rfl rfl (one_of HT_.out (by kernel_rfl)) (by decide) (fun K hK => ?_)
     refine box_step ?hg (N := 8) ?hd (cs := #[.int .i64 0, .int .i64 0]) (t := 24) ?hr ?_; (case hd => rfl); (case hg => rfl); (case hr => first | (go_simp; done) | (go_simp; rfl))
     intro gb273 hg w22 hbox hb
     have n0_ := am (blk_below (g := gb262) (o := b2 a1_0 a1_1 23) (Z BK262) hb)
     have n1_ := am (blk_below (g := gb263) (o := b2 a2_0 a2_1 23) (Z BK263) hb)
     have n2_ := am (blk_below (g := gb272) (o := b2 0 0 24) (Z BK272) hb)
     have n3_ := am (below_step (Y3 HB GE262 GE263 GE272) hb)
     have n4_ := am (hbox)
     have n5_ := am ((by rw [hg]; exact (below_size (Y3 HB GE262 GE263 GE272)) : w.heap.size ≤ gb273))
     have n6_ := am ((by rw [hg]; exact (below_size (Y3 HB GE262 GE263 GE272)) : w.heap.size ≤ gb273))
     have n7_ := am ((nl (o := b2 a1_0 a1_1 23) hg (Z BK262) : gb262 ≠ gb273))
     have n8_ := am ((ng (o := b2 a1_0 a1_1 23) hg (Z BK262) : gb273 ≠ gb262))
     have n9_ := am ((nl (o := b2 a2_0 a2_1 23) hg (Z BK263) : gb263 ≠ gb273))
     have n10_ := am ((ng (o := b2 a2_0 a2_1 23) hg (Z BK263) : gb273 ≠ gb263))
     have n11_ := am ((nl (o := b2 0 0 24) hg (Z BK272) : gb272 ≠ gb273))
     have n12_ := am ((ng (o := b2 0 0 24) hg (Z BK272) : gb273 ≠ gb272))
     clear BK262
     clear BK263
     clear BK272
     clear HB
     have BK262 := n0_
     have BK263 := n1_
     have BK272 := n2_
     have HB := n3_
     have BK273 := n4_
     have GW273 := n5_
     have GE273 := n6_
     have NB262_273 := n7_
     have NB273_262 := n8_
     have NB263_273 := n9_
     have NB273_263 := n10_
     have NB272_273 := n11_
     have NB273_272 := n12_
     clear n0_ n1_ n2_ n3_ n4_ n5_ n6_ n7_ n8_ n9_ n10_ n11_ n12_
     clear hb hbox hg
     refine hK.out _ _ ⟨bc BK262 0, bc BK262 1, bc BK263 0, bc BK263 1⟩ (fun hHeld => ?_)
     clear hK K
     refine norm_ (a' := ?_) ?_ ?_
     rotate_left
     ·show Act.put _ (some 8) _ = _
      simp only [Act.put, List.setIfInBounds_toArray, List.set_cons_zero, List.set_cons_succ, i64_w, i32_w]
      rfl
     exact norm_ nz (hJ2_4_5_9_10 (gb272, gb273) _ ⟨hHeld, (Z BK262), (Z BK263), (Z BK272), (Z BK273), GW272.out, GE272.out, NB262_272.out, NB272_262.out, NB263_272.out, NB272_263.out, NB273_272.out, NB272_273.out, GW273.out, GE273.out, NB262_273.out, NB273_262.out, NB263_273.out, NB273_263.out, (Y4 HB GE262 GE263 GE272 GE273)⟩)
   rintro ⟨gb272, gb273⟩ w22 ⟨hS_, h0_, h1_, h2_, h3_, h4_, h5_, h6_, h7_, h8_, h9_, h10_, h11_, h12_, h13_, h14_, h15_, h16_, h17_, h18_⟩
   have n0_ : Aside0 (w22.heap[gb262]? = some (.cells #[.int .i64 a1_0, .int .i64 a1_1] 23 (0, 0))) := ⟨h0_⟩
   have n1_ : Aside0 (w22.heap[gb263]? = some (.cells #[.int .i64 a2_0, .int .i64 a2_1] 23 (0, 0))) := ⟨h1_⟩
   have n2_ : Aside0 (w22.heap[gb272]? = some (.cells #[.int .i64 0, .int .i64 0] 24 (0, 0))) := ⟨h2_⟩
   have n3_ : Aside0 (w22.heap[gb273]? = some (.cells #[.int .i64 0, .int .i64 0] 24 (0, 0))) := ⟨h3_⟩
   have n4_ : Aside0 (w.heap.size ≤ gb272) := ⟨h4_⟩
   have n5_ : Aside0 (w.heap.size ≤ gb272) := ⟨h5_⟩
   have n6_ : Aside0 (gb262 ≠ gb272) := ⟨h6_⟩
   have n7_ : Aside0 (gb272 ≠ gb262) := ⟨h7_⟩
   have n8_ : Aside0 (gb263 ≠ gb272) := ⟨h8_⟩
   have n9_ : Aside0 (gb272 ≠ gb263) := ⟨h9_⟩
   have n10_ : Aside0 (gb273 ≠ gb272) := ⟨h10_⟩
   have n11_ : Aside0 (gb272 ≠ gb273) := ⟨h11_⟩
   have n12_ : Aside0 (w.heap.size ≤ gb273) := ⟨h12_⟩
   have n13_ : Aside0 (w.heap.size ≤ gb273) := ⟨h13_⟩
   have n14_ : Aside0 (gb262 ≠ gb273) := ⟨h14_⟩
   have n15_ : Aside0 (gb273 ≠ gb262) := ⟨h15_⟩
   have n16_ : Aside0 (gb263 ≠ gb273) := ⟨h16_⟩
   have n17_ : Aside0 (gb273 ≠ gb263) := ⟨h17_⟩
   have n18_ : Aside0 (Below w.heap.size w w22) := ⟨h18_⟩
   clear BK262
   clear BK263
   clear HB
   clear h0_ h1_ h2_ h3_ h4_ h5_ h6_ h7_ h8_ h9_ h10_ h11_ h12_ h13_ h14_ h15_ h16_ h17_ h18_
   have BK262 := n0_
   have BK263 := n1_
   have BK272 := n2_
   have BK273 := n3_
   have GW272 := n4_
   have GE272 := n5_
   have NB262_272 := n6_
   have NB272_262 := n7_
   have NB263_272 := n8_
   have NB272_263 := n9_
   have NB273_272 := n10_
   have NB272_273 := n11_
   have GW273 := n12_
   have GE273 := n13_
   have NB262_273 := n14_
   have NB273_262 := n15_
   have NB263_273 := n16_
   have NB273_263 := n17_
   have HB := n18_
   clear n0_ n1_ n2_ n3_ n4_ n5_ n6_ n7_ n8_ n9_ n10_ n11_ n12_ n13_ n14_ n15_ n16_ n17_ n18_
   have hHeld : w22.cell? ⟨gb262, 0, none⟩ = some (.int .i64 a1_0) ∧ w22.cell? ⟨gb262, 1, none⟩ = some (.int .i64 a1_1) ∧ w22.cell? ⟨gb263, 0, none⟩ = some (.int .i64 a2_0) ∧ w22.cell? ⟨gb263, 1, none⟩ = some (.int .i64 a2_1) := hS_
   refine norm_ (a' := ?_) ?_ ?_
   rotate_left
   ·simp only [putAll, Act.put, List.setIfInBounds_toArray, List.set_cons_zero, List.set_cons_succ]
    rfl
   refine one_ (i := 11) (N := none) #[T, T, T, T, T, T, T, T, T, T, T, T, F] rfl rfl (one_of HT_.out (by kernel_rfl)) (by decide) (fun K hK => ?_)
   have hs23 : w22.cell? ⟨gb272, 0, none⟩ = some (.int .i64 0) := bc BK272 0
   have hfs23 := blk_frozen BK272.out 0
   have hns23_0 := NB262_272.out
   have hns23_1 := NB263_272.out
   have hns23_3 := NB273_272.out
   have hms23_0 := NB272_262.out
   have hms23_1 := NB272_263.out
   have hms23_3 := NB272_273.out
   have hs24 : w22.cell? ⟨gb272, 1, none⟩ = some (.int .i64 0) := bc BK272 1
   have hfs24 := blk_frozen BK272.out 1
   have hns24_0 := NB262_272.out
   have hns24_1 := NB263_272.out
   have hns24_3 := NB273_272.out
   have hms24_0 := NB272_262.out
   have hms24_1 := NB272_263.out
   have hms24_3 := NB272_273.out
   refine skip_ (w1 := ?_) (by rfl) rfl ?_ ?_
   rotate_left
   ·go_simp
    rfl
   refine hK.out _ _ ⟨((cell_far (p := ⟨gb272, _, none⟩) NB262_272.out _).trans (((cell_far (p := ⟨gb272, _, none⟩) NB262_272.out _).trans (hHeld.1)))), ((cell_far (p := ⟨gb272, _, none⟩) NB262_272.out _).trans (((cell_far (p := ⟨gb272, _, none⟩) NB262_272.out _).trans (hHeld.2.1)))), ((cell_far (p := ⟨gb272, _, none⟩) NB263_272.out _).trans (((cell_far (p := ⟨gb272, _, none⟩) NB263_272.out _).trans (hHeld.2.2.1)))), ((cell_far (p := ⟨gb272, _, none⟩) NB263_272.out _).trans (((cell_far (p := ⟨gb272, _, none⟩) NB263_272.out _).trans (hHeld.2.2.2))))⟩ (fun hHeld => ?_)
   clear hK K
   refine one_ (i := 12) (N := none) #[T, T, T, T, T, T, T, T, T, T, T, T, T] rfl rfl (one_of HT_.out (by kernel_rfl)) (by decide) (fun K hK => ?_)
   have hs25 : w22.cell? ⟨gb273, 0, none⟩ = some (.int .i64 0) := bc BK273 0
   have hfs25 := blk_frozen BK273.out 0
   have hns25_0 := NB262_273.out
   have hns25_1 := NB263_273.out
   have hns25_2 := NB272_273.out
   have hms25_0 := NB273_262.out
   have hms25_1 := NB273_263.out
   have hms25_2 := NB273_272.out
   have hs26 : w22.cell? ⟨gb273, 1, none⟩ = some (.int .i64 0) := bc BK273 1
   have hfs26 := blk_frozen BK273.out 1
   have hns26_0 := NB262_273.out
   have hns26_1 := NB263_273.out
   have hns26_2 := NB272_273.out
   have hms26_0 := NB273_262.out
   have hms26_1 := NB273_263.out
   have hms26_2 := NB273_272.out
   refine skip_ (w1 := ?_) (by rfl) rfl ?_ ?_
   rotate_left
   ·go_simp
    rfl
   refine hK.out _ _ ⟨((cell_far (p := ⟨gb273, _, none⟩) NB262_273.out _).trans (((cell_far (p := ⟨gb273, _, none⟩) NB262_273.out _).trans (hHeld.1)))), ((cell_far (p := ⟨gb273, _, none⟩) NB262_273.out _).trans (((cell_far (p := ⟨gb273, _, none⟩) NB262_273.out _).trans (hHeld.2.1)))), ((cell_far (p := ⟨gb273, _, none⟩) NB263_273.out _).trans (((cell_far (p := ⟨gb273, _, none⟩) NB263_273.out _).trans (hHeld.2.2.1)))), ((cell_far (p := ⟨gb273, _, none⟩) NB263_273.out _).trans (((cell_far (p := ⟨gb273, _, none⟩) NB263_273.out _).trans (hHeld.2.2.2))))⟩ (fun hHeld => ?_)
   clear hK K
   refine done_ (done_of HT_.out (by kernel_rfl)) ?_
   try go_wp2
   have n0_ : Aside0 (((((w22.setCell ⟨gb272, 0, none⟩ (.int .i64 t268)).setCell ⟨gb272, 1, none⟩ (.int .i64 t269)).setCell ⟨gb273, 0, none⟩ (.int .i64 t270)).setCell ⟨gb273, 1, none⟩ (.int .i64 t271)).heap[gb262]? = some (.cells #[.int .i64 a1_0, .int .i64 a1_1] 23 (0, 0))) := ⟨by (with_reducible repeat (first | refine blk_drewN ?_ _ | refine blk_drew ?_ | refine blk_alloc ?_ _)); refine blk_far ?_ NB262_273.out _; (with_reducible repeat (first | refine blk_drewN ?_ _ | refine blk_drew ?_ | refine blk_alloc ?_ _)); refine blk_far ?_ NB262_273.out _; (with_reducible repeat (first | refine blk_drewN ?_ _ | refine blk_drew ?_ | refine blk_alloc ?_ _)); refine blk_far ?_ NB262_272.out _; (with_reducible repeat (first | refine blk_drewN ?_ _ | refine blk_drew ?_ | refine blk_alloc ?_ _)); refine blk_far ?_ NB262_272.out _; (with_reducible repeat (first | refine blk_drewN ?_ _ | refine blk_drew ?_ | refine blk_alloc ?_ _)); exact BK262.out⟩
   have n1_ : Aside0 (((((w22.setCell ⟨gb272, 0, none⟩ (.int .i64 t268)).setCell ⟨gb272, 1, none⟩ (.int .i64 t269)).setCell ⟨gb273, 0, none⟩ (.int .i64 t270)).setCell ⟨gb273, 1, none⟩ (.int .i64 t271)).heap[gb263]? = some (.cells #[.int .i64 a2_0, .int .i64 a2_1] 23 (0, 0))) := ⟨by (with_reducible repeat (first | refine blk_drewN ?_ _ | refine blk_drew ?_ | refine blk_alloc ?_ _)); refine blk_far ?_ NB263_273.out _; (with_reducible repeat (first | refine blk_drewN ?_ _ | refine blk_drew ?_ | refine blk_alloc ?_ _)); refine blk_far ?_ NB263_273.out _; (with_reducible repeat (first | refine blk_drewN ?_ _ | refine blk_drew ?_ | refine blk_alloc ?_ _)); refine blk_far ?_ NB263_272.out _; (with_reducible repeat (first | refine blk_drewN ?_ _ | refine blk_drew ?_ | refine blk_alloc ?_ _)); refine blk_far ?_ NB263_272.out _; (with_reducible repeat (first | refine blk_drewN ?_ _ | refine blk_drew ?_ | refine blk_alloc ?_ _)); exact BK263.out⟩
   have n2_ : Aside0 (((((w22.setCell ⟨gb272, 0, none⟩ (.int .i64 t268)).setCell ⟨gb272, 1, none⟩ (.int .i64 t269)).setCell ⟨gb273, 0, none⟩ (.int .i64 t270)).setCell ⟨gb273, 1, none⟩ (.int .i64 t271)).heap[gb272]? = some (.cells #[.int .i64 t268, .int .i64 t269] 24 (0, 0))) := ⟨by (with_reducible repeat (first | refine blk_drewN ?_ _ | refine blk_drew ?_ | refine blk_alloc ?_ _)); refine blk_far ?_ NB272_273.out _; (with_reducible repeat (first | refine blk_drewN ?_ _ | refine blk_drew ?_ | refine blk_alloc ?_ _)); refine blk_far ?_ NB272_273.out _; (with_reducible repeat (first | refine blk_drewN ?_ _ | refine blk_drew ?_ | refine blk_alloc ?_ _)); refine blk_put (cs := #[.int .i64 t268, .int .i64 0]) ?_ 1 _ rfl; (with_reducible repeat (first | refine blk_drewN ?_ _ | refine blk_drew ?_ | refine blk_alloc ?_ _)); refine blk_put (cs := #[.int .i64 0, .int .i64 0]) ?_ 0 _ rfl; (with_reducible repeat (first | refine blk_drewN ?_ _ | refine blk_drew ?_ | refine blk_alloc ?_ _)); exact BK272.out⟩
   have n3_ : Aside0 (((((w22.setCell ⟨gb272, 0, none⟩ (.int .i64 t268)).setCell ⟨gb272, 1, none⟩ (.int .i64 t269)).setCell ⟨gb273, 0, none⟩ (.int .i64 t270)).setCell ⟨gb273, 1, none⟩ (.int .i64 t271)).heap[gb273]? = some (.cells #[.int .i64 t270, .int .i64 t271] 24 (0, 0))) := ⟨by (with_reducible repeat (first | refine blk_drewN ?_ _ | refine blk_drew ?_ | refine blk_alloc ?_ _)); refine blk_put (cs := #[.int .i64 t270, .int .i64 0]) ?_ 1 _ rfl; (with_reducible repeat (first | refine blk_drewN ?_ _ | refine blk_drew ?_ | refine blk_alloc ?_ _)); refine blk_put (cs := #[.int .i64 0, .int .i64 0]) ?_ 0 _ rfl; (with_reducible repeat (first | refine blk_drewN ?_ _ | refine blk_drew ?_ | refine blk_alloc ?_ _)); refine blk_far ?_ NB273_272.out _; (with_reducible repeat (first | refine blk_drewN ?_ _ | refine blk_drew ?_ | refine blk_alloc ?_ _)); refine blk_far ?_ NB273_272.out _; (with_reducible repeat (first | refine blk_drewN ?_ _ | refine blk_drew ?_ | refine blk_alloc ?_ _)); exact BK273.out⟩
   have n4_ : Aside0 (Below w.heap.size w ((((w22.setCell ⟨gb272, 0, none⟩ (.int .i64 t268)).setCell ⟨gb272, 1, none⟩ (.int .i64 t269)).setCell ⟨gb273, 0, none⟩ (.int .i64 t270)).setCell ⟨gb273, 1, none⟩ (.int .i64 t271))) := ⟨Y4 HB GE262 GE263 GE272 GE273⟩
   (try clear BK262)
   (try clear BK263)
   (try clear BK272)
   (try clear BK273)
   (try clear HB)
   generalize ((((w22.setCell ⟨gb272, 0, none⟩ (.int .i64 t268)).setCell ⟨gb272, 1, none⟩ (.int .i64 t269)).setCell ⟨gb273, 0, none⟩ (.int .i64 t270)).setCell ⟨gb273, 1, none⟩ (.int .i64 t271)) = w27 at n0_ n1_ n2_ n3_ n4_ ⊢
   have BK262 := n0_
   have BK263 := n1_
   have BK272 := n2_
   have BK273 := n3_
   have HB := n4_
   clear n0_ n1_ n2_ n3_ n4_
   have n0_ := am (blk_drew BK262.out)
   have n1_ := am (blk_drew BK263.out)
   have n2_ := am (blk_drew BK272.out)
   have n3_ := am (blk_drew BK273.out)
   have n4_ := am (below_drew1 HB.out)
   clear BK262
   clear BK263
   clear BK272
   clear BK273
   clear HB
   have BK262 := n0_
   have BK263 := n1_
   have BK272 := n2_
   have BK273 := n3_
   have HB := n4_
   clear n0_ n1_ n2_ n3_ n4_
   refine start_ (n := 13) (S := fun w' => w'.cell? ⟨gb262, 0, none⟩ = some (.int .i64 a1_0) ∧ w'.cell? ⟨gb262, 1, none⟩ = some (.int .i64 a1_1) ∧ w'.cell? ⟨gb263, 0, none⟩ = some (.int .i64 a2_0) ∧ w'.cell? ⟨gb263, 1, none⟩ = some (.int .i64 a2_1)) (ds := []) #[F, F, F, F, F, F, F, F, F, F, F, F, F] (by kernel_rfl) rfl rfl ⟨bc BK262 0, bc BK262 1, bc BK263 0, bc BK263 1⟩ (fun hHeld => ?_); refine with_tabW laws_FnExactRangeCmp.tab2 laws_FnExactRangeCmp.bits2 (fun HT_ HW_ => ?_)
   generalize w27.drew = w28 at BK262 BK263 BK272 BK273 HB hHeld ⊢
   refine pure_ (i := 0) (N := some 21) (v := ?_) (a' := ?_) #[T, F, F, F, F, F, F, F, F, F, F, F, F] rfl rfl (any_of HT_.out (by kernel_rfl)) (fun _ _ _ h => h) (Or.inl ⟨by rfl, ?_⟩) ?_ ?_
   rotate_left
   ·exact gz
   rotate_left
   ·exact pz
   refine take_ (i := 1) (N := some 22) (v := ?_) (a' := ?_) #[T, T, F, F, F, F, F, F, F, F, F, F, F] rfl rfl (take_ofW HT_.out HW_.out (by kernel_rfl)) (fun _ _ _ h => h) (Or.inl ⟨by rfl, ?_⟩) hHeld ?_ ?_
   rotate_left
   ·rintro w' ⟨s0, s1, s2, s3⟩
    go_simp
    with_reducible rfl
   rotate_left
   ·exact pz
   refine take_ (i := 3) (N := some 24) (v := ?_) (a' := ?_) #[T, T, F, T, F, F, F, F, F, F, F, F, F] rfl rfl (take_ofW HT_.out HW_.out (by kernel_rfl)) (fun _ _ _ h => h) (Or.inl ⟨by rfl, ?_⟩) hHeld ?_ ?_
   rotate_left
   ·rintro w' ⟨s0, s1, s2, s3⟩
    go_simp
    with_reducible rfl
   rotate_left
   ·exact pz
   refine join_ (σ := Nat × Nat) 2 #[T, T, T, T, T, T, T, T, T, T, T, F, F] (fun s_ => [(23, .agg #[.int .i64 t274, .int .i64 t275]), (25, .agg #[.int .i64 t276, .int .i64 t277]), (26, .tuple #[.agg #[.int .i64 t278, .int .i64 t279], .agg #[.int .i64 t280, .int .i64 t281]]), (9, .pointer (some ⟨s_.1, 0, none⟩)), (10, .pointer (some ⟨s_.2, 0, none⟩)), (20, .tuple #[.agg #[.int .i64 t278, .int .i64 t279], .agg #[.int .i64 t280, .int .i64 t281]]), (27, .agg #[.int .i64 t278, .int .i64 t279]), (28, .agg #[.int .i64 t280, .int .i64 t281])]) (fun s_ w' => (w'.cell? ⟨gb262, 0, none⟩ = some (.int .i64 a1_0) ∧ w'.cell? ⟨gb262, 1, none⟩ = some (.int .i64 a1_1) ∧ w'.cell? ⟨gb263, 0, none⟩ = some (.int .i64 a2_0) ∧ w'.cell? ⟨gb263, 1, none⟩ = some (.int .i64 a2_1)) ∧ (w'.heap[gb262]? = some (.cells #[.int .i64 a1_0, .int .i64 a1_1] 23 (0, 0))) ∧ (w'.heap[gb263]? = some (.cells #[.int .i64 a2_0, .int .i64 a2_1] 23 (0, 0))) ∧ (w'.heap[gb272]? = some (.cells #[.int .i64 t268, .int .i64 t269] 24 (0, 0))) ∧ (w'.heap[gb273]? = some (.cells #[.int .i64 t270, .int .i64 t271] 24 (0, 0))) ∧ (w'.heap[s_.1]? = some (.cells #[.int .i64 0, .int .i64 0] 24 (0, 0))) ∧ (w'.heap[s_.2]? = some (.cells #[.int .i64 0, .int .i64 0] 24 (0, 0))) ∧ (w.heap.size ≤ s_.1) ∧ (w.heap.size ≤ s_.1) ∧ (gb262 ≠ s_.1) ∧ (s_.1 ≠ gb262) ∧ (gb263 ≠ s_.1) ∧ (s_.1 ≠ gb263) ∧ (gb272 ≠ s_.1) ∧ (s_.1 ≠ gb272) ∧ (gb273 ≠ s_.1) ∧ (s_.1 ≠ gb273) ∧ (s_.2 ≠ s_.1) ∧ (s_.1 ≠ s_.2) ∧ (w.heap.size ≤ s_.2) ∧ (w.heap.size ≤ s_.2) ∧ (gb262 ≠ s_.2) ∧ (s_.2 ≠ gb262) ∧ (gb263 ≠ s_.2) ∧ (s_.2 ≠ gb263) ∧ (gb272 ≠ s_.2) ∧ (s_.2 ≠ gb272) ∧ (gb273 ≠ s_.2) ∧ (s_.2 ≠ gb273) ∧ (Below w.heap.size w w')) ?_ ?_
   rotate_left
   ·intro hJ2_4_5_9_10
    refine join_ (σ := Nat) 3 #[T, T, T, T, T, T, T, T, T, T, F, F, F] (fun s_ => [(23, .agg #[.int .i64 t274, .int .i64 t275]), (25, .agg #[.int .i64 t276, .int .i64 t277]), (26, .tuple #[.agg #[.int .i64 t278, .int .i64 t279], .agg #[.int .i64 t280, .int .i64 t281]]), (9, .pointer (some ⟨s_, 0, none⟩)), (20, .tuple #[.agg #[.int .i64 t278, .int .i64 t279], .agg #[.int .i64 t280, .int .i64 t281]]), (27, .agg #[.int .i64 t278, .int .i64 t279]), (28, .agg #[.int .i64 t280, .int .i64 t281])]) (fun s_ w' => (w'.cell? ⟨gb262, 0, none⟩ = some (.int .i64 a1_0) ∧ w'.cell? ⟨gb262, 1, none⟩ = some (.int .i64 a1_1) ∧ w'.cell? ⟨gb263, 0, none⟩ = some (.int .i64 a2_0) ∧ w'.cell? ⟨gb263, 1, none⟩ = some (.int .i64 a2_1)) ∧ (w'.heap[gb262]? = some (.cells #[.int .i64 a1_0, .int .i64 a1_1] 23 (0, 0))) ∧ (w'.heap[gb263]? = some (.cells #[.int .i64 a2_0, .int .i64 a2_1] 23 (0, 0))) ∧ (w'.heap[gb272]? = some (.cells #[.int .i64 t268, .int .i64 t269] 24 (0, 0))) ∧ (w'.heap[gb273]? = some (.cells #[.int .i64 t270, .int .i64 t271] 24 (0, 0))) ∧ (w'.heap[s_]? = some (.cells #[.int .i64 0, .int .i64 0] 24 (0, 0))) ∧ (w.heap.size ≤ s_) ∧ (w.heap.size ≤ s_) ∧ (gb262 ≠ s_) ∧ (s_ ≠ gb262) ∧ (gb263 ≠ s_) ∧ (s_ ≠ gb263) ∧ (gb272 ≠ s_) ∧ (s_ ≠ gb272) ∧ (gb273 ≠ s_) ∧ (s_ ≠ gb273) ∧ (Below w.heap.size w w')) ?_ ?_
    rotate_left
    ·intro hJ2_4_5_9
     refine join_ (σ := Nat) 3 #[T, T, T, T, T, T, T, T, T, F, T, F, F] (fun s_ => [(23, .agg #[.int .i64 t274, .int .i64 t275]), (25, .agg #[.int .i64 t276, .int .i64 t277]), (26, .tuple #[.agg #[.int .i64 t278, .int .i64 t279], .agg #[.int .i64 t280, .int .i64 t281]]), (10, .pointer (some ⟨s_, 0, none⟩)), (20, .tuple #[.agg #[.int .i64 t278, .int .i64 t279], .agg #[.int .i64 t280, .int .i64 t281]]), (27, .agg #[.int .i64 t278, .int .i64 t279]), (28, .agg #[.int .i64 t280, .int .i64 t281])]) (fun s_ w' => (w'.cell? ⟨gb262, 0, none⟩ = some (.int .i64 a1_0) ∧ w'.cell? ⟨gb262, 1, none⟩ = some (.int .i64 a1_1) ∧ w'.cell? ⟨gb263, 0, none⟩ = some (.int .i64 a2_0) ∧ w'.cell? ⟨gb263, 1, none⟩ = some (.int .i64 a2_1)) ∧ (w'.heap[gb262]? = some (.cells #[.int .i64 a1_0, .int .i64 a1_1] 23 (0, 0))) ∧ (w'.heap[gb263]? = some (.cells #[.int .i64 a2_0, .int .i64 a2_1] 23 (0, 0))) ∧ (w'.heap[gb272]? = some (.cells #[.int .i64 t268, .int .i64 t269] 24 (0, 0))) ∧ (w'.heap[gb273]? = some (.cells #[.int .i64 t270, .int .i64 t271] 24 (0, 0))) ∧ (w'.heap[s_]? = some (.cells #[.int .i64 0, .int .i64 0] 24 (0, 0))) ∧ (w.heap.size ≤ s_) ∧ (w.heap.size ≤ s_) ∧ (gb262 ≠ s_) ∧ (s_ ≠ gb262) ∧ (gb263 ≠ s_) ∧ (s_ ≠ gb263) ∧ (gb272 ≠ s_) ∧ (s_ ≠ gb272) ∧ (gb273 ≠ s_) ∧ (s_ ≠ gb273) ∧ (Below w.heap.size w w')) ?_ ?_
     rotate_left
     ·intro hJ2_4_5_10
      refine join_ (σ := Nat × Nat) 6 #[T, T, T, T, T, F, F, F, F, T, T, F, F] (fun s_ => [(23, .agg #[.int .i64 t274, .int .i64 t275]), (25, .agg #[.int .i64 t276, .int .i64 t277]), (9, .pointer (some ⟨s_.1, 0, none⟩)), (10, .pointer (some ⟨s_.2, 0, none⟩))]) (fun s_ w' => (w'.cell? ⟨gb262, 0, none⟩ = some (.int .i64 a1_0) ∧ w'.cell? ⟨gb262, 1, none⟩ = some (.int .i64 a1_1) ∧ w'.cell? ⟨gb263, 0, none⟩ = some (.int .i64 a2_0) ∧ w'.cell? ⟨gb263, 1, none⟩ = some (.int .i64 a2_1)) ∧ (w'.heap[gb262]? = some (.cells #[.int .i64 a1_0, .int .i64 a1_1] 23 (0, 0))) ∧ (w'.heap[gb263]? = some (.cells #[.int .i64 a2_0, .int .i64 a2_1] 23 (0, 0))) ∧ (w'.heap[gb272]? = some (.cells #[.int .i64 t268, .int .i64 t269] 24 (0, 0))) ∧ (w'.heap[gb273]? = some (.cells #[.int .i64 t270, .int .i64 t271] 24 (0, 0))) ∧ (w'.heap[s_.1]? = some (.cells #[.int .i64 0, .int .i64 0] 24 (0, 0))) ∧ (w'.heap[s_.2]? = some (.cells #[.int .i64 0, .int .i64 0] 24 (0, 0))) ∧ (w.heap.size ≤ s_.1) ∧ (w.heap.size ≤ s_.1) ∧ (gb262 ≠ s_.1) ∧ (s_.1 ≠ gb262) ∧ (gb263 ≠ s_.1) ∧ (s_.1 ≠ gb263) ∧ (gb272 ≠ s_.1) ∧ (s_.1 ≠ gb272) ∧ (gb273 ≠ s_.1) ∧ (s_.1 ≠ gb273) ∧ (s_.2 ≠ s_.1) ∧ (s_.1 ≠ s_.2) ∧ (w.heap.size ≤ s_.2) ∧ (w.heap.size ≤ s_.2) ∧ (gb262 ≠ s_.2) ∧ (s_.2 ≠ gb262) ∧ (gb263 ≠ s_.2) ∧ (s_.2 ≠ gb263) ∧ (gb272 ≠ s_.2) ∧ (s_.2 ≠ gb272) ∧ (gb273 ≠ s_.2) ∧ (s_.2 ≠ gb273) ∧ (Below w.heap.size w w')) ?_ ?_
      rotate_left
      ·intro hJ2_4_9_10
       refine join_ (σ := Unit) 4 #[T, T, T, T, T, T, T, T, T, F, F, F, F] (fun s_ => [(23, .agg #[.int .i64 t274, .int .i64 t275]), (25, .agg #[.int .i64 t276, .int .i64 t277]), (26, .tuple #[.agg #[.int .i64 t278, .int .i64 t279], .agg #[.int .i64 t280, .int .i64 t281]]), (20, .tuple #[.agg #[.int .i64 t278, .int .i64 t279], .agg #[.int .i64 t280, .int .i64 t281]]), (27, .agg #[.int .i64 t278, .int .i64 t279]), (28, .agg #[.int .i64 t280, .int .i64 t281])]) (fun s_ w' => (w'.cell? ⟨gb262, 0, none⟩ = some (.int .i64 a1_0) ∧ w'.cell? ⟨gb262, 1, none⟩ = some (.int .i64 a1_1) ∧ w'.cell? ⟨gb263, 0, none⟩ = some (.int .i64 a2_0) ∧ w'.cell? ⟨gb263, 1, none⟩ = some (.int .i64 a2_1)) ∧ (w'.heap[gb262]? = some (.cells #[.int .i64 a1_0, .int .i64 a1_1] 23 (0, 0))) ∧ (w'.heap[gb263]? = some (.cells #[.int .i64 a2_0, .int .i64 a2_1] 23 (0, 0))) ∧ (w'.heap[gb272]? = some (.cells #[.int .i64 t268, .int .i64 t269] 24 (0, 0))) ∧ (w'.heap[gb273]? = some (.cells #[.int .i64 t270, .int .i64 t271] 24 (0, 0))) ∧ (Below w.heap.size w w')) ?_ ?_
       rotate_left
       ·intro hJ2_4_5
        refine join_ (σ := Nat) 7 #[T, T, T, T, T, F, F, F, F, T, F, F, F] (fun s_ => [(23, .agg #[.int .i64 t274, .int .i64 t275]), (25, .agg #[.int .i64 t276, .int .i64 t277]), (9, .pointer (some ⟨s_, 0, none⟩))]) (fun s_ w' => (w'.cell? ⟨gb262, 0, none⟩ = some (.int .i64 a1_0) ∧ w'.cell? ⟨gb262, 1, none⟩ = some (.int .i64 a1_1) ∧ w'.cell? ⟨gb263, 0, none⟩ = some (.int .i64 a2_0) ∧ w'.cell? ⟨gb263, 1, none⟩ = some (.int .i64 a2_1)) ∧ (w'.heap[gb262]? = some (.cells #[.int .i64 a1_0, .int .i64 a1_1] 23 (0, 0))) ∧ (w'.heap[gb263]? = some (.cells #[.int .i64 a2_0, .int .i64 a2_1] 23 (0, 0))) ∧ (w'.heap[gb272]? = some (.cells #[.int .i64 t268, .int .i64 t269] 24 (0, 0))) ∧ (w'.heap[gb273]? = some (.cells #[.int .i64 t270, .int .i64 t271] 24 (0, 0))) ∧ (w'.heap[s_]? = some (.cells #[.int .i64 0, .int .i64 0] 24 (0, 0))) ∧ (w.heap.size ≤ s_) ∧ (w.heap.size ≤ s_) ∧ (gb262 ≠ s_) ∧ (s_ ≠ gb262) ∧ (gb263 ≠ s_) ∧ (s_ ≠ gb263) ∧ (gb272 ≠ s_) ∧ (s_ ≠ gb272) ∧ (gb273 ≠ s_) ∧ (s_ ≠ gb273) ∧ (Below w.heap.size w w')) ?_ ?_
        rotate_left
        ·intro hJ2_4_9
         refine join_ (σ := Nat) 7 #[T, T, T, T, T, F, F, F, F, F, T, F, F] (fun s_ => [(23, .agg #[.int .i64 t274, .int .i64 t275]), (25, .agg #[.int .i64 t276, .int .i64 t277]), (10, .pointer (some ⟨s_, 0, none⟩))]) (fun s_ w' => (w'.cell? ⟨gb262, 0, none⟩ = some (.int .i64 a1_0) ∧ w'.cell? ⟨gb262, 1, none⟩ = some (.int .i64 a1_1) ∧ w'.cell? ⟨gb263, 0, none⟩ = some (.int .i64 a2_0) ∧ w'.cell? ⟨gb263, 1, none⟩ = some (.int .i64 a2_1)) ∧ (w'.heap[gb262]? = some (.cells #[.int .i64 a1_0, .int .i64 a1_1] 23 (0, 0))) ∧ (w'.heap[gb263]? = some (.cells #[.int .i64 a2_0, .int .i64 a2_1] 23 (0, 0))) ∧ (w'.heap[gb272]? = some (.cells #[.int .i64 t268, .int .i64 t269] 24 (0, 0))) ∧ (w'.heap[gb273]? = some (.cells #[.int .i64 t270, .int .i64 t271] 24 (0, 0))) ∧ (w'.heap[s_]? = some (.cells #[.int .i64 0, .int .i64 0] 24 (0, 0))) ∧ (w.heap.size ≤ s_) ∧ (w.heap.size ≤ s_) ∧ (gb262 ≠ s_) ∧ (s_ ≠ gb262) ∧ (gb263 ≠ s_) ∧ (s_ ≠ gb263) ∧ (gb272 ≠ s_) ∧ (s_ ≠ gb272) ∧ (gb273 ≠ s_) ∧ (s_ ≠ gb273) ∧ (Below w.heap.size w w')) ?_ ?_
         rotate_left
         ·intro hJ2_4_10
          refine join_ (σ := Nat × Nat) 7 #[T, T, T, T, F, F, F, F, F, T, T, F, F] (fun s_ => [(23, .agg #[.int .i64 t274, .int .i64 t275]), (9, .pointer (some ⟨s_.1, 0, none⟩)), (10, .pointer (some ⟨s_.2, 0, none⟩))]) (fun s_ w' => (w'.cell? ⟨gb262, 0, none⟩ = some (.int .i64 a1_0) ∧ w'.cell? ⟨gb262, 1, none⟩ = some (.int .i64 a1_1) ∧ w'.cell? ⟨gb263, 0, none⟩ = some (.int .i64 a2_0) ∧ w'.cell? ⟨gb263, 1, none⟩ = some (.int .i64 a2_1)) ∧ (w'.heap[gb262]? = some (.cells #[.int .i64 a1_0, .int .i64 a1_1] 23 (0, 0))) ∧ (w'.heap[gb263]? = some (.cells #[.int .i64 a2_0, .int .i64 a2_1] 23 (0, 0))) ∧ (w'.heap[gb272]? = some (.cells #[.int .i64 t268, .int .i64 t269] 24 (0, 0))) ∧ (w'.heap[gb273]? = some (.cells #[.int .i64 t270, .int .i64 t271] 24 (0, 0))) ∧ (w'.heap[s_.1]? = some (.cells #[.int .i64 0, .int .i64 0] 24 (0, 0))) ∧ (w'.heap[s_.2]? = some (.cells #[.int .i64 0, .int .i64 0] 24 (0, 0))) ∧ (w.heap.size ≤ s_.1) ∧ (w.heap.size ≤ s_.1) ∧ (gb262 ≠ s_.1) ∧ (s_.1 ≠ gb262) ∧ (gb263 ≠ s_.1) ∧ (s_.1 ≠ gb263) ∧ (gb272 ≠ s_.1) ∧ (s_.1 ≠ gb272) ∧ (gb273 ≠ s_.1) ∧ (s_.1 ≠ gb273) ∧ (s_.2 ≠ s_.1) ∧ (s_.1 ≠ s_.2) ∧ (w.heap.size ≤ s_.2) ∧ (w.heap.size ≤ s_.2) ∧ (gb262 ≠ s_.2) ∧ (s_.2 ≠ gb262) ∧ (gb263 ≠ s_.2) ∧ (s_.2 ≠ gb263) ∧ (gb272 ≠ s_.2) ∧ (s_.2 ≠ gb272) ∧ (gb273 ≠ s_.2) ∧ (s_.2 ≠ gb273) ∧ (Below w.heap.size w w')) ?_ ?_
          rotate_left
          ·intro hJ2_9_10
           refine join_ (σ := Unit) 8 #[T, T, T, T, T, F, F, F, F, F, F, F, F] (fun s_ => [(23, .agg #[.int .i64 t274, .int .i64 t275]), (25, .agg #[.int .i64 t276, .int .i64 t277])]) (fun s_ w' => (w'.cell? ⟨gb262, 0, none⟩ = some (.int .i64 a1_0) ∧ w'.cell? ⟨gb262, 1, none⟩ = some (.int .i64 a1_1) ∧ w'.cell? ⟨gb263, 0, none⟩ = some (.int .i64 a2_0) ∧ w'.cell? ⟨gb263, 1, none⟩ = some (.int .i64 a2_1)) ∧ (w'.heap[gb262]? = some (.cells #[.int .i64 a1_0, .int .i64 a1_1] 23 (0, 0))) ∧ (w'.heap[gb263]? = some (.cells #[.int .i64 a2_0, .int .i64 a2_1] 23 (0, 0))) ∧ (w'.heap[gb272]? = some (.cells #[.int .i64 t268, .int .i64 t269] 24 (0, 0))) ∧ (w'.heap[gb273]? = some (.cells #[.int .i64 t270, .int .i64 t271] 24 (0, 0))) ∧ (Below w.heap.size w w')) ?_ ?_
           rotate_left
           ·intro hJ2_4
            refine join_ (σ := Nat) 8 #[T, T, T, T, F, F, F, F, F, T, F, F, F] (fun s_ => [(23, .agg #[.int .i64 t274, .int .i64 t275]), (9, .pointer (some ⟨s_, 0, none⟩))]) (fun s_ w' => (w'.cell? ⟨gb262, 0, none⟩ = some (.int .i64 a1_0) ∧ w'.cell? ⟨gb262, 1, none⟩ = some (.int .i64 a1_1) ∧ w'.cell? ⟨gb263, 0, none⟩ = some (.int .i64 a2_0) ∧ w'.cell? ⟨gb263, 1, none⟩ = some (.int .i64 a2_1)) ∧ (w'.heap[gb262]? = some (.cells #[.int .i64 a1_0, .int .i64 a1_1] 23 (0, 0))) ∧ (w'.heap[gb263]? = some (.cells #[.int .i64 a2_0, .int .i64 a2_1] 23 (0, 0))) ∧ (w'.heap[gb272]? = some (.cells #[.int .i64 t268, .int .i64 t269] 24 (0, 0))) ∧ (w'.heap[gb273]? = some (.cells #[.int .i64 t270, .int .i64 t271] 24 (0, 0))) ∧ (w'.heap[s_]? = some (.cells #[.int .i64 0, .int .i64 0] 24 (0, 0))) ∧ (w.heap.size ≤ s_) ∧ (w.heap.size ≤ s_) ∧ (gb262 ≠ s_) ∧ (s_ ≠ gb262) ∧ (gb263 ≠ s_) ∧ (s_ ≠ gb263) ∧ (gb272 ≠ s_) ∧ (s_ ≠ gb272) ∧ (gb273 ≠ s_) ∧ (s_ ≠ gb273) ∧ (Below w.heap.size w w')) ?_ ?_
            rotate_left
            ·intro hJ2_9
             refine join_ (σ := Nat) 8 #[T, T, T, T, F, F, F, F, F, F, T, F, F] (fun s_ => [(23, .agg #[.int .i64 t274, .int .i64 t275]), (10, .pointer (some ⟨s_, 0, none⟩))]) (fun s_ w' => (w'.cell? ⟨gb262, 0, none⟩ = some (.int .i64 a1_0) ∧ w'.cell? ⟨gb262, 1, none⟩ = some (.int .i64 a1_1) ∧ w'.cell? ⟨gb263, 0, none⟩ = some (.int .i64 a2_0) ∧ w'.cell? ⟨gb263, 1, none⟩ = some (.int .i64 a2_1)) ∧ (w'.heap[gb262]? = some (.cells #[.int .i64 a1_0, .int .i64 a1_1] 23 (0, 0))) ∧ (w'.heap[gb263]? = some (.cells #[.int .i64 a2_0, .int .i64 a2_1] 23 (0, 0))) ∧ (w'.heap[gb272]? = some (.cells #[.int .i64 t268, .int .i64 t269] 24 (0, 0))) ∧ (w'.heap[gb273]? = some (.cells #[.int .i64 t270, .int .i64 t271] 24 (0, 0))) ∧ (w'.heap[s_]? = some (.cells #[.int .i64 0, .int .i64 0] 24 (0, 0))) ∧ (w.heap.size ≤ s_) ∧ (w.heap.size ≤ s_) ∧ (gb262 ≠ s_) ∧ (s_ ≠ gb262) ∧ (gb263 ≠ s_) ∧ (s_ ≠ gb263) ∧ (gb272 ≠ s_) ∧ (s_ ≠ gb272) ∧ (gb273 ≠ s_) ∧ (s_ ≠ gb273) ∧ (Below w.heap.size w w')) ?_ ?_
             rotate_left
             ·intro hJ2_10
              refine join_ (σ := Nat × Nat) 8 #[T, T, F, T, F, F, F, F, F, T, T, F, F] (fun s_ => [(9, .pointer (some ⟨s_.1, 0, none⟩)), (10, .pointer (some ⟨s_.2, 0, none⟩))]) (fun s_ w' => (w'.cell? ⟨gb262, 0, none⟩ = some (.int .i64 a1_0) ∧ w'.cell? ⟨gb262, 1, none⟩ = some (.int .i64 a1_1) ∧ w'.cell? ⟨gb263, 0, none⟩ = some (.int .i64 a2_0) ∧ w'.cell? ⟨gb263, 1, none⟩ = some (.int .i64 a2_1)) ∧ (w'.heap[gb262]? = some (.cells #[.int .i64 a1_0, .int .i64 a1_1] 23 (0, 0))) ∧ (w'.heap[gb263]? = some (.cells #[.int .i64 a2_0, .int .i64 a2_1] 23 (0, 0))) ∧ (w'.heap[gb272]? = some (.cells #[.int .i64 t268, .int .i64 t269] 24 (0, 0))) ∧ (w'.heap[gb273]? = some (.cells #[.int .i64 t270, .int .i64 t271] 24 (0, 0))) ∧ (w'.heap[s_.1]? = some (.cells #[.int .i64 0, .int .i64 0] 24 (0, 0))) ∧ (w'.heap[s_.2]? = some (.cells #[.int .i64 0, .int .i64 0] 24 (0, 0))) ∧ (w.heap.size ≤ s_.1) ∧ (w.heap.size ≤ s_.1) ∧ (gb262 ≠ s_.1) ∧ (s_.1 ≠ gb262) ∧ (gb263 ≠ s_.1) ∧ (s_.1 ≠ gb263) ∧ (gb272 ≠ s_.1) ∧ (s_.1 ≠ gb272) ∧ (gb273 ≠ s_.1) ∧ (s_.1 ≠ gb273) ∧ (s_.2 ≠ s_.1) ∧ (s_.1 ≠ s_.2) ∧ (w.heap.size ≤ s_.2) ∧ (w.heap.size ≤ s_.2) ∧ (gb262 ≠ s_.2) ∧ (s_.2 ≠ gb262) ∧ (gb263 ≠ s_.2) ∧ (s_.2 ≠ gb263) ∧ (gb272 ≠ s_.2) ∧ (s_.2 ≠ gb272) ∧ (gb273 ≠ s_.2) ∧ (s_.2 ≠ gb273) ∧ (Below w.heap.size w w')) ?_ ?_
              rotate_left
              ·intro hJ9_10
               refine join_ (σ := Unit) 9 #[T, T, T, T, F, F, F, F, F, F, F, F, F] (fun s_ => [(23, .agg #[.int .i64 t274, .int .i64 t275])]) (fun s_ w' => (w'.cell? ⟨gb262, 0, none⟩ = some (.int .i64 a1_0) ∧ w'.cell? ⟨gb262, 1, none⟩ = some (.int .i64 a1_1) ∧ w'.cell? ⟨gb263, 0, none⟩ = some (.int .i64 a2_0) ∧ w'.cell? ⟨gb263, 1, none⟩ = some (.int .i64 a2_1)) ∧ (w'.heap[gb262]? = some (.cells #[.int .i64 a1_0, .int .i64 a1_1] 23 (0, 0))) ∧ (w'.heap[gb263]? = some (.cells #[.int .i64 a2_0, .int .i64 a2_1] 23 (0, 0))) ∧ (w'.heap[gb272]? = some (.cells #[.int .i64 t268, .int .i64 t269] 24 (0, 0))) ∧ (w'.heap[gb273]? = some (.cells #[.int .i64 t270, .int .i64 t271] 24 (0, 0))) ∧ (Below w.heap.size w w')) ?_ ?_
               rotate_left
               ·intro hJ2
                refine join_ (σ := Nat) 9 #[T, T, F, T, F, F, F, F, F, T, F, F, F] (fun s_ => [(9, .pointer (some ⟨s_, 0, none⟩))]) (fun s_ w' => (w'.cell? ⟨gb262, 0, none⟩ = some (.int .i64 a1_0) ∧ w'.cell? ⟨gb262, 1, none⟩ = some (.int .i64 a1_1) ∧ w'.cell? ⟨gb263, 0, none⟩ = some (.int .i64 a2_0) ∧ w'.cell? ⟨gb263, 1, none⟩ = some (.int .i64 a2_1)) ∧ (w'.heap[gb262]? = some (.cells #[.int .i64 a1_0, .int .i64 a1_1] 23 (0, 0))) ∧ (w'.heap[gb263]? = some (.cells #[.int .i64 a2_0, .int .i64 a2_1] 23 (0, 0))) ∧ (w'.heap[gb272]? = some (.cells #[.int .i64 t268, .int .i64 t269] 24 (0, 0))) ∧ (w'.heap[gb273]? = some (.cells #[.int .i64 t270, .int .i64 t271] 24 (0, 0))) ∧ (w'.heap[s_]? = some (.cells #[.int .i64 0, .int .i64 0] 24 (0, 0))) ∧ (w.heap.size ≤ s_) ∧ (w.heap.size ≤ s_) ∧ (gb262 ≠ s_) ∧ (s_ ≠ gb262) ∧ (gb263 ≠ s_) ∧ (s_ ≠ gb263) ∧ (gb272 ≠ s_) ∧ (s_ ≠ gb272) ∧ (gb273 ≠ s_) ∧ (s_ ≠ gb273) ∧ (Below w.heap.size w w')) ?_ ?_
                rotate_left
                ·intro hJ9
                 refine join_ (σ := Nat) 9 #[T, T, F, T, F, F, F, F, F, F, T, F, F] (fun s_ => [(10, .pointer (some ⟨s_, 0, none⟩))]) (fun s_ w' => (w'.cell? ⟨gb262, 0, none⟩ = some (.int .i64 a1_0) ∧ w'.cell? ⟨gb262, 1, none⟩ = some (.int .i64 a1_1) ∧ w'.cell? ⟨gb263, 0, none⟩ = some (.int .i64 a2_0) ∧ w'.cell? ⟨gb263, 1, none⟩ = some (.int .i64 a2_1)) ∧ (w'.heap[gb262]? = some (.cells #[.int .i64 a1_0, .int .i64 a1_1] 23 (0, 0))) ∧ (w'.heap[gb263]? = some (.cells #[.int .i64 a2_0, .int .i64 a2_1] 23 (0, 0))) ∧ (w'.heap[gb272]? = some (.cells #[.int .i64 t268, .int .i64 t269] 24 (0, 0))) ∧ (w'.heap[gb273]? = some (.cells #[.int .i64 t270, .int .i64 t271] 24 (0, 0))) ∧ (w'.heap[s_]? = some (.cells #[.int .i64 0, .int .i64 0] 24 (0, 0))) ∧ (w.heap.size ≤ s_) ∧ (w.heap.size ≤ s_) ∧ (gb262 ≠ s_) ∧ (s_ ≠ gb262) ∧ (gb263 ≠ s_) ∧ (s_ ≠ gb263) ∧ (gb272 ≠ s_) ∧ (s_ ≠ gb272) ∧ (gb273 ≠ s_) ∧ (s_ ≠ gb273) ∧ (Below w.heap.size w w')) ?_ ?_
                 rotate_left
                 ·intro hJ10
                  refine three_ (i := 2) (j := 9) (k := 10) (Ni := some 23) (Nj := some 9) (Nk := some 10) #[T, T, T, T, F, F, F, F, F, F, F, F, F] #[T, T, F, T, F, F, F, F, F, T, F, F, F] #[T, T, F, T, F, F, F, F, F, F, T, F, F] rfl rfl rfl rfl rfl rfl (three_of HT_.out (by kernel_rfl)) (by decide) (by decide) (by decide) (fun K hK => ?_) (fun K hK => ?_) (fun K hK => ?_)
                  ·skip
                   refine goes_ Try.func16 (by kernel_rfl) rfl #[.agg #[.int .i64 a1_0, .int .i64 a1_1]] (by rfl) rfl rfl mz ?_
                   with_reducible refine (laws_toRange.calls a1_0 a1_1 t274 t275 _ A7.out).mono ?_
                   rintro e w29 ⟨rfl, hb⟩
                   refine ⟨_, rfl, ?_⟩
                   have n0_ := am (blk_below (g := gb262) (o := b2 a1_0 a1_1 23) (Z BK262) hb)
                   have n1_ := am (blk_below (g := gb263) (o := b2 a2_0 a2_1 23) (Z BK263) hb)
                   have n2_ := am (blk_below (g := gb272) (o := b2 t268 t269 24) (Z BK272) hb)
                   have n3_ := am (blk_below (g := gb273) (o := b2 t270 t271 24) (Z BK273) hb)
                   have n4_ := am (below_step (Y4 HB GE262 GE263 GE272 GE273) hb)
                   clear BK262
                   clear BK263
                   clear BK272
                   clear BK273
                   clear HB
                   have BK262 := n0_
                   have BK263 := n1_
                   have BK272 := n2_
                   have BK273 := n3_
                   have HB := n4_
                   clear n0_ n1_ n2_ n3_ n4_
                   (try clear hb)
                   (try clear hb2)
                   (try clear hk)
                   (try clear hi)
                   refine hK.out _ _ ⟨bc BK262 0, bc BK262 1, bc BK263 0, bc BK263 1⟩ (fun hHeld => ?_)
                   clear hK K
                   refine norm_ (a' := ?_) ?_ ?_
                   rotate_left
                   ·show Act.put _ (some 23) _ = _
                    simp only [Act.put, List.setIfInBounds_toArray, List.set_cons_zero, List.set_cons_succ, i64_w, i32_w]
                    rfl
                   exact norm_ nz (hJ2 () _ ⟨hHeld, (Z BK262), (Z BK263), (Z BK272), (Z BK273), (Y4 HB GE262 GE263 GE272 GE273)⟩)
                  ·skip
                   refine box_step ?hg (N := 9) ?hd (cs := #[.int .i64 0, .int .i64 0]) (t := 24) ?hr ?_; (case hd => rfl); (case hg => rfl); (case hr => first | (go_simp; done) | (go_simp; rfl))
                   intro gb282 hg w29 hbox hb
                   have n0_ := am (blk_below (g := gb262) (o := b2 a1_0 a1_1 23) (Z BK262) hb)
                   have n1_ := am (blk_below (g := gb263) (o := b2 a2_0 a2_1 23) (Z BK263) hb)
                   have n2_ := am (blk_below (g := gb272) (o := b2 t268 t269 24) (Z BK272) hb)
                   have n3_ := am (blk_below (g := gb273) (o := b2 t270 t271 24) (Z BK273) hb)
                   have n4_ := am (below_step (Y4 HB GE262 GE263 GE272 GE273) hb)
                   have n5_ := am (hbox)
                   have n6_ := am ((by rw [hg]; exact (below_size (Y4 HB GE262 GE263 GE272 GE273)) : w.heap.size ≤ gb282))
                   have n7_ := am ((by rw [hg]; exact (below_size (Y4 HB GE262 GE263 GE272 GE273)) : w.heap.size ≤ gb282))
                   have n8_ := am ((nl (o := b2 a1_0 a1_1 23) hg (Z BK262) : gb262 ≠ gb282))
                   have n9_ := am ((ng (o := b2 a1_0 a1_1 23) hg (Z BK262) : gb282 ≠ gb262))
                   have n10_ := am ((nl (o := b2 a2_0 a2_1 23) hg (Z BK263) : gb263 ≠ gb282))
                   have n11_ := am ((ng (o := b2 a2_0 a2_1 23) hg (Z BK263) : gb282 ≠ gb263))
                   have n12_ := am ((nl (o := b2 t268 t269 24) hg (Z BK272) : gb272 ≠ gb282))
                   have n13_ := am ((ng (o := b2 t268 t269 24) hg (Z BK272) : gb282 ≠ gb272))
                   have n14_ := am ((nl (o := b2 t270 t271 24) hg (Z BK273) : gb273 ≠ gb282))
                   have n15_ := am ((ng (o := b2 t270 t271 24) hg (Z BK273) : gb282 ≠ gb273))
                   clear BK262
                   clear BK263
                   clear BK272
                   clear BK273
                   clear HB
                   have BK262 := n0_
                   have BK263 := n1_
                   have BK272 := n2_
                   have BK273 := n3_
                   have HB := n4_
                   have BK282 := n5_
                   have GW282 := n6_
                   have GE282 := n7_
                   have NB262_282 := n8_
                   have NB282_262 := n9_
                   have NB263_282 := n10_
                   have NB282_263 := n11_
                   have NB272_282 := n12_
                   have NB282_272 := n13_
                   have NB273_282 := n14_
                   have NB282_273 := n15_
                   clear n0_ n1_ n2_ n3_ n4_ n5_ n6_ n7_ n8_ n9_ n10_ n11_ n12_ n13_ n14_ n15_
                   clear hb hbox hg
                   refine hK.out _ _ ⟨bc BK262 0, bc BK262 1, bc BK263 0, bc BK263 1⟩ (fun hHeld => ?_)
                   clear hK K
                   refine norm_ (a' := ?_) ?_ ?_
                   rotate_left
                   ·show Act.put _ (some 9) _ = _
                    simp only [Act.put, List.setIfInBounds_toArray, List.set_cons_zero, List.set_cons_succ, i64_w, i32_w]
                    rfl
                   exact norm_ nz (hJ9 (gb282) _ ⟨hHeld, (Z BK262), (Z BK263), (Z BK272), (Z BK273), (Z BK282), GW282.out, GE282.out, NB262_282.out, NB282_262.out, NB263_282.out, NB282_263.out, NB272_282.out, NB282_272.out, NB273_282.out, NB282_273.out, (Y5 HB GE262 GE263 GE272 GE273 GE282)⟩)
                  ·skip
                   refine box_step ?hg (N := 10) ?hd (cs := #[.int .i64 0, .int .i64 0]) (t := 24) ?hr ?_; (case hd => rfl); (case hg => rfl); (case hr => first | (go_simp; done) | (go_simp; rfl))
                   intro gb283 hg w29 hbox hb
                   have n0_ := am (blk_below (g := gb262) (o := b2 a1_0 a1_1 23) (Z BK262) hb)
                   have n1_ := am (blk_below (g := gb263) (o := b2 a2_0 a2_1 23) (Z BK263) hb)
                   have n2_ := am (blk_below (g := gb272) (o := b2 t268 t269 24) (Z BK272) hb)
                   have n3_ := am (blk_below (g := gb273) (o := b2 t270 t271 24) (Z BK273) hb)
                   have n4_ := am (below_step (Y4 HB GE262 GE263 GE272 GE273) hb)
                   have n5_ := am (hbox)
                   have n6_ := am ((by rw [hg]; exact (below_size (Y4 HB GE262 GE263 GE272 GE273)) : w.heap.size ≤ gb283))
                   have n7_ := am ((by rw [hg]; exact (below_size (Y4 HB GE262 GE263 GE272 GE273)) : w.heap.size ≤ gb283))
                   have n8_ := am ((nl (o := b2 a1_0 a1_1 23) hg (Z BK262) : gb262 ≠ gb283))
                   have n9_ := am ((ng (o := b2 a1_0 a1_1 23) hg (Z BK262) : gb283 ≠ gb262))
                   have n10_ := am ((nl (o := b2 a2_0 a2_1 23) hg (Z BK263) : gb263 ≠ gb283))
                   have n11_ := am ((ng (o := b2 a2_0 a2_1 23) hg (Z BK263) : gb283 ≠ gb263))
                   have n12_ := am ((nl (o := b2 t268 t269 24) hg (Z BK272) : gb272 ≠ gb283))
                   have n13_ := am ((ng (o := b2 t268 t269 24) hg (Z BK272) : gb283 ≠ gb272))
                   have n14_ := am ((nl (o := b2 t270 t271 24) hg (Z BK273) : gb273 ≠ gb283))
                   have n15_ := am ((ng (o := b2 t270 t271 24) hg (Z BK273) : gb283 ≠ gb273))
                   clear BK262
                   clear BK263
                   clear BK272
                   clear BK273
                   clear HB
                   have BK262 := n0_
                   have BK263 := n1_
                   have BK272 := n2_
                   have BK273 := n3_
                   have HB := n4_
                   have BK283 := n5_
                   have GW283 := n6_
                   have GE283 := n7_
                   have NB262_283 := n8_
                   have NB283_262 := n9_
                   have NB263_283 := n10_
                   have NB283_263 := n11_
                   have NB272_283 := n12_
                   have NB283_272 := n13_
                   have NB273_283 := n14_
                   have NB283_273 := n15_
                   clear n0_ n1_ n2_ n3_ n4_ n5_ n6_ n7_ n8_ n9_ n10_ n11_ n12_ n13_ n14_ n15_
                   clear hb hbox hg
                   refine hK.out _ _ ⟨bc BK262 0, bc BK262 1, bc BK263 0, bc BK263 1⟩ (fun hHeld => ?_)
                   clear hK K
                   refine norm_ (a' := ?_) ?_ ?_
                   rotate_left
                   ·show Act.put _ (some 10) _ = _
                    simp only [Act.put, List.setIfInBounds_toArray, List.set_cons_zero, List.set_cons_succ, i64_w, i32_w]
                    rfl
                   exact norm_ nz (hJ10 (gb283) _ ⟨hHeld, (Z BK262), (Z BK263), (Z BK272), (Z BK273), (Z BK283), GW283.out, GE283.out, NB262_283.out, NB283_262.out, NB263_283.out, NB283_263.out, NB272_283.out, NB283_272.out, NB273_283.out, NB283_273.out, (Y5 HB GE262 GE263 GE272 GE273 GE283)⟩)
                 ·skip
                  rintro gb283 w30 ⟨hS_, h0_, h1_, h2_, h3_, h4_, h5_, h6_, h7_, h8_, h9_, h10_, h11_, h12_, h13_, h14_, h15_⟩
                  have n0_ : Aside0 (w30.heap[gb262]? = some (.cells #[.int .i64 a1_0, .int .i64 a1_1] 23 (0, 0))) := ⟨h0_⟩
                  have n1_ : Aside0 (w30.heap[gb263]? = some (.cells #[.int .i64 a2_0, .int .i64 a2_1] 23 (0, 0))) := ⟨h1_⟩
                  have n2_ : Aside0 (w30.heap[gb272]? = some (.cells #[.int .i64 t268, .int .i64 t269] 24 (0, 0))) := ⟨h2_⟩
                  have n3_ : Aside0 (w30.heap[gb273]? = some (.cells #[.int .i64 t270, .int .i64 t271] 24 (0, 0))) := ⟨h3_⟩
                  have n4_ : Aside0 (w30.heap[gb283]? = some (.cells #[.int .i64 0, .int .i64 0] 24 (0, 0))) := ⟨h4_⟩
                  have n5_ : Aside0 (w.heap.size ≤ gb283) := ⟨h5_⟩
                  have n6_ : Aside0 (w.heap.size ≤ gb283) := ⟨h6_⟩
                  have n7_ : Aside0 (gb262 ≠ gb283) := ⟨h7_⟩
                  have n8_ : Aside0 (gb283 ≠ gb262) := ⟨h8_⟩
                  have n9_ : Aside0 (gb263 ≠ gb283) := ⟨h9_⟩
                  have n10_ : Aside0 (gb283 ≠ gb263) := ⟨h10_⟩
                  have n11_ : Aside0 (gb272 ≠ gb283) := ⟨h11_⟩
                  have n12_ : Aside0 (gb283 ≠ gb272) := ⟨h12_⟩
                  have n13_ : Aside0 (gb273 ≠ gb283) := ⟨h13_⟩
                  have n14_ : Aside0 (gb283 ≠ gb273) := ⟨h14_⟩
                  have n15_ : Aside0 (Below w.heap.size w w30) := ⟨h15_⟩
                  clear BK262
                  clear BK263
                  clear BK272
                  clear BK273
                  clear HB
                  clear h0_ h1_ h2_ h3_ h4_ h5_ h6_ h7_ h8_ h9_ h10_ h11_ h12_ h13_ h14_ h15_
                  have BK262 := n0_
                  have BK263 := n1_
                  have BK272 := n2_
                  have BK273 := n3_
                  have BK283 := n4_
                  have GW283 := n5_
                  have GE283 := n6_
                  have NB262_283 := n7_
                  have NB283_262 := n8_
                  have NB263_283 := n9_
                  have NB283_263 := n10_
                  have NB272_283 := n11_
                  have NB283_272 := n12_
                  have NB273_283 := n13_
                  have NB283_273 := n14_
                  have HB := n15_
                  clear n0_ n1_ n2_ n3_ n4_ n5_ n6_ n7_ n8_ n9_ n10_ n11_ n12_ n13_ n14_ n15_
                  have hHeld : w30.cell? ⟨gb262, 0, none⟩ = some (.int .i64 a1_0) ∧ w30.cell? ⟨gb262, 1, none⟩ = some (.int .i64 a1_1) ∧ w30.cell? ⟨gb263, 0, none⟩ = some (.int .i64 a2_0) ∧ w30.cell? ⟨gb263, 1, none⟩ = some (.int .i64 a2_1) := hS_
                  refine norm_ (a' := ?_) ?_ ?_
                  rotate_left
                  ·simp only [putAll, Act.put, List.setIfInBounds_toArray, List.set_cons_zero, List.set_cons_succ]
                   rfl
                  refine two_ (i := 2) (j := 9) (Ni := some 23) (Nj := some 9) #[T, T, T, T, F, F, F, F, F, F, T, F, F] #[T, T, F, T, F, F, F, F, F, T, T, F, F] rfl rfl rfl rfl (two_of HT_.out (by kernel_rfl)) (by decide) (by decide) (fun K hK => ?_) (fun K hK => ?_)
                  ·skip
                   refine goes_ Try.func16 (by kernel_rfl) rfl #[.agg #[.int .i64 a1_0, .int .i64 a1_1]] (by rfl) rfl rfl mz ?_
                   with_reducible refine (laws_toRange.calls a1_0 a1_1 t274 t275 _ A7.out).mono ?_
                   rintro e w31 ⟨rfl, hb⟩
                   refine ⟨_, rfl, ?_⟩
                   have n0_ := am (blk_below (g := gb262) (o := b2 a1_0 a1_1 23) (Z BK262) hb)
                   have n1_ := am (blk_below (g := gb263) (o := b2 a2_0 a2_1 23) (Z BK263) hb)
                   have n2_ := am (blk_below (g := gb272) (o := b2 t268 t269 24) (Z BK272) hb)
                   have n3_ := am (blk_below (g := gb273) (o := b2 t270 t271 24) (Z BK273) hb)
                   have n4_ := am (blk_below (g := gb283) (o := b2 0 0 24) (Z BK283) hb)
                   have n5_ := am (below_step (Y5 HB GE262 GE263 GE272 GE273 GE283) hb)
                   clear BK262
                   clear BK263
                   clear BK272
                   clear BK273
                   clear BK283
                   clear HB
                   have BK262 := n0_
                   have BK263 := n1_
                   have BK272 := n2_
                   have BK273 := n3_
                   have BK283 := n4_
                   have HB := n5_
                   clear n0_ n1_ n2_ n3_ n4_ n5_
                   (try clear hb)
                   (try clear hb2)
                   (try clear hk)
                   (try clear hi)
                   refine hK.out _ _ ⟨bc BK262 0, bc BK262 1, bc BK263 0, bc BK263 1⟩ (fun hHeld => ?_)
                   clear hK K
                   refine norm_ (a' := ?_) ?_ ?_
                   rotate_left
                   ·show Act.put _ (some 23) _ = _
                    simp only [Act.put, List.setIfInBounds_toArray, List.set_cons_zero, List.set_cons_succ, i64_w, i32_w]
                    rfl
                   exact norm_ nz (hJ2_10 (gb283) _ ⟨hHeld, (Z BK262), (Z BK263), (Z BK272), (Z BK273), (Z BK283), GW283.out, GE283.out, NB262_283.out, NB283_262.out, NB263_283.out, NB283_263.out, NB272_283.out, NB283_272.out, NB273_283.out, NB283_273.out, (Y5 HB GE262 GE263 GE272 GE273 GE283)⟩)
                  ·skip
                   refine box_step ?hg (N := 9) ?hd (cs := #[.int .i64 0, .int .i64 0]) (t := 24) ?hr ?_; (case hd => rfl); (case hg => rfl); (case hr => first | (go_simp; done) | (go_simp; rfl))
                   intro gb282 hg w31 hbox hb
                   have n0_ := am (blk_below (g := gb262) (o := b2 a1_0 a1_1 23) (Z BK262) hb)
                   have n1_ := am (blk_below (g := gb263) (o := b2 a2_0 a2_1 23) (Z BK263) hb)
                   have n2_ := am (blk_below (g := gb272) (o := b2 t268 t269 24) (Z BK272) hb)
                   have n3_ := am (blk_below (g := gb273) (o := b2 t270 t271 24) (Z BK273) hb)
                   have n4_ := am (blk_below (g := gb283) (o := b2 0 0 24) (Z BK283) hb)
                   have n5_ := am (below_step (Y5 HB GE262 GE263 GE272 GE273 GE283) hb)
                   have n6_ := am (hbox)
                   have n7_ := am ((by rw [hg]; exact (below_size (Y5 HB GE262 GE263 GE272 GE273 GE283)) : w.heap.size ≤ gb282))
                   have n8_ := am ((by rw [hg]; exact (below_size (Y5 HB GE262 GE263 GE272 GE273 GE283)) : w.heap.size ≤ gb282))
                   have n9_ := am ((nl (o := b2 a1_0 a1_1 23) hg (Z BK262) : gb262 ≠ gb282))
                   have n10_ := am ((ng (o := b2 a1_0 a1_1 23) hg (Z BK262) : gb282 ≠ gb262))
                   have n11_ := am ((nl (o := b2 a2_0 a2_1 23) hg (Z BK263) : gb263 ≠ gb282))
                   have n12_ := am ((ng (o := b2 a2_0 a2_1 23) hg (Z BK263) : gb282 ≠ gb263))
                   have n13_ := am ((nl (o := b2 t268 t269 24) hg (Z BK272) : gb272 ≠ gb282))
                   have n14_ := am ((ng (o := b2 t268 t269 24) hg (Z BK272) : gb282 ≠ gb272))
                   have n15_ := am ((nl (o := b2 t270 t271 24) hg (Z BK273) : gb273 ≠ gb282))
                   have n16_ := am ((ng (o := b2 t270 t271 24) hg (Z BK273) : gb282 ≠ gb273))
                   have n17_ := am ((nl (o := b2 0 0 24) hg (Z BK283) : gb283 ≠ gb282))
                   have n18_ := am ((ng (o := b2 0 0 24) hg (Z BK283) : gb282 ≠ gb283))
                   clear BK262
                   clear BK263
                   clear BK272
                   clear BK273
                   clear BK283
                   clear HB
                   have BK262 := n0_
                   have BK263 := n1_
                   have BK272 := n2_
                   have BK273 := n3_
                   have BK283 := n4_
                   have HB := n5_
                   have BK282 := n6_
                   have GW282 := n7_
                   have GE282 := n8_
                   have NB262_282 := n9_
                   have NB282_262 := n10_
                   have NB263_282 := n11_
                   have NB282_263 := n12_
                   have NB272_282 := n13_
                   have NB282_272 := n14_
                   have NB273_282 := n15_
                   have NB282_273 := n16_
                   have NB283_282 := n17_
                   have NB282_283 := n18_
                   clear n0_ n1_ n2_ n3_ n4_ n5_ n6_ n7_ n8_ n9_ n10_ n11_ n12_ n13_ n14_ n15_ n16_ n17_ n18_
                   clear hb hbox hg
                   refine hK.out _ _ ⟨bc BK262 0, bc BK262 1, bc BK263 0, bc BK263 1⟩ (fun hHeld => ?_)
                   clear hK K
                   refine norm_ (a' := ?_) ?_ ?_
                   rotate_left
                   ·show Act.put _ (some 9) _ = _
                    simp only [Act.put, List.setIfInBounds_toArray, List.set_cons_zero, List.set_cons_succ, i64_w, i32_w]
                    rfl
                   exact norm_ nz (hJ9_10 (gb282, gb283) _ ⟨hHeld, (Z BK262), (Z BK263), (Z BK272), (Z BK273), (Z BK282), (Z BK283), GW282.out, GE282.out, NB262_282.out, NB282_262.out, NB263_282.out, NB282_263.out, NB272_282.out, NB282_272.out, NB273_282.out, NB282_273.out, NB283_282.out, NB282_283.out, GW283.out, GE283.out, NB262_283.out, NB283_262.out, NB263_283.out, NB283_263.out, NB272_283.out, NB283_272.out, NB273_283.out, NB283_273.out, (Y6 HB GE262 GE263 GE272 GE273 GE283 GE282)⟩)
                ·skip
                 rintro gb282 w30 ⟨hS_, h0_, h1_, h2_, h3_, h4_, h5_, h6_, h7_, h8_, h9_, h10_, h11_, h12_, h13_, h14_, h15_⟩
                 have n0_ : Aside0 (w30.heap[gb262]? = some (.cells #[.int .i64 a1_0, .int .i64 a1_1] 23 (0, 0))) := ⟨h0_⟩
                 have n1_ : Aside0 (w30.heap[gb263]? = some (.cells #[.int .i64 a2_0, .int .i64 a2_1] 23 (0, 0))) := ⟨h1_⟩
                 have n2_ : Aside0 (w30.heap[gb272]? = some (.cells #[.int .i64 t268, .int .i64 t269] 24 (0, 0))) := ⟨h2_⟩
                 have n3_ : Aside0 (w30.heap[gb273]? = some (.cells #[.int .i64 t270, .int .i64 t271] 24 (0, 0))) := ⟨h3_⟩
                 have n4_ : Aside0 (w30.heap[gb282]? = some (.cells #[.int .i64 0, .int .i64 0] 24 (0, 0))) := ⟨h4_⟩
                 have n5_ : Aside0 (w.heap.size ≤ gb282) := ⟨h5_⟩
                 have n6_ : Aside0 (w.heap.size ≤ gb282) := ⟨h6_⟩
                 have n7_ : Aside0 (gb262 ≠ gb282) := ⟨h7_⟩
                 have n8_ : Aside0 (gb282 ≠ gb262) := ⟨h8_⟩
                 have n9_ : Aside0 (gb263 ≠ gb282) := ⟨h9_⟩
                 have n10_ : Aside0 (gb282 ≠ gb263) := ⟨h10_⟩
                 have n11_ : Aside0 (gb272 ≠ gb282) := ⟨h11_⟩
                 have n12_ : Aside0 (gb282 ≠ gb272) := ⟨h12_⟩
                 have n13_ : Aside0 (gb273 ≠ gb282) := ⟨h13_⟩
                 have n14_ : Aside0 (gb282 ≠ gb273) := ⟨h14_⟩
                 have n15_ : Aside0 (Below w.heap.size w w30) := ⟨h15_⟩
                 clear BK262
                 clear BK263
                 clear BK272
                 clear BK273
                 clear HB
                 clear h0_ h1_ h2_ h3_ h4_ h5_ h6_ h7_ h8_ h9_ h10_ h11_ h12_ h13_ h14_ h15_
                 have BK262 := n0_
                 have BK263 := n1_
                 have BK272 := n2_
                 have BK273 := n3_
                 have BK282 := n4_
                 have GW282 := n5_
                 have GE282 := n6_
                 have NB262_282 := n7_
                 have NB282_262 := n8_
                 have NB263_282 := n9_
                 have NB282_263 := n10_
                 have NB272_282 := n11_
                 have NB282_272 := n12_
                 have NB273_282 := n13_
                 have NB282_273 := n14_
                 have HB := n15_
                 clear n0_ n1_ n2_ n3_ n4_ n5_ n6_ n7_ n8_ n9_ n10_ n11_ n12_ n13_ n14_ n15_
                 have hHeld : w30.cell? ⟨gb262, 0, none⟩ = some (.int .i64 a1_0) ∧ w30.cell? ⟨gb262, 1, none⟩ = some (.int .i64 a1_1) ∧ w30.cell? ⟨gb263, 0, none⟩ = some (.int .i64 a2_0) ∧ w30.cell? ⟨gb263, 1, none⟩ = some (.int .i64 a2_1) := hS_
                 refine norm_ (a' := ?_) ?_ ?_
                 rotate_left
                 ·simp only [putAll, Act.put, List.setIfInBounds_toArray, List.set_cons_zero, List.set_cons_succ]
                  rfl
                 refine two_ (i := 2) (j := 10) (Ni := some 23) (Nj := some 10) #[T, T, T, T, F, F, F, F, F, T, F, F, F] #[T, T, F, T, F, F, F, F, F, T, T, F, F] rfl rfl rfl rfl (two_of HT_.out (by kernel_rfl)) (by decide) (by decide) (fun K hK => ?_) (fun K hK => ?_)
                 ·skip
                  refine goes_ Try.func16 (by kernel_rfl) rfl #[.agg #[.int .i64 a1_0, .int .i64 a1_1]] (by rfl) rfl rfl mz ?_
                  with_reducible refine (laws_toRange.calls a1_0 a1_1 t274 t275 _ A7.out).mono ?_
                  rintro e w31 ⟨rfl, hb⟩
                  refine ⟨_, rfl, ?_⟩
                  have n0_ := am (blk_below (g := gb262) (o := b2 a1_0 a1_1 23) (Z BK262) hb)
                  have n1_ := am (blk_below (g := gb263) (o := b2 a2_0 a2_1 23) (Z BK263) hb)
                  have n2_ := am (blk_below (g := gb272) (o := b2 t268 t269 24) (Z BK272) hb)
                  have n3_ := am (blk_below (g := gb273) (o := b2 t270 t271 24) (Z BK273) hb)
                  have n4_ := am (blk_below (g := gb282) (o := b2 0 0 24) (Z BK282) hb)
                  have n5_ := am (below_step (Y5 HB GE262 GE263 GE272 GE273 GE282) hb)
                  clear BK262
                  clear BK263
                  clear BK272
                  clear BK273
                  clear BK282
                  clear HB
                  have BK262 := n0_
                  have BK263 := n1_
                  have BK272 := n2_
                  have BK273 := n3_
                  have BK282 := n4_
                  have HB := n5_
                  clear n0_ n1_ n2_ n3_ n4_ n5_
                  (try clear hb)
                  (try clear hb2)
                  (try clear hk)
                  (try clear hi)
                  refine hK.out _ _ ⟨bc BK262 0, bc BK262 1, bc BK263 0, bc BK263 1⟩ (fun hHeld => ?_)
                  clear hK K
                  refine norm_ (a' := ?_) ?_ ?_
                  rotate_left
                  ·show Act.put _ (some 23) _ = _
                   simp only [Act.put, List.setIfInBounds_toArray, List.set_cons_zero, List.set_cons_succ, i64_w, i32_w]
                   rfl
                  exact norm_ nz (hJ2_9 (gb282) _ ⟨hHeld, (Z BK262), (Z BK263), (Z BK272), (Z BK273), (Z BK282), GW282.out, GE282.out, NB262_282.out, NB282_262.out, NB263_282.out, NB282_263.out, NB272_282.out, NB282_272.out, NB273_282.out, NB282_273.out, (Y5 HB GE262 GE263 GE272 GE273 GE282)⟩)
                 ·skip
                  refine box_step ?hg (N := 10) ?hd (cs := #[.int .i64 0, .int .i64 0]) (t := 24) ?hr ?_; (case hd => rfl); (case hg => rfl); (case hr => first | (go_simp; done) | (go_simp; rfl))
                  intro gb283 hg w31 hbox hb
                  have n0_ := am (blk_below (g := gb262) (o := b2 a1_0 a1_1 23) (Z BK262) hb)
                  have n1_ := am (blk_below (g := gb263) (o := b2 a2_0 a2_1 23) (Z BK263) hb)
                  have n2_ := am (blk_below (g := gb272) (o := b2 t268 t269 24) (Z BK272) hb)
                  have n3_ := am (blk_below (g := gb273) (o := b2 t270 t271 24) (Z BK273) hb)
                  have n4_ := am (blk_below (g := gb282) (o := b2 0 0 24) (Z BK282) hb)
                  have n5_ := am (below_step (Y5 HB GE262 GE263 GE272 GE273 GE282) hb)
                  have n6_ := am (hbox)
                  have n7_ := am ((by rw [hg]; exact (below_size (Y5 HB GE262 GE263 GE272 GE273 GE282)) : w.heap.size ≤ gb283))
                  have n8_ := am ((by rw [hg]; exact (below_size (Y5 HB GE262 GE263 GE272 GE273 GE282)) : w.heap.size ≤ gb283))
                  have n9_ := am ((nl (o := b2 a1_0 a1_1 23) hg (Z BK262) : gb262 ≠ gb283))
                  have n10_ := am ((ng (o := b2 a1_0 a1_1 23) hg (Z BK262) : gb283 ≠ gb262))
                  have n11_ := am ((nl (o := b2 a2_0 a2_1 23) hg (Z BK263) : gb263 ≠ gb283))
                  have n12_ := am ((ng (o := b2 a2_0 a2_1 23) hg (Z BK263) : gb283 ≠ gb263))
                  have n13_ := am ((nl (o := b2 t268 t269 24) hg (Z BK272) : gb272 ≠ gb283))
                  have n14_ := am ((ng (o := b2 t268 t269 24) hg (Z BK272) : gb283 ≠ gb272))
                  have n15_ := am ((nl (o := b2 t270 t271 24) hg (Z BK273) : gb273 ≠ gb283))
                  have n16_ := am ((ng (o := b2 t270 t271 24) hg (Z BK273) : gb283 ≠ gb273))
                  have n17_ := am ((nl (o := b2 0 0 24) hg (Z BK282) : gb282 ≠ gb283))
                  have n18_ := am ((ng (o := b2 0 0 24) hg (Z BK282) : gb283 ≠ gb282))
                  clear BK262
                  clear BK263
                  clear BK272
                  clear BK273
                  clear BK282
                  clear HB
                  have BK262 := n0_
                  have BK263 := n1_
                  have BK272 := n2_
                  have BK273 := n3_
                  have BK282 := n4_
                  have HB := n5_
                  have BK283 := n6_
                  have GW283 := n7_
                  have GE283 := n8_
                  have NB262_283 := n9_
                  have NB283_262 := n10_
                  have NB263_283 := n11_
                  have NB283_263 := n12_
                  have NB272_283 := n13_
                  have NB283_272 := n14_
                  have NB273_283 := n15_
                  have NB283_273 := n16_
                  have NB282_283 := n17_
                  have NB283_282 := n18_
                  clear n0_ n1_ n2_ n3_ n4_ n5_ n6_ n7_ n8_ n9_ n10_ n11_ n12_ n13_ n14_ n15_ n16_ n17_ n18_
                  clear hb hbox hg
                  refine hK.out _ _ ⟨bc BK262 0, bc BK262 1, bc BK263 0, bc BK263 1⟩ (fun hHeld => ?_)
                  clear hK K
                  refine norm_ (a' := ?_) ?_ ?_
                  rotate_left
                  ·show Act.put _ (some 10) _ = _
                   simp only [Act.put, List.setIfInBounds_toArray, List.set_cons_zero, List.set_cons_succ, i64_w, i32_w]
                   rfl
                  exact norm_ nz (hJ9_10 (gb282, gb283) _ ⟨hHeld, (Z BK262), (Z BK263), (Z BK272), (Z BK273), (Z BK282), (Z BK283), GW282.out, GE282.out, NB262_282.out, NB282_262.out, NB263_282.out, NB282_263.out, NB272_282.out, NB282_272.out, NB273_282.out, NB282_273.out, NB283_282.out, NB282_283.out, GW283.out, GE283.out, NB262_283.out, NB283_262.out, NB263_283.out, NB283_263.out, NB272_283.out, NB283_272.out, NB273_283.out, NB283_273.out, (Y6 HB GE262 GE263 GE272 GE273 GE282 GE283)⟩)
               ·skip
                rintro _ w30 ⟨hS_, h0_, h1_, h2_, h3_, h4_⟩
                have n0_ : Aside0 (w30.heap[gb262]? = some (.cells #[.int .i64 a1_0, .int .i64 a1_1] 23 (0, 0))) := ⟨h0_⟩
                have n1_ : Aside0 (w30.heap[gb263]? = some (.cells #[.int .i64 a2_0, .int .i64 a2_1] 23 (0, 0))) := ⟨h1_⟩
                have n2_ : Aside0 (w30.heap[gb272]? = some (.cells #[.int .i64 t268, .int .i64 t269] 24 (0, 0))) := ⟨h2_⟩
                have n3_ : Aside0 (w30.heap[gb273]? = some (.cells #[.int .i64 t270, .int .i64 t271] 24 (0, 0))) := ⟨h3_⟩
                have n4_ : Aside0 (Below w.heap.size w w30) := ⟨h4_⟩
                clear BK262
                clear BK263
                clear BK272
                clear BK273
                clear HB
                clear h0_ h1_ h2_ h3_ h4_
                have BK262 := n0_
                have BK263 := n1_
                have BK272 := n2_
                have BK273 := n3_
                have HB := n4_
                clear n0_ n1_ n2_ n3_ n4_
                have hHeld : w30.cell? ⟨gb262, 0, none⟩ = some (.int .i64 a1_0) ∧ w30.cell? ⟨gb262, 1, none⟩ = some (.int .i64 a1_1) ∧ w30.cell? ⟨gb263, 0, none⟩ = some (.int .i64 a2_0) ∧ w30.cell? ⟨gb263, 1, none⟩ = some (.int .i64 a2_1) := hS_
                refine norm_ (a' := ?_) ?_ ?_
                rotate_left
                ·simp only [putAll, Act.put, List.setIfInBounds_toArray, List.set_cons_zero, List.set_cons_succ]
                 rfl
                refine three_ (i := 4) (j := 9) (k := 10) (Ni := some 25) (Nj := some 9) (Nk := some 10) #[T, T, T, T, T, F, F, F, F, F, F, F, F] #[T, T, T, T, F, F, F, F, F, T, F, F, F] #[T, T, T, T, F, F, F, F, F, F, T, F, F] rfl rfl rfl rfl rfl rfl (three_of HT_.out (by kernel_rfl)) (by decide) (by decide) (by decide) (fun K hK => ?_) (fun K hK => ?_) (fun K hK => ?_)
                ·skip
                 refine goes_ Try.func16 (by kernel_rfl) rfl #[.agg #[.int .i64 a2_0, .int .i64 a2_1]] (by rfl) rfl rfl mz ?_
                 with_reducible refine (laws_toRange.calls a2_0 a2_1 t276 t277 _ A8.out).mono ?_
                 rintro e w31 ⟨rfl, hb⟩
                 refine ⟨_, rfl, ?_⟩
                 have n0_ := am (blk_below (g := gb262) (o := b2 a1_0 a1_1 23) (Z BK262) hb)
                 have n1_ := am (blk_below (g := gb263) (o := b2 a2_0 a2_1 23) (Z BK263) hb)
                 have n2_ := am (blk_below (g := gb272) (o := b2 t268 t269 24) (Z BK272) hb)
                 have n3_ := am (blk_below (g := gb273) (o := b2 t270 t271 24) (Z BK273) hb)
                 have n4_ := am (below_step (Y4 HB GE262 GE263 GE272 GE273) hb)
                 clear BK262
                 clear BK263
                 clear BK272
                 clear BK273
                 clear HB
                 have BK262 := n0_
                 have BK263 := n1_
                 have BK272 := n2_
                 have BK273 := n3_
                 have HB := n4_
                 clear n0_ n1_ n2_ n3_ n4_
                 (try clear hb)
                 (try clear hb2)
                 (try clear hk)
                 (try clear hi)
                 refine hK.out _ _ ⟨bc BK262 0, bc BK262 1, bc BK263 0, bc BK263 1⟩ (fun hHeld => ?_)
                 clear hK K
                 refine norm_ (a' := ?_) ?_ ?_
                 rotate_left
                 ·show Act.put _ (some 25) _ = _
                  simp only [Act.put, List.setIfInBounds_toArray, List.set_cons_zero, List.set_cons_succ, i64_w, i32_w]
                  rfl
                 exact norm_ nz (hJ2_4 () _ ⟨hHeld, (Z BK262), (Z BK263), (Z BK272), (Z BK273), (Y4 HB GE262 GE263 GE272 GE273)⟩)
                ·skip
                 refine box_step ?hg (N := 9) ?hd (cs := #[.int .i64 0, .int .i64 0]) (t := 24) ?hr ?_; (case hd => rfl); (case hg => rfl); (case hr => first | (go_simp; done) | (go_simp; rfl))
                 intro gb282 hg w31 hbox hb
                 have n0_ := am (blk_below (g := gb262) (o := b2 a1_0 a1_1 23) (Z BK262) hb)
                 have n1_ := am (blk_below (g := gb263) (o := b2 a2_0 a2_1 23) (Z BK263) hb)
                 have n2_ := am (blk_below (g := gb272) (o := b2 t268 t269 24) (Z BK272) hb)
                 have n3_ := am (blk_below (g := gb273) (o := b2 t270 t271 24) (Z BK273) hb)
                 have n4_ := am (below_step (Y4 HB GE262 GE263 GE272 GE273) hb)
                 have n5_ := am (hbox)
                 have n6_ := am ((by rw [hg]; exact (below_size (Y4 HB GE262 GE263 GE272 GE273)) : w.heap.size ≤ gb282))
                 have n7_ := am ((by rw [hg]; exact (below_size (Y4 HB GE262 GE263 GE272 GE273)) : w.heap.size ≤ gb282))
                 have n8_ := am ((nl (o := b2 a1_0 a1_1 23) hg (Z BK262) : gb262 ≠ gb282))
                 have n9_ := am ((ng (o := b2 a1_0 a1_1 23) hg (Z BK262) : gb282 ≠ gb262))
                 have n10_ := am ((nl (o := b2 a2_0 a2_1 23) hg (Z BK263) : gb263 ≠ gb282))
                 have n11_ := am ((ng (o := b2 a2_0 a2_1 23) hg (Z BK263) : gb282 ≠ gb263))
                 have n12_ := am ((nl (o := b2 t268 t269 24) hg (Z BK272) : gb272 ≠ gb282))
                 have n13_ := am ((ng (o := b2 t268 t269 24) hg (Z BK272) : gb282 ≠ gb272))
                 have n14_ := am ((nl (o := b2 t270 t271 24) hg (Z BK273) : gb273 ≠ gb282))
                 have n15_ := am ((ng (o := b2 t270 t271 24) hg (Z BK273) : gb282 ≠ gb273))
                 clear BK262
                 clear BK263
                 clear BK272
                 clear BK273
                 clear HB
                 have BK262 := n0_
                 have BK263 := n1_
                 have BK272 := n2_
                 have BK273 := n3_
                 have HB := n4_
                 have BK282 := n5_
                 have GW282 := n6_
                 have GE282 := n7_
                 have NB262_282 := n8_
                 have NB282_262 := n9_
                 have NB263_282 := n10_
                 have NB282_263 := n11_
                 have NB272_282 := n12_
                 have NB282_272 := n13_
                 have NB273_282 := n14_
                 have NB282_273 := n15_
                 clear n0_ n1_ n2_ n3_ n4_ n5_ n6_ n7_ n8_ n9_ n10_ n11_ n12_ n13_ n14_ n15_
                 clear hb hbox hg
                 refine hK.out _ _ ⟨bc BK262 0, bc BK262 1, bc BK263 0, bc BK263 1⟩ (fun hHeld => ?_)
                 clear hK K
                 refine norm_ (a' := ?_) ?_ ?_
                 rotate_left
                 ·show Act.put _ (some 9) _ = _
                  simp only [Act.put, List.setIfInBounds_toArray, List.set_cons_zero, List.set_cons_succ, i64_w, i32_w]
                  rfl
                 exact norm_ nz (hJ2_9 (gb282) _ ⟨hHeld, (Z BK262), (Z BK263), (Z BK272), (Z BK273), (Z BK282), GW282.out, GE282.out, NB262_282.out, NB282_262.out, NB263_282.out, NB282_263.out, NB272_282.out, NB282_272.out, NB273_282.out, NB282_273.out, (Y5 HB GE262 GE263 GE272 GE273 GE282)⟩)
                ·skip
                 refine box_step ?hg (N := 10) ?hd (cs := #[.int .i64 0, .int .i64 0]) (t := 24) ?hr ?_; (case hd => rfl); (case hg => rfl); (case hr => first | (go_simp; done) | (go_simp; rfl))
                 intro gb283 hg w31 hbox hb
                 have n0_ := am (blk_below (g := gb262) (o := b2 a1_0 a1_1 23) (Z BK262) hb)
                 have n1_ := am (blk_below (g := gb263) (o := b2 a2_0 a2_1 23) (Z BK263) hb)
                 have n2_ := am (blk_below (g := gb272) (o := b2 t268 t269 24) (Z BK272) hb)
                 have n3_ := am (blk_below (g := gb273) (o := b2 t270 t271 24) (Z BK273) hb)
                 have n4_ := am (below_step (Y4 HB GE262 GE263 GE272 GE273) hb)
                 have n5_ := am (hbox)
                 have n6_ := am ((by rw [hg]; exact (below_size (Y4 HB GE262 GE263 GE272 GE273)) : w.heap.size ≤ gb283))
                 have n7_ := am ((by rw [hg]; exact (below_size (Y4 HB GE262 GE263 GE272 GE273)) : w.heap.size ≤ gb283))
                 have n8_ := am ((nl (o := b2 a1_0 a1_1 23) hg (Z BK262) : gb262 ≠ gb283))
                 have n9_ := am ((ng (o := b2 a1_0 a1_1 23) hg (Z BK262) : gb283 ≠ gb262))
                 have n10_ := am ((nl (o := b2 a2_0 a2_1 23) hg (Z BK263) : gb263 ≠ gb283))
                 have n11_ := am ((ng (o := b2 a2_0 a2_1 23) hg (Z BK263) : gb283 ≠ gb263))
                 have n12_ := am ((nl (o := b2 t268 t269 24) hg (Z BK272) : gb272 ≠ gb283))
                 have n13_ := am ((ng (o := b2 t268 t269 24) hg (Z BK272) : gb283 ≠ gb272))
                 have n14_ := am ((nl (o := b2 t270 t271 24) hg (Z BK273) : gb273 ≠ gb283))
                 have n15_ := am ((ng (o := b2 t270 t271 24) hg (Z BK273) : gb283 ≠ gb273))
                 clear BK262
                 clear BK263
                 clear BK272
                 clear BK273
                 clear HB
                 have BK262 := n0_
                 have BK263 := n1_
                 have BK272 := n2_
                 have BK273 := n3_
                 have HB := n4_
                 have BK283 := n5_
                 have GW283 := n6_
                 have GE283 := n7_
                 have NB262_283 := n8_
                 have NB283_262 := n9_
                 have NB263_283 := n10_
                 have NB283_263 := n11_
                 have NB272_283 := n12_
                 have NB283_272 := n13_
                 have NB273_283 := n14_
                 have NB283_273 := n15_
                 clear n0_ n1_ n2_ n3_ n4_ n5_ n6_ n7_ n8_ n9_ n10_ n11_ n12_ n13_ n14_ n15_
                 clear hb hbox hg
                 refine hK.out _ _ ⟨bc BK262 0, bc BK262 1, bc BK263 0, bc BK263 1⟩ (fun hHeld => ?_)
                 clear hK K
                 refine norm_ (a' := ?_) ?_ ?_
                 rotate_left
                 ·show Act.put _ (some 10) _ = _
                  simp only [Act.put, List.setIfInBounds_toArray, List.set_cons_zero, List.set_cons_succ, i64_w, i32_w]
                  rfl
                 exact norm_ nz (hJ2_10 (gb283) _ ⟨hHeld, (Z BK262), (Z BK263), (Z BK272), (Z BK273), (Z BK283), GW283.out, GE283.out, NB262_283.out, NB283_262.out, NB263_283.out, NB283_263.out, NB272_283.out, NB283_272.out, NB273_283.out, NB283_273.out, (Y5 HB GE262 GE263 GE272 GE273 GE283)⟩)
              ·skip
               rintro ⟨gb282, gb283⟩ w31 ⟨hS_, h0_, h1_, h2_, h3_, h4_, h5_, h6_, h7_, h8_, h9_, h10_, h11_, h12_, h13_, h14_, h15_, h16_, h17_, h18_, h19_, h20_, h21_, h22_, h23_, h24_, h25_, h26_, h27_, h28_⟩
               have n0_ : Aside0 (w31.heap[gb262]? = some (.cells #[.int .i64 a1_0, .int .i64 a1_1] 23 (0, 0))) := ⟨h0_⟩
               have n1_ : Aside0 (w31.heap[gb263]? = some (.cells #[.int .i64 a2_0, .int .i64 a2_1] 23 (0, 0))) := ⟨h1_⟩
               have n2_ : Aside0 (w31.heap[gb272]? = some (.cells #[.int .i64 t268, .int .i64 t269] 24 (0, 0))) := ⟨h2_⟩
               have n3_ : Aside0 (w31.heap[gb273]? = some (.cells #[.int .i64 t270, .int .i64 t271] 24 (0, 0))) := ⟨h3_⟩
               have n4_ : Aside0 (w31.heap[gb282]? = some (.cells #[.int .i64 0, .int .i64 0] 24 (0, 0))) := ⟨h4_⟩
               have n5_ : Aside0 (w31.heap[gb283]? = some (.cells #[.int .i64 0, .int .i64 0] 24 (0, 0))) := ⟨h5_⟩
               have n6_ : Aside0 (w.heap.size ≤ gb282) := ⟨h6_⟩
               have n7_ : Aside0 (w.heap.size ≤ gb282) := ⟨h7_⟩
               have n8_ : Aside0 (gb262 ≠ gb282) := ⟨h8_⟩
               have n9_ : Aside0 (gb282 ≠ gb262) := ⟨h9_⟩
               have n10_ : Aside0 (gb263 ≠ gb282) := ⟨h10_⟩
               have n11_ : Aside0 (gb282 ≠ gb263) := ⟨h11_⟩
               have n12_ : Aside0 (gb272 ≠ gb282) := ⟨h12_⟩
               have n13_ : Aside0 (gb282 ≠ gb272) := ⟨h13_⟩
               have n14_ : Aside0 (gb273 ≠ gb282) := ⟨h14_⟩
               have n15_ : Aside0 (gb282 ≠ gb273) := ⟨h15_⟩
               have n16_ : Aside0 (gb283 ≠ gb282) := ⟨h16_⟩
               have n17_ : Aside0 (gb282 ≠ gb283) := ⟨h17_⟩
               have n18_ : Aside0 (w.heap.size ≤ gb283) := ⟨h18_⟩
               have n19_ : Aside0 (w.heap.size ≤ gb283) := ⟨h19_⟩
               have n20_ : Aside0 (gb262 ≠ gb283) := ⟨h20_⟩
               have n21_ : Aside0 (gb283 ≠ gb262) := ⟨h21_⟩
               have n22_ : Aside0 (gb263 ≠ gb283) := ⟨h22_⟩
               have n23_ : Aside0 (gb283 ≠ gb263) := ⟨h23_⟩
               have n24_ : Aside0 (gb272 ≠ gb283) := ⟨h24_⟩
               have n25_ : Aside0 (gb283 ≠ gb272) := ⟨h25_⟩
               have n26_ : Aside0 (gb273 ≠ gb283) := ⟨h26_⟩
               have n27_ : Aside0 (gb283 ≠ gb273) := ⟨h27_⟩
               have n28_ : Aside0 (Below w.heap.size w w31) := ⟨h28_⟩
               clear BK262
               clear BK263
               clear BK272
               clear BK273
               clear HB
               clear h0_ h1_ h2_ h3_ h4_ h5_ h6_ h7_ h8_ h9_ h10_ h11_ h12_ h13_ h14_ h15_ h16_ h17_ h18_ h19_ h20_ h21_ h22_ h23_ h24_ h25_ h26_ h27_ h28_
               have BK262 := n0_
               have BK263 := n1_
               have BK272 := n2_
               have BK273 := n3_
               have BK282 := n4_
               have BK283 := n5_
               have GW282 := n6_
               have GE282 := n7_
               have NB262_282 := n8_
               have NB282_262 := n9_
               have NB263_282 := n10_
               have NB282_263 := n11_
               have NB272_282 := n12_
               have NB282_272 := n13_
               have NB273_282 := n14_
               have NB282_273 := n15_
               have NB283_282 := n16_
               have NB282_283 := n17_
               have GW283 := n18_
               have GE283 := n19_
               have NB262_283 := n20_
               have NB283_262 := n21_
               have NB263_283 := n22_
               have NB283_263 := n23_
               have NB272_283 := n24_
               have NB283_272 := n25_
               have NB273_283 := n26_
               have NB283_273 := n27_
               have HB := n28_
               clear n0_ n1_ n2_ n3_ n4_ n5_ n6_ n7_ n8_ n9_ n10_ n11_ n12_ n13_ n14_ n15_ n16_ n17_ n18_ n19_ n20_ n21_ n22_ n23_ n24_ n25_ n26_ n27_ n28_
               have hHeld : w31.cell? ⟨gb262, 0, none⟩ = some (.int .i64 a1_0) ∧ w31.cell? ⟨gb262, 1, none⟩ = some (.int .i64 a1_1) ∧ w31.cell? ⟨gb263, 0, none⟩ = some (.int .i64 a2_0) ∧ w31.cell? ⟨gb263, 1, none⟩ = some (.int .i64 a2_1) := hS_
               refine norm_ (a' := ?_) ?_ ?_
               rotate_left
               ·simp only [putAll, Act.put, List.setIfInBounds_toArray, List.set_cons_zero, List.set_cons_succ]
                rfl
               refine one_ (i := 2) (N := some 23) #[T, T, T, T, F, F, F, F, F, T, T, F, F] rfl rfl (one_of HT_.out (by kernel_rfl)) (by decide) (fun K hK => ?_)
               refine goes_ Try.func16 (by kernel_rfl) rfl #[.agg #[.int .i64 a1_0, .int .i64 a1_1]] (by rfl) rfl rfl mz ?_
               with_reducible refine (laws_toRange.calls a1_0 a1_1 t274 t275 _ A7.out).mono ?_
               rintro e w32 ⟨rfl, hb⟩
               refine ⟨_, rfl, ?_⟩
               have n0_ := am (blk_below (g := gb262) (o := b2 a1_0 a1_1 23) (Z BK262) hb)
               have n1_ := am (blk_below (g := gb263) (o := b2 a2_0 a2_1 23) (Z BK263) hb)
               have n2_ := am (blk_below (g := gb272) (o := b2 t268 t269 24) (Z BK272) hb)
               have n3_ := am (blk_below (g := gb273) (o := b2 t270 t271 24) (Z BK273) hb)
               have n4_ := am (blk_below (g := gb282) (o := b2 0 0 24) (Z BK282) hb)
               have n5_ := am (blk_below (g := gb283) (o := b2 0 0 24) (Z BK283) hb)
               have n6_ := am (below_step (Y6 HB GE262 GE263 GE272 GE273 GE282 GE283) hb)
               clear BK262
               clear BK263
               clear BK272
               clear BK273
               clear BK282
               clear BK283
               clear HB
               have BK262 := n0_
               have BK263 := n1_
               have BK272 := n2_
               have BK273 := n3_
               have BK282 := n4_
               have BK283 := n5_
               have HB := n6_
               clear n0_ n1_ n2_ n3_ n4_ n5_ n6_
               (try clear hb)
               (try clear hb2)
               (try clear hk)
               (try clear hi)
               refine hK.out _ _ ⟨bc BK262 0, bc BK262 1, bc BK263 0, bc BK263 1⟩ (fun hHeld => ?_)
               clear hK K
               refine norm_ (a' := ?_) ?_ ?_
               rotate_left
               ·show Act.put _ (some 23) _ = _
                simp only [Act.put, List.setIfInBounds_toArray, List.set_cons_zero, List.set_cons_succ, i64_w, i32_w]
                rfl
               exact norm_ nz (hJ2_9_10 (gb282, gb283) _ ⟨hHeld, (Z BK262), (Z BK263), (Z BK272), (Z BK273), (Z BK282), (Z BK283), GW282.out, GE282.out, NB262_282.out, NB282_262.out, NB263_282.out, NB282_263.out, NB272_282.out, NB282_272.out, NB273_282.out, NB282_273.out, NB283_282.out, NB282_283.out, GW283.out, GE283.out, NB262_283.out, NB283_262.out, NB263_283.out, NB283_263.out, NB272_283.out, NB283_272.out, NB273_283.out, NB283_273.out, (Y6 HB GE262 GE263 GE272 GE273 GE282 GE283)⟩)
             ·skip
              rintro gb283 w31 ⟨hS_, h0_, h1_, h2_, h3_, h4_, h5_, h6_, h7_, h8_, h9_, h10_, h11_, h12_, h13_, h14_, h15_⟩
              have n0_ : Aside0 (w31.heap[gb262]? = some (.cells #[.int .i64 a1_0, .int .i64 a1_1] 23 (0, 0))) := ⟨h0_⟩
              have n1_ : Aside0 (w31.heap[gb263]? = some (.cells #[.int .i64 a2_0, .int .i64 a2_1] 23 (0, 0))) := ⟨h1_⟩
              have n2_ : Aside0 (w31.heap[gb272]? = some (.cells #[.int .i64 t268, .int .i64 t269] 24 (0, 0))) := ⟨h2_⟩
              have n3_ : Aside0 (w31.heap[gb273]? = some (.cells #[.int .i64 t270, .int .i64 t271] 24 (0, 0))) := ⟨h3_⟩
              have n4_ : Aside0 (w31.heap[gb283]? = some (.cells #[.int .i64 0, .int .i64 0] 24 (0, 0))) := ⟨h4_⟩
              have n5_ : Aside0 (w.heap.size ≤ gb283) := ⟨h5_⟩
              have n6_ : Aside0 (w.heap.size ≤ gb283) := ⟨h6_⟩
              have n7_ : Aside0 (gb262 ≠ gb283) := ⟨h7_⟩
              have n8_ : Aside0 (gb283 ≠ gb262) := ⟨h8_⟩
              have n9_ : Aside0 (gb263 ≠ gb283) := ⟨h9_⟩
              have n10_ : Aside0 (gb283 ≠ gb263) := ⟨h10_⟩
              have n11_ : Aside0 (gb272 ≠ gb283) := ⟨h11_⟩
              have n12_ : Aside0 (gb283 ≠ gb272) := ⟨h12_⟩
              have n13_ : Aside0 (gb273 ≠ gb283) := ⟨h13_⟩
              have n14_ : Aside0 (gb283 ≠ gb273) := ⟨h14_⟩
              have n15_ : Aside0 (Below w.heap.size w w31) := ⟨h15_⟩
              clear BK262
              clear BK263
              clear BK272
              clear BK273
              clear HB
              clear h0_ h1_ h2_ h3_ h4_ h5_ h6_ h7_ h8_ h9_ h10_ h11_ h12_ h13_ h14_ h15_
              have BK262 := n0_
              have BK263 := n1_
              have BK272 := n2_
              have BK273 := n3_
              have BK283 := n4_
              have GW283 := n5_
              have GE283 := n6_
              have NB262_283 := n7_
              have NB283_262 := n8_
              have NB263_283 := n9_
              have NB283_263 := n10_
              have NB272_283 := n11_
              have NB283_272 := n12_
              have NB273_283 := n13_
              have NB283_273 := n14_
              have HB := n15_
              clear n0_ n1_ n2_ n3_ n4_ n5_ n6_ n7_ n8_ n9_ n10_ n11_ n12_ n13_ n14_ n15_
              have hHeld : w31.cell? ⟨gb262, 0, none⟩ = some (.int .i64 a1_0) ∧ w31.cell? ⟨gb262, 1, none⟩ = some (.int .i64 a1_1) ∧ w31.cell? ⟨gb263, 0, none⟩ = some (.int .i64 a2_0) ∧ w31.cell? ⟨gb263, 1, none⟩ = some (.int .i64 a2_1) := hS_
              refine norm_ (a' := ?_) ?_ ?_
              rotate_left
              ·simp only [putAll, Act.put, List.setIfInBounds_toArray, List.set_cons_zero, List.set_cons_succ]
               rfl
              refine two_ (i := 4) (j := 9) (Ni := some 25) (Nj := some 9) #[T, T, T, T, T, F, F, F, F, F, T, F, F] #[T, T, T, T, F, F, F, F, F, T, T, F, F] rfl rfl rfl rfl (two_of HT_.out (by kernel_rfl)) (by decide) (by decide) (fun K hK => ?_) (fun K hK => ?_)
              ·skip
               refine goes_ Try.func16 (by kernel_rfl) rfl #[.agg #[.int .i64 a2_0, .int .i64 a2_1]] (by rfl) rfl rfl mz ?_
               with_reducible refine (laws_toRange.calls a2_0 a2_1 t276 t277 _ A8.out).mono ?_
               rintro e w32 ⟨rfl, hb⟩
               refine ⟨_, rfl, ?_⟩
               have n0_ := am (blk_below (g := gb262) (o := b2 a1_0 a1_1 23) (Z BK262) hb)
               have n1_ := am (blk_below (g := gb263) (o := b2 a2_0 a2_1 23) (Z BK263) hb)
               have n2_ := am (blk_below (g := gb272) (o := b2 t268 t269 24) (Z BK272) hb)
               have n3_ := am (blk_below (g := gb273) (o := b2 t270 t271 24) (Z BK273) hb)
               have n4_ := am (blk_below (g := gb283) (o := b2 0 0 24) (Z BK283) hb)
               have n5_ := am (below_step (Y5 HB GE262 GE263 GE272 GE273 GE283) hb)
               clear BK262
               clear BK263
               clear BK272
               clear BK273
               clear BK283
               clear HB
               have BK262 := n0_
               have BK263 := n1_
               have BK272 := n2_
               have BK273 := n3_
               have BK283 := n4_
               have HB := n5_
               clear n0_ n1_ n2_ n3_ n4_ n5_
               (try clear hb)
               (try clear hb2)
               (try clear hk)
               (try clear hi)
               refine hK.out _ _ ⟨bc BK262 0, bc BK262 1, bc BK263 0, bc BK263 1⟩ (fun hHeld => ?_)
               clear hK K
               refine norm_ (a' := ?_) ?_ ?_
               rotate_left
               ·show Act.put _ (some 25) _ = _
                simp only [Act.put, List.setIfInBounds_toArray, List.set_cons_zero, List.set_cons_succ, i64_w, i32_w]
                rfl
               exact norm_ nz (hJ2_4_10 (gb283) _ ⟨hHeld, (Z BK262), (Z BK263), (Z BK272), (Z BK273), (Z BK283), GW283.out, GE283.out, NB262_283.out, NB283_262.out, NB263_283.out, NB283_263.out, NB272_283.out, NB283_272.out, NB273_283.out, NB283_273.out, (Y5 HB GE262 GE263 GE272 GE273 GE283)⟩)
              ·skip
               refine box_step ?hg (N := 9) ?hd (cs := #[.int .i64 0, .int .i64 0]) (t := 24) ?hr ?_; (case hd => rfl); (case hg => rfl); (case hr => first | (go_simp; done) | (go_simp; rfl))
               intro gb282 hg w32 hbox hb
               have n0_ := am (blk_below (g := gb262) (o := b2 a1_0 a1_1 23) (Z BK262) hb)
               have n1_ := am (blk_below (g := gb263) (o := b2 a2_0 a2_1 23) (Z BK263) hb)
               have n2_ := am (blk_below (g := gb272) (o := b2 t268 t269 24) (Z BK272) hb)
               have n3_ := am (blk_below (g := gb273) (o := b2 t270 t271 24) (Z BK273) hb)
               have n4_ := am (blk_below (g := gb283) (o := b2 0 0 24) (Z BK283) hb)
               have n5_ := am (below_step (Y5 HB GE262 GE263 GE272 GE273 GE283) hb)
               have n6_ := am (hbox)
               have n7_ := am ((by rw [hg]; exact (below_size (Y5 HB GE262 GE263 GE272 GE273 GE283)) : w.heap.size ≤ gb282))
               have n8_ := am ((by rw [hg]; exact (below_size (Y5 HB GE262 GE263 GE272 GE273 GE283)) : w.heap.size ≤ gb282))
               have n9_ := am ((nl (o := b2 a1_0 a1_1 23) hg (Z BK262) : gb262 ≠ gb282))
               have n10_ := am ((ng (o := b2 a1_0 a1_1 23) hg (Z BK262) : gb282 ≠ gb262))
               have n11_ := am ((nl (o := b2 a2_0 a2_1 23) hg (Z BK263) : gb263 ≠ gb282))
               have n12_ := am ((ng (o := b2 a2_0 a2_1 23) hg (Z BK263) : gb282 ≠ gb263))
               have n13_ := am ((nl (o := b2 t268 t269 24) hg (Z BK272) : gb272 ≠ gb282))
               have n14_ := am ((ng (o := b2 t268 t269 24) hg (Z BK272) : gb282 ≠ gb272))
               have n15_ := am ((nl (o := b2 t270 t271 24) hg (Z BK273) : gb273 ≠ gb282))
               have n16_ := am ((ng (o := b2 t270 t271 24) hg (Z BK273) : gb282 ≠ gb273))
               have n17_ := am ((nl (o := b2 0 0 24) hg (Z BK283) : gb283 ≠ gb282))
               have n18_ := am ((ng (o := b2 0 0 24) hg (Z BK283) : gb282 ≠ gb283))
               clear BK262
               clear BK263
               clear BK272
               clear BK273
               clear BK283
               clear HB
               have BK262 := n0_
               have BK263 := n1_
               have BK272 := n2_
               have BK273 := n3_
               have BK283 := n4_
               have HB := n5_
               have BK282 := n6_
               have GW282 := n7_
               have GE282 := n8_
               have NB262_282 := n9_
               have NB282_262 := n10_
               have NB263_282 := n11_
               have NB282_263 := n12_
               have NB272_282 := n13_
               have NB282_272 := n14_
               have NB273_282 := n15_
               have NB282_273 := n16_
               have NB283_282 := n17_
               have NB282_283 := n18_
               clear n0_ n1_ n2_ n3_ n4_ n5_ n6_ n7_ n8_ n9_ n10_ n11_ n12_ n13_ n14_ n15_ n16_ n17_ n18_
               clear hb hbox hg
               refine hK.out _ _ ⟨bc BK262 0, bc BK262 1, bc BK263 0, bc BK263 1⟩ (fun hHeld => ?_)
               clear hK K
               refine norm_ (a' := ?_) ?_ ?_
               rotate_left
               ·show Act.put _ (some 9) _ = _
                simp only [Act.put, List.setIfInBounds_toArray, List.set_cons_zero, List.set_cons_succ, i64_w, i32_w]
                rfl
               exact norm_ nz (hJ2_9_10 (gb282, gb283) _ ⟨hHeld, (Z BK262), (Z BK263), (Z BK272), (Z BK273), (Z BK282), (Z BK283), GW282.out, GE282.out, NB262_282.out, NB282_262.out, NB263_282.out, NB282_263.out, NB272_282.out, NB282_272.out, NB273_282.out, NB282_273.out, NB283_282.out, NB282_283.out, GW283.out, GE283.out, NB262_283.out, NB283_262.out, NB263_283.out, NB283_263.out, NB272_283.out, NB283_272.out, NB273_283.out, NB283_273.out, (Y6 HB GE262 GE263 GE272 GE273 GE283 GE282)⟩)
            ·skip
             rintro gb282 w31 ⟨hS_, h0_, h1_, h2_, h3_, h4_, h5_, h6_, h7_, h8_, h9_, h10_, h11_, h12_, h13_, h14_, h15_⟩
             have n0_ : Aside0 (w31.heap[gb262]? = some (.cells #[.int .i64 a1_0, .int .i64 a1_1] 23 (0, 0))) := ⟨h0_⟩
             have n1_ : Aside0 (w31.heap[gb263]? = some (.cells #[.int .i64 a2_0, .int .i64 a2_1] 23 (0, 0))) := ⟨h1_⟩
             have n2_ : Aside0 (w31.heap[gb272]? = some (.cells #[.int .i64 t268, .int .i64 t269] 24 (0, 0))) := ⟨h2_⟩
             have n3_ : Aside0 (w31.heap[gb273]? = some (.cells #[.int .i64 t270, .int .i64 t271] 24 (0, 0))) := ⟨h3_⟩
             have n4_ : Aside0 (w31.heap[gb282]? = some (.cells #[.int .i64 0, .int .i64 0] 24 (0, 0))) := ⟨h4_⟩
             have n5_ : Aside0 (w.heap.size ≤ gb282) := ⟨h5_⟩
             have n6_ : Aside0 (w.heap.size ≤ gb282) := ⟨h6_⟩
             have n7_ : Aside0 (gb262 ≠ gb282) := ⟨h7_⟩
             have n8_ : Aside0 (gb282 ≠ gb262) := ⟨h8_⟩
             have n9_ : Aside0 (gb263 ≠ gb282) := ⟨h9_⟩
             have n10_ : Aside0 (gb282 ≠ gb263) := ⟨h10_⟩
             have n11_ : Aside0 (gb272 ≠ gb282) := ⟨h11_⟩
             have n12_ : Aside0 (gb282 ≠ gb272) := ⟨h12_⟩
             have n13_ : Aside0 (gb273 ≠ gb282) := ⟨h13_⟩
             have n14_ : Aside0 (gb282 ≠ gb273) := ⟨h14_⟩
             have n15_ : Aside0 (Below w.heap.size w w31) := ⟨h15_⟩
             clear BK262
             clear BK263
             clear BK272
             clear BK273
             clear HB
             clear h0_ h1_ h2_ h3_ h4_ h5_ h6_ h7_ h8_ h9_ h10_ h11_ h12_ h13_ h14_ h15_
             have BK262 := n0_
             have BK263 := n1_
             have BK272 := n2_
             have BK273 := n3_
             have BK282 := n4_
             have GW282 := n5_
             have GE282 := n6_
             have NB262_282 := n7_
             have NB282_262 := n8_
             have NB263_282 := n9_
             have NB282_263 := n10_
             have NB272_282 := n11_
             have NB282_272 := n12_
             have NB273_282 := n13_
             have NB282_273 := n14_
             have HB := n15_
             clear n0_ n1_ n2_ n3_ n4_ n5_ n6_ n7_ n8_ n9_ n10_ n11_ n12_ n13_ n14_ n15_
             have hHeld : w31.cell? ⟨gb262, 0, none⟩ = some (.int .i64 a1_0) ∧ w31.cell? ⟨gb262, 1, none⟩ = some (.int .i64 a1_1) ∧ w31.cell? ⟨gb263, 0, none⟩ = some (.int .i64 a2_0) ∧ w31.cell? ⟨gb263, 1, none⟩ = some (.int .i64 a2_1) := hS_
             refine norm_ (a' := ?_) ?_ ?_
             rotate_left
             ·simp only [putAll, Act.put, List.setIfInBounds_toArray, List.set_cons_zero, List.set_cons_succ]
              rfl
             refine two_ (i := 4) (j := 10) (Ni := some 25) (Nj := some 10) #[T, T, T, T, T, F, F, F, F, T, F, F, F] #[T, T, T, T, F, F, F, F, F, T, T, F, F] rfl rfl rfl rfl (two_of HT_.out (by kernel_rfl)) (by decide) (by decide) (fun K hK => ?_) (fun K hK => ?_)
             ·skip
              refine goes_ Try.func16 (by kernel_rfl) rfl #[.agg #[.int .i64 a2_0, .int .i64 a2_1]] (by rfl) rfl rfl mz ?_
              with_reducible refine (laws_toRange.calls a2_0 a2_1 t276 t277 _ A8.out).mono ?_
              rintro e w32 ⟨rfl, hb⟩
              refine ⟨_, rfl, ?_⟩
              have n0_ := am (blk_below (g := gb262) (o := b2 a1_0 a1_1 23) (Z BK262) hb)
              have n1_ := am (blk_below (g := gb263) (o := b2 a2_0 a2_1 23) (Z BK263) hb)
              have n2_ := am (blk_below (g := gb272) (o := b2 t268 t269 24) (Z BK272) hb)
              have n3_ := am (blk_below (g := gb273) (o := b2 t270 t271 24) (Z BK273) hb)
              have n4_ := am (blk_below (g := gb282) (o := b2 0 0 24) (Z BK282) hb)
              have n5_ := am (below_step (Y5 HB GE262 GE263 GE272 GE273 GE282) hb)
              clear BK262
              clear BK263
              clear BK272
              clear BK273
              clear BK282
              clear HB
              have BK262 := n0_
              have BK263 := n1_
              have BK272 := n2_
              have BK273 := n3_
              have BK282 := n4_
              have HB := n5_
              clear n0_ n1_ n2_ n3_ n4_ n5_
              (try clear hb)
              (try clear hb2)
              (try clear hk)
              (try clear hi)
              refine hK.out _ _ ⟨bc BK262 0, bc BK262 1, bc BK263 0, bc BK263 1⟩ (fun hHeld => ?_)
              clear hK K
              refine norm_ (a' := ?_) ?_ ?_
              rotate_left
              ·show Act.put _ (some 25) _ = _
               simp only [Act.put, List.setIfInBounds_toArray, List.set_cons_zero, List.set_cons_succ, i64_w, i32_w]
               rfl
              exact norm_ nz (hJ2_4_9 (gb282) _ ⟨hHeld, (Z BK262), (Z BK263), (Z BK272), (Z BK273), (Z BK282), GW282.out, GE282.out, NB262_282.out, NB282_262.out, NB263_282.out, NB282_263.out, NB272_282.out, NB282_272.out, NB273_282.out, NB282_273.out, (Y5 HB GE262 GE263 GE272 GE273 GE282)⟩)
             ·skip
              refine box_step ?hg (N := 10) ?hd (cs := #[.int .i64 0, .int .i64 0]) (t := 24) ?hr ?_; (case hd => rfl); (case hg => rfl); (case hr => first | (go_simp; done) | (go_simp; rfl))
              intro gb283 hg w32 hbox hb
              have n0_ := am (blk_below (g := gb262) (o := b2 a1_0 a1_1 23) (Z BK262) hb)
              have n1_ := am (blk_below (g := gb263) (o := b2 a2_0 a2_1 23) (Z BK263) hb)
              have n2_ := am (blk_below (g := gb272) (o := b2 t268 t269 24) (Z BK272) hb)
              have n3_ := am (blk_below (g := gb273) (o := b2 t270 t271 24) (Z BK273) hb)
              have n4_ := am (blk_below (g := gb282) (o := b2 0 0 24) (Z BK282) hb)
              have n5_ := am (below_step (Y5 HB GE262 GE263 GE272 GE273 GE282) hb)
              have n6_ := am (hbox)
              have n7_ := am ((by rw [hg]; exact (below_size (Y5 HB GE262 GE263 GE272 GE273 GE282)) : w.heap.size ≤ gb283))
              have n8_ := am ((by rw [hg]; exact (below_size (Y5 HB GE262 GE263 GE272 GE273 GE282)) : w.heap.size ≤ gb283))
              have n9_ := am ((nl (o := b2 a1_0 a1_1 23) hg (Z BK262) : gb262 ≠ gb283))
              have n10_ := am ((ng (o := b2 a1_0 a1_1 23) hg (Z BK262) : gb283 ≠ gb262))
              have n11_ := am ((nl (o := b2 a2_0 a2_1 23) hg (Z BK263) : gb263 ≠ gb283))
              have n12_ := am ((ng (o := b2 a2_0 a2_1 23) hg (Z BK263) : gb283 ≠ gb263))
              have n13_ := am ((nl (o := b2 t268 t269 24) hg (Z BK272) : gb272 ≠ gb283))
              have n14_ := am ((ng (o := b2 t268 t269 24) hg (Z BK272) : gb283 ≠ gb272))
              have n15_ := am ((nl (o := b2 t270 t271 24) hg (Z BK273) : gb273 ≠ gb283))
              have n16_ := am ((ng (o := b2 t270 t271 24) hg (Z BK273) : gb283 ≠ gb273))
              have n17_ := am ((nl (o := b2 0 0 24) hg (Z BK282) : gb282 ≠ gb283))
              have n18_ := am ((ng (o := b2 0 0 24) hg (Z BK282) : gb283 ≠ gb282))
              clear BK262
              clear BK263
              clear BK272
              clear BK273
              clear BK282
              clear HB
              have BK262 := n0_
              have BK263 := n1_
              have BK272 := n2_
              have BK273 := n3_
              have BK282 := n4_
              have HB := n5_
              have BK283 := n6_
              have GW283 := n7_
              have GE283 := n8_
              have NB262_283 := n9_
              have NB283_262 := n10_
              have NB263_283 := n11_
              have NB283_263 := n12_
              have NB272_283 := n13_
              have NB283_272 := n14_
              have NB273_283 := n15_
              have NB283_273 := n16_
              have NB282_283 := n17_
              have NB283_282 := n18_
              clear n0_ n1_ n2_ n3_ n4_ n5_ n6_ n7_ n8_ n9_ n10_ n11_ n12_ n13_ n14_ n15_ n16_ n17_ n18_
              clear hb hbox hg
              refine hK.out _ _ ⟨bc BK262 0, bc BK262 1, bc BK263 0, bc BK263 1⟩ (fun hHeld => ?_)
              clear hK K
              refine norm_ (a' := ?_) ?_ ?_
              rotate_left
              ·show Act.put _ (some 10) _ = _
               simp only [Act.put, List.setIfInBounds_toArray, List.set_cons_zero, List.set_cons_succ, i64_w, i32_w]
               rfl
              exact norm_ nz (hJ2_9_10 (gb282, gb283) _ ⟨hHeld, (Z BK262), (Z BK263), (Z BK272), (Z BK273), (Z BK282), (Z BK283), GW282.out, GE282.out, NB262_282.out, NB282_262.out, NB263_282.out, NB282_263.out, NB272_282.out, NB282_272.out, NB273_282.out, NB282_273.out, NB283_282.out, NB282_283.out, GW283.out, GE283.out, NB262_283.out, NB283_262.out, NB263_283.out, NB283_263.out, NB272_283.out, NB283_272.out, NB273_283.out, NB283_273.out, (Y6 HB GE262 GE263 GE272 GE273 GE282 GE283)⟩)
           ·skip
            rintro _ w31 ⟨hS_, h0_, h1_, h2_, h3_, h4_⟩
            have n0_ : Aside0 (w31.heap[gb262]? = some (.cells #[.int .i64 a1_0, .int .i64 a1_1] 23 (0, 0))) := ⟨h0_⟩
            have n1_ : Aside0 (w31.heap[gb263]? = some (.cells #[.int .i64 a2_0, .int .i64 a2_1] 23 (0, 0))) := ⟨h1_⟩
            have n2_ : Aside0 (w31.heap[gb272]? = some (.cells #[.int .i64 t268, .int .i64 t269] 24 (0, 0))) := ⟨h2_⟩
            have n3_ : Aside0 (w31.heap[gb273]? = some (.cells #[.int .i64 t270, .int .i64 t271] 24 (0, 0))) := ⟨h3_⟩
            have n4_ : Aside0 (Below w.heap.size w w31) := ⟨h4_⟩
            clear BK262
            clear BK263
            clear BK272
            clear BK273
            clear HB
            clear h0_ h1_ h2_ h3_ h4_
            have BK262 := n0_
            have BK263 := n1_
            have BK272 := n2_
            have BK273 := n3_
            have HB := n4_
            clear n0_ n1_ n2_ n3_ n4_
            have hHeld : w31.cell? ⟨gb262, 0, none⟩ = some (.int .i64 a1_0) ∧ w31.cell? ⟨gb262, 1, none⟩ = some (.int .i64 a1_1) ∧ w31.cell? ⟨gb263, 0, none⟩ = some (.int .i64 a2_0) ∧ w31.cell? ⟨gb263, 1, none⟩ = some (.int .i64 a2_1) := hS_
            refine norm_ (a' := ?_) ?_ ?_
            rotate_left
            ·simp only [putAll, Act.put, List.setIfInBounds_toArray, List.set_cons_zero, List.set_cons_succ]
             rfl
            refine three_ (i := 5) (j := 9) (k := 10) (Ni := some 26) (Nj := some 9) (Nk := some 10) #[T, T, T, T, T, T, F, F, F, F, F, F, F] #[T, T, T, T, T, F, F, F, F, T, F, F, F] #[T, T, T, T, T, F, F, F, F, F, T, F, F] rfl rfl rfl rfl rfl rfl (three_of HT_.out (by kernel_rfl)) (by decide) (by decide) (by decide) (fun K hK => ?_) (fun K hK => ?_) (fun K hK => ?_)
            ·skip
             refine goes_ Try.func26 (by kernel_rfl) rfl #[.int .i64 a0, .agg #[.int .i64 t274, .int .i64 t275], .agg #[.int .i64 t276, .int .i64 t277]] (by rfl) rfl rfl mz ?_
             with_reducible refine (impl_RangeCmp.calls k a0 t274 t275 t276 t277 t278 t279 t280 t281 _ A9.out).mono ?_
             rintro e w32 ⟨rfl, hb⟩
             refine ⟨_, rfl, ?_⟩
             have n0_ := am (blk_below (g := gb262) (o := b2 a1_0 a1_1 23) (Z BK262) hb)
             have n1_ := am (blk_below (g := gb263) (o := b2 a2_0 a2_1 23) (Z BK263) hb)
             have n2_ := am (blk_below (g := gb272) (o := b2 t268 t269 24) (Z BK272) hb)
             have n3_ := am (blk_below (g := gb273) (o := b2 t270 t271 24) (Z BK273) hb)
             have n4_ := am (below_step (Y4 HB GE262 GE263 GE272 GE273) hb)
             clear BK262
             clear BK263
             clear BK272
             clear BK273
             clear HB
             have BK262 := n0_
             have BK263 := n1_
             have BK272 := n2_
             have BK273 := n3_
             have HB := n4_
             clear n0_ n1_ n2_ n3_ n4_
             (try clear hb)
             (try clear hb2)
             (try clear hk)
             (try clear hi)
             refine hK.out _ _ ⟨bc BK262 0, bc BK262 1, bc BK263 0, bc BK263 1⟩ (fun hHeld => ?_)
             clear hK K
             refine norm_ (a' := ?_) ?_ ?_
             rotate_left
             ·show Act.put _ (some 26) _ = _
              simp only [Act.put, List.setIfInBounds_toArray, List.set_cons_zero, List.set_cons_succ, i64_w, i32_w]
              rfl
             refine pure_ (i := 6) (N := some 20) (v := ?_) (a' := ?_) #[T, T, T, T, T, T, T, F, F, F, F, F, F] rfl rfl (any_of HT_.out (by kernel_rfl)) (fun _ _ _ h => h) (Or.inl ⟨by rfl, ?_⟩) ?_ ?_
             rotate_left
             ·exact gz
             rotate_left
             ·exact pz
             refine pure_ (i := 7) (N := some 27) (v := ?_) (a' := ?_) #[T, T, T, T, T, T, T, T, F, F, F, F, F] rfl rfl (any_of HT_.out (by kernel_rfl)) (fun _ _ _ h => h) (Or.inl ⟨by rfl, ?_⟩) ?_ ?_
             rotate_left
             ·exact gz
             rotate_left
             ·exact pz
             refine pure_ (i := 8) (N := some 28) (v := ?_) (a' := ?_) #[T, T, T, T, T, T, T, T, T, F, F, F, F] rfl rfl (any_of HT_.out (by kernel_rfl)) (fun _ _ _ h => h) (Or.inl ⟨by rfl, ?_⟩) ?_ ?_
             rotate_left
             ·exact gz
             rotate_left
             ·exact pz
             exact norm_ nz (hJ2_4_5 () _ ⟨hHeld, (Z BK262), (Z BK263), (Z BK272), (Z BK273), (Y4 HB GE262 GE263 GE272 GE273)⟩)
            ·skip
             refine box_step ?hg (N := 9) ?hd (cs := #[.int .i64 0, .int .i64 0]) (t := 24) ?hr ?_; (case hd => rfl); (case hg => rfl); (case hr => first | (go_simp; done) | (go_simp; rfl))
             intro gb282 hg w32 hbox hb
             have n0_ := am (blk_below (g := gb262) (o := b2 a1_0 a1_1 23) (Z BK262) hb)
             have n1_ := am (blk_below (g := gb263) (o := b2 a2_0 a2_1 23) (Z BK263) hb)
             have n2_ := am (blk_below (g := gb272) (o := b2 t268 t269 24) (Z BK272) hb)
             have n3_ := am (blk_below (g := gb273) (o := b2 t270 t271 24) (Z BK273) hb)
             have n4_ := am (below_step (Y4 HB GE262 GE263 GE272 GE273) hb)
             have n5_ := am (hbox)
             have n6_ := am ((by rw [hg]; exact (below_size (Y4 HB GE262 GE263 GE272 GE273)) : w.heap.size ≤ gb282))
             have n7_ := am ((by rw [hg]; exact (below_size (Y4 HB GE262 GE263 GE272 GE273)) : w.heap.size ≤ gb282))
             have n8_ := am ((nl (o := b2 a1_0 a1_1 23) hg (Z BK262) : gb262 ≠ gb282))
             have n9_ := am ((ng (o := b2 a1_0 a1_1 23) hg (Z BK262) : gb282 ≠ gb262))
             have n10_ := am ((nl (o := b2 a2_0 a2_1 23) hg (Z BK263) : gb263 ≠ gb282))
             have n11_ := am ((ng (o := b2 a2_0 a2_1 23) hg (Z BK263) : gb282 ≠ gb263))
             have n12_ := am ((nl (o := b2 t268 t269 24) hg (Z BK272) : gb272 ≠ gb282))
             have n13_ := am ((ng (o := b2 t268 t269 24) hg (Z BK272) : gb282 ≠ gb272))
             have n14_ := am ((nl (o := b2 t270 t271 24) hg (Z BK273) : gb273 ≠ gb282))
             have n15_ := am ((ng (o := b2 t270 t271 24) hg (Z BK273) : gb282 ≠ gb273))
             clear BK262
             clear BK263
             clear BK272
             clear BK273
             clear HB
             have BK262 := n0_
             have BK263 := n1_
             have BK272 := n2_
             have BK273 := n3_
             have HB := n4_
             have BK282 := n5_
             have GW282 := n6_
             have GE282 := n7_
             have NB262_282 := n8_
             have NB282_262 := n9_
             have NB263_282 := n10_
             have NB282_263 := n11_
             have NB272_282 := n12_
             have NB282_272 := n13_
             have NB273_282 := n14_
             have NB282_273 := n15_
             clear n0_ n1_ n2_ n3_ n4_ n5_ n6_ n7_ n8_ n9_ n10_ n11_ n12_ n13_ n14_ n15_
             clear hb hbox hg
             refine hK.out _ _ ⟨bc BK262 0, bc BK262 1, bc BK263 0, bc BK263 1⟩ (fun hHeld => ?_)
             clear hK K
             refine norm_ (a' := ?_) ?_ ?_
             rotate_left
             ·show Act.put _ (some 9) _ = _
              simp only [Act.put, List.setIfInBounds_toArray, List.set_cons_zero, List.set_cons_succ, i64_w, i32_w]
              rfl
             exact norm_ nz (hJ2_4_9 (gb282) _ ⟨hHeld, (Z BK262), (Z BK263), (Z BK272), (Z BK273), (Z BK282), GW282.out, GE282.out, NB262_282.out, NB282_262.out, NB263_282.out, NB282_263.out, NB272_282.out, NB282_272.out, NB273_282.out, NB282_273.out, (Y5 HB GE262 GE263 GE272 GE273 GE282)⟩)
            ·skip
             refine box_step ?hg (N := 10) ?hd (cs := #[.int .i64 0, .int .i64 0]) (t := 24) ?hr ?_; (case hd => rfl); (case hg => rfl); (case hr => first | (go_simp; done) | (go_simp; rfl))
             intro gb283 hg w32 hbox hb
             have n0_ := am (blk_below (g := gb262) (o := b2 a1_0 a1_1 23) (Z BK262) hb)
             have n1_ := am (blk_below (g := gb263) (o := b2 a2_0 a2_1 23) (Z BK263) hb)
             have n2_ := am (blk_below (g := gb272) (o := b2 t268 t269 24) (Z BK272) hb)
             have n3_ := am (blk_below (g := gb273) (o := b2 t270 t271 24) (Z BK273) hb)
             have n4_ := am (below_step (Y4 HB GE262 GE263 GE272 GE273) hb)
             have n5_ := am (hbox)
             have n6_ := am ((by rw [hg]; exact (below_size (Y4 HB GE262 GE263 GE272 GE273)) : w.heap.size ≤ gb283))
             have n7_ := am ((by rw [hg]; exact (below_size (Y4 HB GE262 GE263 GE272 GE273)) : w.heap.size ≤ gb283))
             have n8_ := am ((nl (o := b2 a1_0 a1_1 23) hg (Z BK262) : gb262 ≠ gb283))
             have n9_ := am ((ng (o := b2 a1_0 a1_1 23) hg (Z BK262) : gb283 ≠ gb262))
             have n10_ := am ((nl (o := b2 a2_0 a2_1 23) hg (Z BK263) : gb263 ≠ gb283))
             have n11_ := am ((ng (o := b2 a2_0 a2_1 23) hg (Z BK263) : gb283 ≠ gb263))
             have n12_ := am ((nl (o := b2 t268 t269 24) hg (Z BK272) : gb272 ≠ gb283))
             have n13_ := am ((ng (o := b2 t268 t269 24) hg (Z BK272) : gb283 ≠ gb272))
             have n14_ := am ((nl (o := b2 t270 t271 24) hg (Z BK273) : gb273 ≠ gb283))
             have n15_ := am ((ng (o := b2 t270 t271 24) hg (Z BK273) : gb283 ≠ gb273))
             clear BK262
             clear BK263
             clear BK272
             clear BK273
             clear HB
             have BK262 := n0_
             have BK263 := n1_
             have BK272 := n2_
             have BK273 := n3_
             have HB := n4_
             have BK283 := n5_
             have GW283 := n6_
             have GE283 := n7_
             have NB262_283 := n8_
             have NB283_262 := n9_
             have NB263_283 := n10_
             have NB283_263 := n11_
             have NB272_283 := n12_
             have NB283_272 := n13_
             have NB273_283 := n14_
             have NB283_273 := n15_
             clear n0_ n1_ n2_ n3_ n4_ n5_ n6_ n7_ n8_ n9_ n10_ n11_ n12_ n13_ n14_ n15_
             clear hb hbox hg
             refine hK.out _ _ ⟨bc BK262 0, bc BK262 1, bc BK263 0, bc BK263 1⟩ (fun hHeld => ?_)
             clear hK K
             refine norm_ (a' := ?_) ?_ ?_
             rotate_left
             ·show Act.put _ (some 10) _ = _
              simp only [Act.put, List.setIfInBounds_toArray, List.set_cons_zero, List.set_cons_succ, i64_w, i32_w]
              rfl
             exact norm_ nz (hJ2_4_10 (gb283) _ ⟨hHeld, (Z BK262), (Z BK263), (Z BK272), (Z BK273), (Z BK283), GW283.out, GE283.out, NB262_283.out, NB283_262.out, NB263_283.out, NB283_263.out, NB272_283.out, NB283_272.out, NB273_283.out, NB283_273.out, (Y5 HB GE262 GE263 GE272 GE273 GE283)⟩)
          ·skip
           rintro ⟨gb282, gb283⟩ w32 ⟨hS_, h0_, h1_, h2_, h3_, h4_, h5_, h6_, h7_, h8_, h9_, h10_, h11_, h12_, h13_, h14_, h15_, h16_, h17_, h18_, h19_, h20_, h21_, h22_, h23_, h24_, h25_, h26_, h27_, h28_⟩
           have n0_ : Aside0 (w32.heap[gb262]? = some (.cells #[.int .i64 a1_0, .int .i64 a1_1] 23 (0, 0))) := ⟨h0_⟩
           have n1_ : Aside0 (w32.heap[gb263]? = some (.cells #[.int .i64 a2_0, .int .i64 a2_1] 23 (0, 0))) := ⟨h1_⟩
           have n2_ : Aside0 (w32.heap[gb272]? = some (.cells #[.int .i64 t268, .int .i64 t269] 24 (0, 0))) := ⟨h2_⟩
           have n3_ : Aside0 (w32.heap[gb273]? = some (.cells #[.int .i64 t270, .int .i64 t271] 24 (0, 0))) := ⟨h3_⟩
           have n4_ : Aside0 (w32.heap[gb282]? = some (.cells #[.int .i64 0, .int .i64 0] 24 (0, 0))) := ⟨h4_⟩
           have n5_ : Aside0 (w32.heap[gb283]? = some (.cells #[.int .i64 0, .int .i64 0] 24 (0, 0))) := ⟨h5_⟩
           have n6_ : Aside0 (w.heap.size ≤ gb282) := ⟨h6_⟩
           have n7_ : Aside0 (w.heap.size ≤ gb282) := ⟨h7_⟩
           have n8_ : Aside0 (gb262 ≠ gb282) := ⟨h8_⟩
           have n9_ : Aside0 (gb282 ≠ gb262) := ⟨h9_⟩
           have n10_ : Aside0 (gb263 ≠ gb282) := ⟨h10_⟩
           have n11_ : Aside0 (gb282 ≠ gb263) := ⟨h11_⟩
           have n12_ : Aside0 (gb272 ≠ gb282) := ⟨h12_⟩
           have n13_ : Aside0 (gb282 ≠ gb272) := ⟨h13_⟩
           have n14_ : Aside0 (gb273 ≠ gb282) := ⟨h14_⟩
           have n15_ : Aside0 (gb282 ≠ gb273) := ⟨h15_⟩
           have n16_ : Aside0 (gb283 ≠ gb282) := ⟨h16_⟩
           have n17_ : Aside0 (gb282 ≠ gb283) := ⟨h17_⟩
           have n18_ : Aside0 (w.heap.size ≤ gb283) := ⟨h18_⟩
           have n19_ : Aside0 (w.heap.size ≤ gb283) := ⟨h19_⟩
           have n20_ : Aside0 (gb262 ≠ gb283) := ⟨h20_⟩
           have n21_ : Aside0 (gb283 ≠ gb262) := ⟨h21_⟩
           have n22_ : Aside0 (gb263 ≠ gb283) := ⟨h22_⟩
           have n23_ : Aside0 (gb283 ≠ gb263) := ⟨h23_⟩
           have n24_ : Aside0 (gb272 ≠ gb283) := ⟨h24_⟩
           have n25_ : Aside0 (gb283 ≠ gb272) := ⟨h25_⟩
           have n26_ : Aside0 (gb273 ≠ gb283) := ⟨h26_⟩
           have n27_ : Aside0 (gb283 ≠ gb273) := ⟨h27_⟩
           have n28_ : Aside0 (Below w.heap.size w w32) := ⟨h28_⟩
           clear BK262
           clear BK263
           clear BK272
           clear BK273
           clear HB
           clear h0_ h1_ h2_ h3_ h4_ h5_ h6_ h7_ h8_ h9_ h10_ h11_ h12_ h13_ h14_ h15_ h16_ h17_ h18_ h19_ h20_ h21_ h22_ h23_ h24_ h25_ h26_ h27_ h28_
           have BK262 := n0_
           have BK263 := n1_
           have BK272 := n2_
           have BK273 := n3_
           have BK282 := n4_
           have BK283 := n5_
           have GW282 := n6_
           have GE282 := n7_
           have NB262_282 := n8_
           have NB282_262 := n9_
           have NB263_282 := n10_
           have NB282_263 := n11_
           have NB272_282 := n12_
           have NB282_272 := n13_
           have NB273_282 := n14_
           have NB282_273 := n15_
           have NB283_282 := n16_
           have NB282_283 := n17_
           have GW283 := n18_
           have GE283 := n19_
           have NB262_283 := n20_
           have NB283_262 := n21_
           have NB263_283 := n22_
           have NB283_263 := n23_
           have NB272_283 := n24_
           have NB283_272 := n25_
           have NB273_283 := n26_
           have NB283_273 := n27_
           have HB := n28_
           clear n0_ n1_ n2_ n3_ n4_ n5_ n6_ n7_ n8_ n9_ n10_ n11_ n12_ n13_ n14_ n15_ n16_ n17_ n18_ n19_ n20_ n21_ n22_ n23_ n24_ n25_ n26_ n27_ n28_
           have hHeld : w32.cell? ⟨gb262, 0, none⟩ = some (.int .i64 a1_0) ∧ w32.cell? ⟨gb262, 1, none⟩ = some (.int .i64 a1_1) ∧ w32.cell? ⟨gb263, 0, none⟩ = some (.int .i64 a2_0) ∧ w32.cell? ⟨gb263, 1, none⟩ = some (.int .i64 a2_1) := hS_
           refine norm_ (a' := ?_) ?_ ?_
           rotate_left
           ·simp only [putAll, Act.put, List.setIfInBounds_toArray, List.set_cons_zero, List.set_cons_succ]
            rfl
           refine one_ (i := 4) (N := some 25) #[T, T, T, T, T, F, F, F, F, T, T, F, F] rfl rfl (one_of HT_.out (by kernel_rfl)) (by decide) (fun K hK => ?_)
           refine goes_ Try.func16 (by kernel_rfl) rfl #[.agg #[.int .i64 a2_0, .int .i64 a2_1]] (by rfl) rfl rfl mz ?_
           with_reducible refine (laws_toRange.calls a2_0 a2_1 t276 t277 _ A8.out).mono ?_
           rintro e w33 ⟨rfl, hb⟩
           refine ⟨_, rfl, ?_⟩
           have n0_ := am (blk_below (g := gb262) (o := b2 a1_0 a1_1 23) (Z BK262) hb)
           have n1_ := am (blk_below (g := gb263) (o := b2 a2_0 a2_1 23) (Z BK263) hb)
           have n2_ := am (blk_below (g := gb272) (o := b2 t268 t269 24) (Z BK272) hb)
           have n3_ := am (blk_below (g := gb273) (o := b2 t270 t271 24) (Z BK273) hb)
           have n4_ := am (blk_below (g := gb282) (o := b2 0 0 24) (Z BK282) hb)
           have n5_ := am (blk_below (g := gb283) (o := b2 0 0 24) (Z BK283) hb)
           have n6_ := am (below_step (Y6 HB GE262 GE263 GE272 GE273 GE282 GE283) hb)
           clear BK262
           clear BK263
           clear BK272
           clear BK273
           clear BK282
           clear BK283
           clear HB
           have BK262 := n0_
           have BK263 := n1_
           have BK272 := n2_
           have BK273 := n3_
           have BK282 := n4_
           have BK283 := n5_
           have HB := n6_
           clear n0_ n1_ n2_ n3_ n4_ n5_ n6_
           (try clear hb)
           (try clear hb2)
           (try clear hk)
           (try clear hi)
           refine hK.out _ _ ⟨bc BK262 0, bc BK262 1, bc BK263 0, bc BK263 1⟩ (fun hHeld => ?_)
           clear hK K
           refine norm_ (a' := ?_) ?_ ?_
           rotate_left
           ·show Act.put _ (some 25) _ = _
            simp only [Act.put, List.setIfInBounds_toArray, List.set_cons_zero, List.set_cons_succ, i64_w, i32_w]
            rfl
           exact norm_ nz (hJ2_4_9_10 (gb282, gb283) _ ⟨hHeld, (Z BK262), (Z BK263), (Z BK272), (Z BK273), (Z BK282), (Z BK283), GW282.out, GE282.out, NB262_282.out, NB282_262.out, NB263_282.out, NB282_263.out, NB272_282.out, NB282_272.out, NB273_282.out, NB282_273.out, NB283_282.out, NB282_283.out, GW283.out, GE283.out, NB262_283.out, NB283_262.out, NB263_283.out, NB283_263.out, NB272_283.out, NB283_272.out, NB273_283.out, NB283_273.out, (Y6 HB GE262 GE263 GE272 GE273 GE282 GE283)⟩)
         ·skip
          rintro gb283 w32 ⟨hS_, h0_, h1_, h2_, h3_, h4_, h5_, h6_, h7_, h8_, h9_, h10_, h11_, h12_, h13_, h14_, h15_⟩
          have n0_ : Aside0 (w32.heap[gb262]? = some (.cells #[.int .i64 a1_0, .int .i64 a1_1] 23 (0, 0))) := ⟨h0_⟩
          have n1_ : Aside0 (w32.heap[gb263]? = some (.cells #[.int .i64 a2_0, .int .i64 a2_1] 23 (0, 0))) := ⟨h1_⟩
          have n2_ : Aside0 (w32.heap[gb272]? = some (.cells #[.int .i64 t268, .int .i64 t269] 24 (0, 0))) := ⟨h2_⟩
          have n3_ : Aside0 (w32.heap[gb273]? = some (.cells #[.int .i64 t270, .int .i64 t271] 24 (0, 0))) := ⟨h3_⟩
          have n4_ : Aside0 (w32.heap[gb283]? = some (.cells #[.int .i64 0, .int .i64 0] 24 (0, 0))) := ⟨h4_⟩
          have n5_ : Aside0 (w.heap.size ≤ gb283) := ⟨h5_⟩
          have n6_ : Aside0 (w.heap.size ≤ gb283) := ⟨h6_⟩
          have n7_ : Aside0 (gb262 ≠ gb283) := ⟨h7_⟩
          have n8_ : Aside0 (gb283 ≠ gb262) := ⟨h8_⟩
          have n9_ : Aside0 (gb263 ≠ gb283) := ⟨h9_⟩
          have n10_ : Aside0 (gb283 ≠ gb263) := ⟨h10_⟩
          have n11_ : Aside0 (gb272 ≠ gb283) := ⟨h11_⟩
          have n12_ : Aside0 (gb283 ≠ gb272) := ⟨h12_⟩
          have n13_ : Aside0 (gb273 ≠ gb283) := ⟨h13_⟩
          have n14_ : Aside0 (gb283 ≠ gb273) := ⟨h14_⟩
          have n15_ : Aside0 (Below w.heap.size w w32) := ⟨h15_⟩
          clear BK262
          clear BK263
          clear BK272
          clear BK273
          clear HB
          clear h0_ h1_ h2_ h3_ h4_ h5_ h6_ h7_ h8_ h9_ h10_ h11_ h12_ h13_ h14_ h15_
          have BK262 := n0_
          have BK263 := n1_
          have BK272 := n2_
          have BK273 := n3_
          have BK283 := n4_
          have GW283 := n5_
          have GE283 := n6_
          have NB262_283 := n7_
          have NB283_262 := n8_
          have NB263_283 := n9_
          have NB283_263 := n10_
          have NB272_283 := n11_
          have NB283_272 := n12_
          have NB273_283 := n13_
          have NB283_273 := n14_
          have HB := n15_
          clear n0_ n1_ n2_ n3_ n4_ n5_ n6_ n7_ n8_ n9_ n10_ n11_ n12_ n13_ n14_ n15_
          have hHeld : w32.cell? ⟨gb262, 0, none⟩ = some (.int .i64 a1_0) ∧ w32.cell? ⟨gb262, 1, none⟩ = some (.int .i64 a1_1) ∧ w32.cell? ⟨gb263, 0, none⟩ = some (.int .i64 a2_0) ∧ w32.cell? ⟨gb263, 1, none⟩ = some (.int .i64 a2_1) := hS_
          refine norm_ (a' := ?_) ?_ ?_
          rotate_left
          ·simp only [putAll, Act.put, List.setIfInBounds_toArray, List.set_cons_zero, List.set_cons_succ]
           rfl
          refine two_ (i := 5) (j := 9) (Ni := some 26) (Nj := some 9) #[T, T, T, T, T, T, F, F, F, F, T, F, F] #[T, T, T, T, T, F, F, F, F, T, T, F, F] rfl rfl rfl rfl (two_of HT_.out (by kernel_rfl)) (by decide) (by decide) (fun K hK => ?_) (fun K hK => ?_)
          ·skip
           refine goes_ Try.func26 (by kernel_rfl) rfl #[.int .i64 a0, .agg #[.int .i64 t274, .int .i64 t275], .agg #[.int .i64 t276, .int .i64 t277]] (by rfl) rfl rfl mz ?_
           with_reducible refine (impl_RangeCmp.calls k a0 t274 t275 t276 t277 t278 t279 t280 t281 _ A9.out).mono ?_
           rintro e w33 ⟨rfl, hb⟩
           refine ⟨_, rfl, ?_⟩
           have n0_ := am (blk_below (g := gb262) (o := b2 a1_0 a1_1 23) (Z BK262) hb)
           have n1_ := am (blk_below (g := gb263) (o := b2 a2_0 a2_1 23) (Z BK263) hb)
           have n2_ := am (blk_below (g := gb272) (o := b2 t268 t269 24) (Z BK272) hb)
           have n3_ := am (blk_below (g := gb273) (o := b2 t270 t271 24) (Z BK273) hb)
           have n4_ := am (blk_below (g := gb283) (o := b2 0 0 24) (Z BK283) hb)
           have n5_ := am (below_step (Y5 HB GE262 GE263 GE272 GE273 GE283) hb)
           clear BK262
           clear BK263
           clear BK272
           clear BK273
           clear BK283
           clear HB
           have BK262 := n0_
           have BK263 := n1_
           have BK272 := n2_
           have BK273 := n3_
           have BK283 := n4_
           have HB := n5_
           clear n0_ n1_ n2_ n3_ n4_ n5_
           (try clear hb)
           (try clear hb2)
           (try clear hk)
           (try clear hi)
           refine hK.out _ _ ⟨bc BK262 0, bc BK262 1, bc BK263 0, bc BK263 1⟩ (fun hHeld => ?_)
           clear hK K
           refine norm_ (a' := ?_) ?_ ?_
           rotate_left
           ·show Act.put _ (some 26) _ = _
            simp only [Act.put, List.setIfInBounds_toArray, List.set_cons_zero, List.set_cons_succ, i64_w, i32_w]
            rfl
           refine pure_ (i := 6) (N := some 20) (v := ?_) (a' := ?_) #[T, T, T, T, T, T, T, F, F, F, T, F, F] rfl rfl (any_of HT_.out (by kernel_rfl)) (fun _ _ _ h => h) (Or.inl ⟨by rfl, ?_⟩) ?_ ?_
           rotate_left
           ·exact gz
           rotate_left
           ·exact pz
           refine pure_ (i := 7) (N := some 27) (v := ?_) (a' := ?_) #[T, T, T, T, T, T, T, T, F, F, T, F, F] rfl rfl (any_of HT_.out (by kernel_rfl)) (fun _ _ _ h => h) (Or.inl ⟨by rfl, ?_⟩) ?_ ?_
           rotate_left
           ·exact gz
           rotate_left
           ·exact pz
           refine pure_ (i := 8) (N := some 28) (v := ?_) (a' := ?_) #[T, T, T, T, T, T, T, T, T, F, T, F, F] rfl rfl (any_of HT_.out (by kernel_rfl)) (fun _ _ _ h => h) (Or.inl ⟨by rfl, ?_⟩) ?_ ?_
           rotate_left
           ·exact gz
           rotate_left
           ·exact pz
           exact norm_ nz (hJ2_4_5_10 (gb283) _ ⟨hHeld, (Z BK262), (Z BK263), (Z BK272), (Z BK273), (Z BK283), GW283.out, GE283.out, NB262_283.out, NB283_262.out, NB263_283.out, NB283_263.out, NB272_283.out, NB283_272.out, NB273_283.out, NB283_273.out, (Y5 HB GE262 GE263 GE272 GE273 GE283)⟩)
          ·skip
           refine box_step ?hg (N := 9) ?hd (cs := #[.int .i64 0, .int .i64 0]) (t := 24) ?hr ?_; (case hd => rfl); (case hg => rfl); (case hr => first | (go_simp; done) | (go_simp; rfl))
           intro gb282 hg w33 hbox hb
           have n0_ := am (blk_below (g := gb262) (o := b2 a1_0 a1_1 23) (Z BK262) hb)
           have n1_ := am (blk_below (g := gb263) (o := b2 a2_0 a2_1 23) (Z BK263) hb)
           have n2_ := am (blk_below (g := gb272) (o := b2 t268 t269 24) (Z BK272) hb)
           have n3_ := am (blk_below (g := gb273) (o := b2 t270 t271 24) (Z BK273) hb)
           have n4_ := am (blk_below (g := gb283) (o := b2 0 0 24) (Z BK283) hb)
           have n5_ := am (below_step (Y5 HB GE262 GE263 GE272 GE273 GE283) hb)
           have n6_ := am (hbox)
           have n7_ := am ((by rw [hg]; exact (below_size (Y5 HB GE262 GE263 GE272 GE273 GE283)) : w.heap.size ≤ gb282))
           have n8_ := am ((by rw [hg]; exact (below_size (Y5 HB GE262 GE263 GE272 GE273 GE283)) : w.heap.size ≤ gb282))
           have n9_ := am ((nl (o := b2 a1_0 a1_1 23) hg (Z BK262) : gb262 ≠ gb282))
           have n10_ := am ((ng (o := b2 a1_0 a1_1 23) hg (Z BK262) : gb282 ≠ gb262))
           have n11_ := am ((nl (o := b2 a2_0 a2_1 23) hg (Z BK263) : gb263 ≠ gb282))
           have n12_ := am ((ng (o := b2 a2_0 a2_1 23) hg (Z BK263) : gb282 ≠ gb263))
           have n13_ := am ((nl (o := b2 t268 t269 24) hg (Z BK272) : gb272 ≠ gb282))
           have n14_ := am ((ng (o := b2 t268 t269 24) hg (Z BK272) : gb282 ≠ gb272))
           have n15_ := am ((nl (o := b2 t270 t271 24) hg (Z BK273) : gb273 ≠ gb282))
           have n16_ := am ((ng (o := b2 t270 t271 24) hg (Z BK273) : gb282 ≠ gb273))
           have n17_ := am ((nl (o := b2 0 0 24) hg (Z BK283) : gb283 ≠ gb282))
           have n18_ := am ((ng (o := b2 0 0 24) hg (Z BK283) : gb282 ≠ gb283))
           clear BK262
           clear BK263
           clear BK272
           clear BK273
           clear BK283
           clear HB
           have BK262 := n0_
           have BK263 := n1_
           have BK272 := n2_
           have BK273 := n3_
           have BK283 := n4_
           have HB := n5_
           have BK282 := n6_
           have GW282 := n7_
           have GE282 := n8_
           have NB262_282 := n9_
           have NB282_262 := n10_
           have NB263_282 := n11_
           have NB282_263 := n12_
           have NB272_282 := n13_
           have NB282_272 := n14_
           have NB273_282 := n15_
           have NB282_273 := n16_
           have NB283_282 := n17_
           have NB282_283 := n18_
           clear n0_ n1_ n2_ n3_ n4_ n5_ n6_ n7_ n8_ n9_ n10_ n11_ n12_ n13_ n14_ n15_ n16_ n17_ n18_
           clear hb hbox hg
           refine hK.out _ _ ⟨bc BK262 0, bc BK262 1, bc BK263 0, bc BK263 1⟩ (fun hHeld => ?_)
           clear hK K
           refine norm_ (a' := ?_) ?_ ?_
           rotate_left
           ·show Act.put _ (some 9) _ = _
            simp only [Act.put, List.setIfInBounds_toArray, List.set_cons_zero, List.set_cons_succ, i64_w, i32_w]
            rfl
           exact norm_ nz (hJ2_4_9_10 (gb282, gb283) _ ⟨hHeld, (Z BK262), (Z BK263), (Z BK272), (Z BK273), (Z BK282), (Z BK283), GW282.out, GE282.out, NB262_282.out, NB282_262.out, NB263_282.out, NB282_263.out, NB272_282.out, NB282_272.out, NB273_282.out, NB282_273.out, NB283_282.out, NB282_283.out, GW283.out, GE283.out, NB262_283.out, NB283_262.out, NB263_283.out, NB283_263.out, NB272_283.out, NB283_272.out, NB273_283.out, NB283_273.out, (Y6 HB GE262 GE263 GE272 GE273 GE283 GE282)⟩)
        ·skip
         rintro gb282 w32 ⟨hS_, h0_, h1_, h2_, h3_, h4_, h5_, h6_, h7_, h8_, h9_, h10_, h11_, h12_, h13_, h14_, h15_⟩
         have n0_ : Aside0 (w32.heap[gb262]? = some (.cells #[.int .i64 a1_0, .int .i64 a1_1] 23 (0, 0))) := ⟨h0_⟩
         have n1_ : Aside0 (w32.heap[gb263]? = some (.cells #[.int .i64 a2_0, .int .i64 a2_1] 23 (0, 0))) := ⟨h1_⟩
         have n2_ : Aside0 (w32.heap[gb272]? = some (.cells #[.int .i64 t268, .int .i64 t269] 24 (0, 0))) := ⟨h2_⟩
         have n3_ : Aside0 (w32.heap[gb273]? = some (.cells #[.int .i64 t270, .int .i64 t271] 24 (0, 0))) := ⟨h3_⟩
         have n4_ : Aside0 (w32.heap[gb282]? = some (.cells #[.int .i64 0, .int .i64 0] 24 (0, 0))) := ⟨h4_⟩
         have n5_ : Aside0 (w.heap.size ≤ gb282) := ⟨h5_⟩
         have n6_ : Aside0 (w.heap.size ≤ gb282) := ⟨h6_⟩
         have n7_ : Aside0 (gb262 ≠ gb282) := ⟨h7_⟩
         have n8_ : Aside0 (gb282 ≠ gb262) := ⟨h8_⟩
         have n9_ : Aside0 (gb263 ≠ gb282) := ⟨h9_⟩
         have n10_ : Aside0 (gb282 ≠ gb263) := ⟨h10_⟩
         have n11_ : Aside0 (gb272 ≠ gb282) := ⟨h11_⟩
         have n12_ : Aside0 (gb282 ≠ gb272) := ⟨h12_⟩
         have n13_ : Aside0 (gb273 ≠ gb282) := ⟨h13_⟩
         have n14_ : Aside0 (gb282 ≠ gb273) := ⟨h14_⟩
         have n15_ : Aside0 (Below w.heap.size w w32) := ⟨h15_⟩
         clear BK262
         clear BK263
         clear BK272
         clear BK273
         clear HB
         clear h0_ h1_ h2_ h3_ h4_ h5_ h6_ h7_ h8_ h9_ h10_ h11_ h12_ h13_ h14_ h15_
         have BK262 := n0_
         have BK263 := n1_
         have BK272 := n2_
         have BK273 := n3_
         have BK282 := n4_
         have GW282 := n5_
         have GE282 := n6_
         have NB262_282 := n7_
         have NB282_262 := n8_
         have NB263_282 := n9_
         have NB282_263 := n10_
         have NB272_282 := n11_
         have NB282_272 := n12_
         have NB273_282 := n13_
         have NB282_273 := n14_
         have HB := n15_
         clear n0_ n1_ n2_ n3_ n4_ n5_ n6_ n7_ n8_ n9_ n10_ n11_ n12_ n13_ n14_ n15_
         have hHeld : w32.cell? ⟨gb262, 0, none⟩ = some (.int .i64 a1_0) ∧ w32.cell? ⟨gb262, 1, none⟩ = some (.int .i64 a1_1) ∧ w32.cell? ⟨gb263, 0, none⟩ = some (.int .i64 a2_0) ∧ w32.cell? ⟨gb263, 1, none⟩ = some (.int .i64 a2_1) := hS_
         refine norm_ (a' := ?_) ?_ ?_
         rotate_left
         ·simp only [putAll, Act.put, List.setIfInBounds_toArray, List.set_cons_zero, List.set_cons_succ]
          rfl
         refine two_ (i := 5) (j := 10) (Ni := some 26) (Nj := some 10) #[T, T, T, T, T, T, F, F, F, T, F, F, F] #[T, T, T, T, T, F, F, F, F, T, T, F, F] rfl rfl rfl rfl (two_of HT_.out (by kernel_rfl)) (by decide) (by decide) (fun K hK => ?_) (fun K hK => ?_)
         ·skip
          refine goes_ Try.func26 (by kernel_rfl) rfl #[.int .i64 a0, .agg #[.int .i64 t274, .int .i64 t275], .agg #[.int .i64 t276, .int .i64 t277]] (by rfl) rfl rfl mz ?_
          with_reducible refine (impl_RangeCmp.calls k a0 t274 t275 t276 t277 t278 t279 t280 t281 _ A9.out).mono ?_
          rintro e w33 ⟨rfl, hb⟩
          refine ⟨_, rfl, ?_⟩
          have n0_ := am (blk_below (g := gb262) (o := b2 a1_0 a1_1 23) (Z BK262) hb)
          have n1_ := am (blk_below (g := gb263) (o := b2 a2_0 a2_1 23) (Z BK263) hb)
          have n2_ := am (blk_below (g := gb272) (o := b2 t268 t269 24) (Z BK272) hb)
          have n3_ := am (blk_below (g := gb273) (o := b2 t270 t271 24) (Z BK273) hb)
          have n4_ := am (blk_below (g := gb282) (o := b2 0 0 24) (Z BK282) hb)
          have n5_ := am (below_step (Y5 HB GE262 GE263 GE272 GE273 GE282) hb)
          clear BK262
          clear BK263
          clear BK272
          clear BK273
          clear BK282
          clear HB
          have BK262 := n0_
          have BK263 := n1_
          have BK272 := n2_
          have BK273 := n3_
          have BK282 := n4_
          have HB := n5_
          clear n0_ n1_ n2_ n3_ n4_ n5_
          (try clear hb)
          (try clear hb2)
          (try clear hk)
          (try clear hi)
          refine hK.out _ _ ⟨bc BK262 0, bc BK262 1, bc BK263 0, bc BK263 1⟩ (fun hHeld => ?_)
          clear hK K
          refine norm_ (a' := ?_) ?_ ?_
          rotate_left
          ·show Act.put _ (some 26) _ = _
           simp only [Act.put, List.setIfInBounds_toArray, List.set_cons_zero, List.set_cons_succ, i64_w, i32_w]
           rfl
          refine pure_ (i := 6) (N := some 20) (v := ?_) (a' := ?_) #[T, T, T, T, T, T, T, F, F, T, F, F, F] rfl rfl (any_of HT_.out (by kernel_rfl)) (fun _ _ _ h => h) (Or.inl ⟨by rfl, ?_⟩) ?_ ?_
          rotate_left
          ·exact gz
          rotate_left
          ·exact pz
          refine pure_ (i := 7) (N := some 27) (v := ?_) (a' := ?_) #[T, T, T, T, T, T, T, T, F, T, F, F, F] rfl rfl (any_of HT_.out (by kernel_rfl)) (fun _ _ _ h => h) (Or.inl ⟨by rfl, ?_⟩) ?_ ?_
          rotate_left
          ·exact gz
          rotate_left
          ·exact pz
          refine pure_ (i := 8) (N := some 28) (v := ?_) (a' := ?_) #[T, T, T, T, T, T, T, T, T, T, F, F, F] rfl rfl (any_of HT_.out (by kernel_rfl)) (fun _ _ _ h => h) (Or.inl ⟨by rfl, ?_⟩) ?_ ?_
          rotate_left
          ·exact gz
          rotate_left
          ·exact pz
          exact norm_ nz (hJ2_4_5_9 (gb282) _ ⟨hHeld, (Z BK262), (Z BK263), (Z BK272), (Z BK273), (Z BK282), GW282.out, GE282.out, NB262_282.out, NB282_262.out, NB263_282.out, NB282_263.out, NB272_282.out, NB282_272.out, NB273_282.out, NB282_273.out, (Y5 HB GE262 GE263 GE272 GE273 GE282)⟩)
         ·skip
          refine box_step ?hg (N := 10) ?hd (cs := #[.int .i64 0, .int .i64 0]) (t := 24) ?hr ?_; (case hd => rfl); (case hg => rfl); (case hr => first | (go_simp; done) | (go_simp; rfl))
          intro gb283 hg w33 hbox hb
          have n0_ := am (blk_below (g := gb262) (o := b2 a1_0 a1_1 23) (Z BK262) hb)
          have n1_ := am (blk_below (g := gb263) (o := b2 a2_0 a2_1 23) (Z BK263) hb)
          have n2_ := am (blk_below (g := gb272) (o := b2 t268 t269 24) (Z BK272) hb)
          have n3_ := am (blk_below (g := gb273) (o := b2 t270 t271 24) (Z BK273) hb)
          have n4_ := am (blk_below (g := gb282) (o := b2 0 0 24) (Z BK282) hb)
          have n5_ := am (below_step (Y5 HB GE262 GE263 GE272 GE273 GE282) hb)
          have n6_ := am (hbox)
          have n7_ := am ((by rw [hg]; exact (below_size (Y5 HB GE262 GE263 GE272 GE273 GE282)) : w.heap.size ≤ gb283))
          have n8_ := am ((by rw [hg]; exact (below_size (Y5 HB GE262 GE263 GE272 GE273 GE282)) : w.heap.size ≤ gb283))
          have n9_ := am ((nl (o := b2 a1_0 a1_1 23) hg (Z BK262) : gb262 ≠ gb283))
          have n10_ := am ((ng (o := b2 a1_0 a1_1 23) hg (Z BK262) : gb283 ≠ gb262))
          have n11_ := am ((nl (o := b2 a2_0 a2_1 23) hg (Z BK263) : gb263 ≠ gb283))
          have n12_ := am ((ng (o := b2 a2_0 a2_1 23) hg (Z BK263) : gb283 ≠ gb263))
          have n13_ := am ((nl (o := b2 t268 t269 24) hg (Z BK272) : gb272 ≠ gb283))
          have n14_ := am ((ng (o := b2 t268 t269 24) hg (Z BK272) : gb283 ≠ gb272))
          have n15_ := am ((nl (o := b2 t270 t271 24) hg (Z BK273) : gb273 ≠ gb283))
          have n16_ := am ((ng (o := b2 t270 t271 24) hg (Z BK273) : gb283 ≠ gb273))
          have n17_ := am ((nl (o := b2 0 0 24) hg (Z BK282) : gb282 ≠ gb283))
          have n18_ := am ((ng (o := b2 0 0 24) hg (Z BK282) : gb283 ≠ gb282))
          clear BK262
          clear BK263
          clear BK272
          clear BK273
          clear BK282
          clear HB
          have BK262 := n0_
          have BK263 := n1_
          have BK272 := n2_
          have BK273 := n3_
          have BK282 := n4_
          have HB := n5_
          have BK283 := n6_
          have GW283 := n7_
          have GE283 := n8_
          have NB262_283 := n9_
          have NB283_262 := n10_
          have NB263_283 := n11_
          have NB283_263 := n12_
          have NB272_283 := n13_
          have NB283_272 := n14_
          have NB273_283 := n15_
          have NB283_273 := n16_
          have NB282_283 := n17_
          have NB283_282 := n18_
          clear n0_ n1_ n2_ n3_ n4_ n5_ n6_ n7_ n8_ n9_ n10_ n11_ n12_ n13_ n14_ n15_ n16_ n17_ n18_
          clear hb hbox hg
          refine hK.out _ _ ⟨bc BK262 0, bc BK262 1, bc BK263 0, bc BK263 1⟩ (fun hHeld => ?_)
          clear hK K
          refine norm_ (a' := ?_) ?_ ?_
          rotate_left
          ·show Act.put _ (some 10) _ = _
           simp only [Act.put, List.setIfInBounds_toArray, List.set_cons_zero, List.set_cons_succ, i64_w, i32_w]
           rfl
          exact norm_ nz (hJ2_4_9_10 (gb282, gb283) _ ⟨hHeld, (Z BK262), (Z BK263), (Z BK272), (Z BK273), (Z BK282), (Z BK283), GW282.out, GE282.out, NB262_282.out, NB282_262.out, NB263_282.out, NB282_263.out, NB272_282.out, NB282_272.out, NB273_282.out, NB282_273.out, NB283_282.out, NB282_283.out, GW283.out, GE283.out, NB262_283.out, NB283_262.out, NB263_283.out, NB283_263.out, NB272_283.out, NB283_272.out, NB273_283.out, NB283_273.out, (Y6 HB GE262 GE263 GE272 GE273 GE282 GE283)⟩)
       ·skip
        rintro _ w32 ⟨hS_, h0_, h1_, h2_, h3_, h4_⟩
        have n0_ : Aside0 (w32.heap[gb262]? = some (.cells #[.int .i64 a1_0, .int .i64 a1_1] 23 (0, 0))) := ⟨h0_⟩
        have n1_ : Aside0 (w32.heap[gb263]? = some (.cells #[.int .i64 a2_0, .int .i64 a2_1] 23 (0, 0))) := ⟨h1_⟩
        have n2_ : Aside0 (w32.heap[gb272]? = some (.cells #[.int .i64 t268, .int .i64 t269] 24 (0, 0))) := ⟨h2_⟩
        have n3_ : Aside0 (w32.heap[gb273]? = some (.cells #[.int .i64 t270, .int .i64 t271] 24 (0, 0))) := ⟨h3_⟩
        have n4_ : Aside0 (Below w.heap.size w w32) := ⟨h4_⟩
        clear BK262
        clear BK263
        clear BK272
        clear BK273
        clear HB
        clear h0_ h1_ h2_ h3_ h4_
        have BK262 := n0_
        have BK263 := n1_
        have BK272 := n2_
        have BK273 := n3_
        have HB := n4_
        clear n0_ n1_ n2_ n3_ n4_
        have hHeld : w32.cell? ⟨gb262, 0, none⟩ = some (.int .i64 a1_0) ∧ w32.cell? ⟨gb262, 1, none⟩ = some (.int .i64 a1_1) ∧ w32.cell? ⟨gb263, 0, none⟩ = some (.int .i64 a2_0) ∧ w32.cell? ⟨gb263, 1, none⟩ = some (.int .i64 a2_1) := hS_
        refine norm_ (a' := ?_) ?_ ?_
        rotate_left
        ·simp only [putAll, Act.put, List.setIfInBounds_toArray, List.set_cons_zero, List.set_cons_succ]
         rfl
        refine two_ (i := 9) (j := 10) (Ni := some 9) (Nj := some 10) #[T, T, T, T, T, T, T, T, T, T, F, F, F] #[T, T, T, T, T, T, T, T, T, F, T, F, F] rfl rfl rfl rfl (two_of HT_.out (by kernel_rfl)) (by decide) (by decide) (fun K hK => ?_) (fun K hK => ?_)
        ·skip
         refine box_step ?hg (N := 9) ?hd (cs := #[.int .i64 0, .int .i64 0]) (t := 24) ?hr ?_; (case hd => rfl); (case hg => rfl); (case hr => first | (go_simp; done) | (go_simp; rfl))
         intro gb282 hg w33 hbox hb
         have n0_ := am (blk_below (g := gb262) (o := b2 a1_0 a1_1 23) (Z BK262) hb)
         have n1_ := am (blk_below (g := gb263) (o := b2 a2_0 a2_1 23) (Z BK263) hb)
         have n2_ := am (blk_below (g := gb272) (o := b2 t268 t269 24) (Z BK272) hb)
         have n3_ := am (blk_below (g := gb273) (o := b2 t270 t271 24) (Z BK273) hb)
         have n4_ := am (below_step (Y4 HB GE262 GE263 GE272 GE273) hb)
         have n5_ := am (hbox)
         have n6_ := am ((by rw [hg]; exact (below_size (Y4 HB GE262 GE263 GE272 GE273)) : w.heap.size ≤ gb282))
         have n7_ := am ((by rw [hg]; exact (below_size (Y4 HB GE262 GE263 GE272 GE273)) : w.heap.size ≤ gb282))
         have n8_ := am ((nl (o := b2 a1_0 a1_1 23) hg (Z BK262) : gb262 ≠ gb282))
         have n9_ := am ((ng (o := b2 a1_0 a1_1 23) hg (Z BK262) : gb282 ≠ gb262))
         have n10_ := am ((nl (o := b2 a2_0 a2_1 23) hg (Z BK263) : gb263 ≠ gb282))
         have n11_ := am ((ng (o := b2 a2_0 a2_1 23) hg (Z BK263) : gb282 ≠ gb263))
         have n12_ := am ((nl (o := b2 t268 t269 24) hg (Z BK272) : gb272 ≠ gb282))
         have n13_ := am ((ng (o := b2 t268 t269 24) hg (Z BK272) : gb282 ≠ gb272))
         have n14_ := am ((nl (o := b2 t270 t271 24) hg (Z BK273) : gb273 ≠ gb282))
         have n15_ := am ((ng (o := b2 t270 t271 24) hg (Z BK273) : gb282 ≠ gb273))
         clear BK262
         clear BK263
         clear BK272
         clear BK273
         clear HB
         have BK262 := n0_
         have BK263 := n1_
         have BK272 := n2_
         have BK273 := n3_
         have HB := n4_
         have BK282 := n5_
         have GW282 := n6_
         have GE282 := n7_
         have NB262_282 := n8_
         have NB282_262 := n9_
         have NB263_282 := n10_
         have NB282_263 := n11_
         have NB272_282 := n12_
         have NB282_272 := n13_
         have NB273_282 := n14_
         have NB282_273 := n15_
         clear n0_ n1_ n2_ n3_ n4_ n5_ n6_ n7_ n8_ n9_ n10_ n11_ n12_ n13_ n14_ n15_
         clear hb hbox hg
         refine hK.out _ _ ⟨bc BK262 0, bc BK262 1, bc BK263 0, bc BK263 1⟩ (fun hHeld => ?_)
         clear hK K
         refine norm_ (a' := ?_) ?_ ?_
         rotate_left
         ·show Act.put _ (some 9) _ = _
          simp only [Act.put, List.setIfInBounds_toArray, List.set_cons_zero, List.set_cons_succ, i64_w, i32_w]
          rfl
         exact norm_ nz (hJ2_4_5_9 (gb282) _ ⟨hHeld, (Z BK262), (Z BK263), (Z BK272), (Z BK273), (Z BK282), GW282.out, GE282.out, NB262_282.out, NB282_262.out, NB263_282.out, NB282_263.out, NB272_282.out, NB282_272.out, NB273_282.out, NB282_273.out, (Y5 HB GE262 GE263 GE272 GE273 GE282)⟩)
        ·skip
         refine box_step ?hg (N := 10) ?hd (cs := #[.int .i64 0, .int .i64 0]) (t := 24) ?hr ?_; (case hd => rfl); (case hg => rfl); (case hr => first | (go_simp; done) | (go_simp; rfl))
         intro gb283 hg w33 hbox hb
         have n0_ := am (blk_below (g := gb262) (o := b2 a1_0 a1_1 23) (Z BK262) hb)
         have n1_ := am (blk_below (g := gb263) (o := b2 a2_0 a2_1 23) (Z BK263) hb)
         have n2_ := am (blk_below (g := gb272) (o := b2 t268 t269 24) (Z BK272) hb)
         have n3_ := am (blk_below (g := gb273) (o := b2 t270 t271 24) (Z BK273) hb)
         have n4_ := am (below_step (Y4 HB GE262 GE263 GE272 GE273) hb)
         have n5_ := am (hbox)
         have n6_ := am ((by rw [hg]; exact (below_size (Y4 HB GE262 GE263 GE272 GE273)) : w.heap.size ≤ gb283))
         have n7_ := am ((by rw [hg]; exact (below_size (Y4 HB GE262 GE263 GE272 GE273)) : w.heap.size ≤ gb283))
         have n8_ := am ((nl (o := b2 a1_0 a1_1 23) hg (Z BK262) : gb262 ≠ gb283))
         have n9_ := am ((ng (o := b2 a1_0 a1_1 23) hg (Z BK262) : gb283 ≠ gb262))
         have n10_ := am ((nl (o := b2 a2_0 a2_1 23) hg (Z BK263) : gb263 ≠ gb283))
         have n11_ := am ((ng (o := b2 a2_0 a2_1 23) hg (Z BK263) : gb283 ≠ gb263))
         have n12_ := am ((nl (o := b2 t268 t269 24) hg (Z BK272) : gb272 ≠ gb283))
         have n13_ := am ((ng (o := b2 t268 t269 24) hg (Z BK272) : gb283 ≠ gb272))
         have n14_ := am ((nl (o := b2 t270 t271 24) hg (Z BK273) : gb273 ≠ gb283))
         have n15_ := am ((ng (o := b2 t270 t271 24) hg (Z BK273) : gb283 ≠ gb273))
         clear BK262
         clear BK263
         clear BK272
         clear BK273
         clear HB
         have BK262 := n0_
         have BK263 := n1_
         have BK272 := n2_
         have BK273 := n3_
         have HB := n4_
         have BK283 := n5_
         have GW283 := n6_
         have GE283 := n7_
         have NB262_283 := n8_
         have NB283_262 := n9_
         have NB263_283 := n10_
         have NB283_263 := n11_
         have NB272_283 := n12_
         have NB283_272 := n13_
         have NB273_283 := n14_
         have NB283_273 := n15_
         clear n0_ n1_ n2_ n3_ n4_ n5_ n6_ n7_ n8_ n9_ n10_ n11_ n12_ n13_ n14_ n15_
         clear hb hbox hg
         refine hK.out _ _ ⟨bc BK262 0, bc BK262 1, bc BK263 0, bc BK263 1⟩ (fun hHeld => ?_)
         clear hK K
         refine norm_ (a' := ?_) ?_ ?_
         rotate_left
         ·show Act.put _ (some 10) _ = _
          simp only [Act.put, List.setIfInBounds_toArray, List.set_cons_zero, List.set_cons_succ, i64_w, i32_w]
          rfl
         exact norm_ nz (hJ2_4_5_10 (gb283) _ ⟨hHeld, (Z BK262), (Z BK263), (Z BK272), (Z BK273), (Z BK283), GW283.out, GE283.out, NB262_283.out, NB283_262.out, NB263_283.out, NB283_263.out, NB272_283.out, NB283_272.out, NB273_283.out, NB283_273.out, (Y5 HB GE262 GE263 GE272 GE273 GE283)⟩)
      ·skip
       rintro ⟨gb282, gb283⟩ w33 ⟨hS_, h0_, h1_, h2_, h3_, h4_, h5_, h6_, h7_, h8_, h9_, h10_, h11_, h12_, h13_, h14_, h15_, h16_, h17_, h18_, h19_, h20_, h21_, h22_, h23_, h24_, h25_, h26_, h27_, h28_⟩
       have n0_ : Aside0 (w33.heap[gb262]? = some (.cells #[.int .i64 a1_0, .int .i64 a1_1] 23 (0, 0))) := ⟨h0_⟩
       have n1_ : Aside0 (w33.heap[gb263]? = some (.cells #[.int .i64 a2_0, .int .i64 a2_1] 23 (0, 0))) := ⟨h1_⟩
       have n2_ : Aside0 (w33.heap[gb272]? = some (.cells #[.int .i64 t268, .int .i64 t269] 24 (0, 0))) := ⟨h2_⟩
       have n3_ : Aside0 (w33.heap[gb273]? = some (.cells #[.int .i64 t270, .int .i64 t271] 24 (0, 0))) := ⟨h3_⟩
       have n4_ : Aside0 (w33.heap[gb282]? = some (.cells #[.int .i64 0, .int .i64 0] 24 (0, 0))) := ⟨h4_⟩
       have n5_ : Aside0 (w33.heap[gb283]? = some (.cells #[.int .i64 0, .int .i64 0] 24 (0, 0))) := ⟨h5_⟩
       have n6_ : Aside0 (w.heap.size ≤ gb282) := ⟨h6_⟩
       have n7_ : Aside0 (w.heap.size ≤ gb282) := ⟨h7_⟩
       have n8_ : Aside0 (gb262 ≠ gb282) := ⟨h8_⟩
       have n9_ : Aside0 (gb282 ≠ gb262) := ⟨h9_⟩
       have n10_ : Aside0 (gb263 ≠ gb282) := ⟨h10_⟩
       have n11_ : Aside0 (gb282 ≠ gb263) := ⟨h11_⟩
       have n12_ : Aside0 (gb272 ≠ gb282) := ⟨h12_⟩
       have n13_ : Aside0 (gb282 ≠ gb272) := ⟨h13_⟩
       have n14_ : Aside0 (gb273 ≠ gb282) := ⟨h14_⟩
       have n15_ : Aside0 (gb282 ≠ gb273) := ⟨h15_⟩
       have n16_ : Aside0 (gb283 ≠ gb282) := ⟨h16_⟩
       have n17_ : Aside0 (gb282 ≠ gb283) := ⟨h17_⟩
       have n18_ : Aside0 (w.heap.size ≤ gb283) := ⟨h18_⟩
       have n19_ : Aside0 (w.heap.size ≤ gb283) := ⟨h19_⟩
       have n20_ : Aside0 (gb262 ≠ gb283) := ⟨h20_⟩
       have n21_ : Aside0 (gb283 ≠ gb262) := ⟨h21_⟩
       have n22_ : Aside0 (gb263 ≠ gb283) := ⟨h22_⟩
       have n23_ : Aside0 (gb283 ≠ gb263) := ⟨h23_⟩
       have n24_ : Aside0 (gb272 ≠ gb283) := ⟨h24_⟩
       have n25_ : Aside0 (gb283 ≠ gb272) := ⟨h25_⟩
       have n26_ : Aside0 (gb273 ≠ gb283) := ⟨h26_⟩
       have n27_ : Aside0 (gb283 ≠ gb273) := ⟨h27_⟩
       have n28_ : Aside0 (Below w.heap.size w w33) := ⟨h28_⟩
       clear BK262
       clear BK263
       clear BK272
       clear BK273
       clear HB
       clear h0_ h1_ h2_ h3_ h4_ h5_ h6_ h7_ h8_ h9_ h10_ h11_ h12_ h13_ h14_ h15_ h16_ h17_ h18_ h19_ h20_ h21_ h22_ h23_ h24_ h25_ h26_ h27_ h28_
       have BK262 := n0_
       have BK263 := n1_
       have BK272 := n2_
       have BK273 := n3_
       have BK282 := n4_
       have BK283 := n5_
       have GW282 := n6_
       have GE282 := n7_
       have NB262_282 := n8_
       have NB282_262 := n9_
       have NB263_282 := n10_
       have NB282_263 := n11_
       have NB272_282 := n12_
       have NB282_272 := n13_
       have NB273_282 := n14_
       have NB282_273 := n15_
       have NB283_282 := n16_
       have NB282_283 := n17_
       have GW283 := n18_
       have GE283 := n19_
       have NB262_283 := n20_
       have NB283_262 := n21_
       have NB263_283 := n22_
       have NB283_263 := n23_
       have NB272_283 := n24_
       have NB283_272 := n25_
       have NB273_283 := n26_
       have NB283_273 := n27_
       have HB := n28_
       clear n0_ n1_ n2_ n3_ n4_ n5_ n6_ n7_ n8_ n9_ n10_ n11_ n12_ n13_ n14_ n15_ n16_ n17_ n18_ n19_ n20_ n21_ n22_ n23_ n24_ n25_ n26_ n27_ n28_
       have hHeld : w33.cell? ⟨gb262, 0, none⟩ = some (.int .i64 a1_0) ∧ w33.cell? ⟨gb262, 1, none⟩ = some (.int .i64 a1_1) ∧ w33.cell? ⟨gb263, 0, none⟩ = some (.int .i64 a2_0) ∧ w33.cell? ⟨gb263, 1, none⟩ = some (.int .i64 a2_1) := hS_
       refine norm_ (a' := ?_) ?_ ?_
       rotate_left
       ·simp only [putAll, Act.put, List.setIfInBounds_toArray, List.set_cons_zero, List.set_cons_succ]
        rfl
       refine one_ (i := 5) (N := some 26) #[T, T, T, T, T, T, F, F, F, T, T, F, F] rfl rfl (one_of HT_.out (by kernel_rfl)) (by decide) (fun K hK => ?_)
       refine goes_ Try.func26 (by kernel_rfl) rfl #[.int .i64 a0, .agg #[.int .i64 t274, .int .i64 t275], .agg #[.int .i64 t276, .int .i64 t277]] (by rfl) rfl rfl mz ?_
       with_reducible refine (impl_RangeCmp.calls k a0 t274 t275 t276 t277 t278 t279 t280 t281 _ A9.out).mono ?_
       rintro e w34 ⟨rfl, hb⟩
       refine ⟨_, rfl, ?_⟩
       have n0_ := am (blk_below (g := gb262) (o := b2 a1_0 a1_1 23) (Z BK262) hb)
       have n1_ := am (blk_below (g := gb263) (o := b2 a2_0 a2_1 23) (Z BK263) hb)
       have n2_ := am (blk_below (g := gb272) (o := b2 t268 t269 24) (Z BK272) hb)
       have n3_ := am (blk_below (g := gb273) (o := b2 t270 t271 24) (Z BK273) hb)
       have n4_ := am (blk_below (g := gb282) (o := b2 0 0 24) (Z BK282) hb)
       have n5_ := am (blk_below (g := gb283) (o := b2 0 0 24) (Z BK283) hb)
       have n6_ := am (below_step (Y6 HB GE262 GE263 GE272 GE273 GE282 GE283) hb)
       clear BK262
       clear BK263
       clear BK272
       clear BK273
       clear BK282
       clear BK283
       clear HB
       have BK262 := n0_
       have BK263 := n1_
       have BK272 := n2_
       have BK273 := n3_
       have BK282 := n4_
       have BK283 := n5_
       have HB := n6_
       clear n0_ n1_ n2_ n3_ n4_ n5_ n6_
       (try clear hb)
       (try clear hb2)
       (try clear hk)
       (try clear hi)
       refine hK.out _ _ ⟨bc BK262 0, bc BK262 1, bc BK263 0, bc BK263 1⟩ (fun hHeld => ?_)
       clear hK K
       refine norm_ (a' := ?_) ?_ ?_
       rotate_left
       ·show Act.put _ (some 26) _ = _
        simp only [Act.put, List.setIfInBounds_toArray, List.set_cons_zero, List.set_cons_succ, i64_w, i32_w]
        rfl
       refine pure_ (i := 6) (N := some 20) (v := ?_) (a' := ?_) #[T, T, T, T, T, T, T, F, F, T, T, F, F] rfl rfl (any_of HT_.out (by kernel_rfl)) (fun _ _ _ h => h) (Or.inl ⟨by rfl, ?_⟩) ?_ ?_
       rotate_left
       ·exact gz
       rotate_left
       ·exact pz
       refine pure_ (i := 7) (N := some 27) (v := ?_) (a' := ?_) #[T, T, T, T, T, T, T, T, F, T, T, F, F] rfl rfl (any_of HT_.out (by kernel_rfl)) (fun _ _ _ h => h) (Or.inl ⟨by rfl, ?_⟩) ?_ ?_
       rotate_left
       ·exact gz
       rotate_left
       ·exact pz
       refine pure_ (i := 8) (N := some 28) (v := ?_) (a' := ?_) #[T, T, T, T, T, T, T, T, T, T, T, F, F] rfl rfl (any_of HT_.out (by kernel_rfl)) (fun _ _ _ h => h) (Or.inl ⟨by rfl, ?_⟩) ?_ ?_
       rotate_left
       ·exact gz
       rotate_left
       ·exact pz
       exact norm_ nz (hJ2_4_5_9_10 (gb282, gb283) _ ⟨hHeld, (Z BK262), (Z BK263), (Z BK272), (Z BK273), (Z BK282), (Z BK283), GW282.out, GE282.out, NB262_282.out, NB282_262.out, NB263_282.out, NB282_263.out, NB272_282.out, NB282_272.out, NB273_282.out, NB282_273.out, NB283_282.out, NB282_283.out, GW283.out, GE283.out, NB262_283.out, NB283_262.out, NB263_283.out, NB283_263.out, NB272_283.out, NB283_272.out, NB273_283.out, NB283_273.out, (Y6 HB GE262 GE263 GE272 GE273 GE282 GE283)⟩)
     ·skip
      rintro gb283 w33 ⟨hS_, h0_, h1_, h2_, h3_, h4_, h5_, h6_, h7_, h8_, h9_, h10_, h11_, h12_, h13_, h14_, h15_⟩
      have n0_ : Aside0 (w33.heap[gb262]? = some (.cells #[.int .i64 a1_0, .int .i64 a1_1] 23 (0, 0))) := ⟨h0_⟩
      have n1_ : Aside0 (w33.heap[gb263]? = some (.cells #[.int .i64 a2_0, .int .i64 a2_1] 23 (0, 0))) := ⟨h1_⟩
      have n2_ : Aside0 (w33.heap[gb272]? = some (.cells #[.int .i64 t268, .int .i64 t269] 24 (0, 0))) := ⟨h2_⟩
      have n3_ : Aside0 (w33.heap[gb273]? = some (.cells #[.int .i64 t270, .int .i64 t271] 24 (0, 0))) := ⟨h3_⟩
      have n4_ : Aside0 (w33.heap[gb283]? = some (.cells #[.int .i64 0, .int .i64 0] 24 (0, 0))) := ⟨h4_⟩
      have n5_ : Aside0 (w.heap.size ≤ gb283) := ⟨h5_⟩
      have n6_ : Aside0 (w.heap.size ≤ gb283) := ⟨h6_⟩
      have n7_ : Aside0 (gb262 ≠ gb283) := ⟨h7_⟩
      have n8_ : Aside0 (gb283 ≠ gb262) := ⟨h8_⟩
      have n9_ : Aside0 (gb263 ≠ gb283) := ⟨h9_⟩
      have n10_ : Aside0 (gb283 ≠ gb263) := ⟨h10_⟩
      have n11_ : Aside0 (gb272 ≠ gb283) := ⟨h11_⟩
      have n12_ : Aside0 (gb283 ≠ gb272) := ⟨h12_⟩
      have n13_ : Aside0 (gb273 ≠ gb283) := ⟨h13_⟩
      have n14_ : Aside0 (gb283 ≠ gb273) := ⟨h14_⟩
      have n15_ : Aside0 (Below w.heap.size w w33) := ⟨h15_⟩
      clear BK262
      clear BK263
      clear BK272
      clear BK273
      clear HB
      clear h0_ h1_ h2_ h3_ h4_ h5_ h6_ h7_ h8_ h9_ h10_ h11_ h12_ h13_ h14_ h15_
      have BK262 := n0_
      have BK263 := n1_
      have BK272 := n2_
      have BK273 := n3_
      have BK283 := n4_
      have GW283 := n5_
      have GE283 := n6_
      have NB262_283 := n7_
      have NB283_262 := n8_
      have NB263_283 := n9_
      have NB283_263 := n10_
      have NB272_283 := n11_
      have NB283_272 := n12_
      have NB273_283 := n13_
      have NB283_273 := n14_
      have HB := n15_
      clear n0_ n1_ n2_ n3_ n4_ n5_ n6_ n7_ n8_ n9_ n10_ n11_ n12_ n13_ n14_ n15_
      have hHeld : w33.cell? ⟨gb262, 0, none⟩ = some (.int .i64 a1_0) ∧ w33.cell? ⟨gb262, 1, none⟩ = some (.int .i64 a1_1) ∧ w33.cell? ⟨gb263, 0, none⟩ = some (.int .i64 a2_0) ∧ w33.cell? ⟨gb263, 1, none⟩ = some (.int .i64 a2_1) := hS_
      refine norm_ (a' := ?_) ?_ ?_
      rotate_left
      ·simp only [putAll, Act.put, List.setIfInBounds_toArray, List.set_cons_zero, List.set_cons_succ]
       rfl
      refine one_ (i := 9) (N := some 9) #[T, T, T, T, T, T, T, T, T, T, T, F, F] rfl rfl (one_of HT_.out (by kernel_rfl)) (by decide) (fun K hK => ?_)
      refine box_step ?hg (N := 9) ?hd (cs := #[.int .i64 0, .int .i64 0]) (t := 24) ?hr ?_; (case hd => rfl); (case hg => rfl); (case hr => first | (go_simp; done) | (go_simp; rfl))
      intro gb282 hg w34 hbox hb
      have n0_ := am (blk_below (g := gb262) (o := b2 a1_0 a1_1 23) (Z BK262) hb)
      have n1_ := am (blk_below (g := gb263) (o := b2 a2_0 a2_1 23) (Z BK263) hb)
      have n2_ := am (blk_below (g := gb272) (o := b2 t268 t269 24) (Z BK272) hb)
      have n3_ := am (blk_below (g := gb273) (o := b2 t270 t271 24) (Z BK273) hb)
      have n4_ := am (blk_below (g := gb283) (o := b2 0 0 24) (Z BK283) hb)
      have n5_ := am (below_step (Y5 HB GE262 GE263 GE272 GE273 GE283) hb)
      have n6_ := am (hbox)
      have n7_ := am ((by rw [hg]; exact (below_size (Y5 HB GE262 GE263 GE272 GE273 GE283)) : w.heap.size ≤ gb282))
      have n8_ := am ((by rw [hg]; exact (below_size (Y5 HB GE262 GE263 GE272 GE273 GE283)) : w.heap.size ≤ gb282))
      have n9_ := am ((nl (o := b2 a1_0 a1_1 23) hg (Z BK262) : gb262 ≠ gb282))
      have n10_ := am ((ng (o := b2 a1_0 a1_1 23) hg (Z BK262) : gb282 ≠ gb262))
      have n11_ := am ((nl (o := b2 a2_0 a2_1 23) hg (Z BK263) : gb263 ≠ gb282))
      have n12_ := am ((ng (o := b2 a2_0 a2_1 23) hg (Z BK263) : gb282 ≠ gb263))
      have n13_ := am ((nl (o := b2 t268 t269 24) hg (Z BK272) : gb272 ≠ gb282))
      have n14_ := am ((ng (o := b2 t268 t269 24) hg (Z BK272) : gb282 ≠ gb272))
      have n15_ := am ((nl (o := b2 t270 t271 24) hg (Z BK273) : gb273 ≠ gb282))
      have n16_ := am ((ng (o := b2 t270 t271 24) hg (Z BK273) : gb282 ≠ gb273))
      have n17_ := am ((nl (o := b2 0 0 24) hg (Z BK283) : gb283 ≠ gb282))
      have n18_ := am ((ng (o := b2 0 0 24) hg (Z BK283) : gb282 ≠ gb283))
      clear BK262
      clear BK263
      clear BK272
      clear BK273
      clear BK283
      clear HB
      have BK262 := n0_
      have BK263 := n1_
      have BK272 := n2_
      have BK273 := n3_
      have BK283 := n4_
      have HB := n5_
      have BK282 := n6_
      have GW282 := n7_
      have GE282 := n8_
      have NB262_282 := n9_
      have NB282_262 := n10_
      have NB263_282 := n11_
      have NB282_263 := n12_
      have NB272_282 := n13_
      have NB282_272 := n14_
      have NB273_282 := n15_
      have NB282_273 := n16_
      have NB283_282 := n17_
      have NB282_283 := n18_
      clear n0_ n1_ n2_ n3_ n4_ n5_ n6_ n7_ n8_ n9_ n10_ n11_ n12_ n13_ n14_ n15_ n16_ n17_ n18_
      clear hb hbox hg
      refine hK.out _ _ ⟨bc BK262 0, bc BK262 1, bc BK263 0, bc BK263 1⟩ (fun hHeld => ?_)
      clear hK K
      refine norm_ (a' := ?_) ?_ ?_
      rotate_left
      ·show Act.put _ (some 9) _ = _
       simp only [Act.put, List.setIfInBounds_toArray, List.set_cons_zero, List.set_cons_succ, i64_w, i32_w]
       rfl
      exact norm_ nz (hJ2_4_5_9_10 (gb282, gb283) _ ⟨hHeld, (Z BK262), (Z BK263), (Z BK272), (Z BK273), (Z BK282), (Z BK283), GW282.out, GE282.out, NB262_282.out, NB282_262.out, NB263_282.out, NB282_263.out, NB272_282.out, NB282_272.out, NB273_282.out, NB282_273.out, NB283_282.out, NB282_283.out, GW283.out, GE283.out, NB262_283.out, NB283_262.out, NB263_283.out, NB283_263.out, NB272_283.out, NB283_272.out, NB273_283.out, NB283_273.out, (Y6 HB GE262 GE263 GE272 GE273 GE283 GE282)⟩)
    ·skip
     rintro gb282 w33 ⟨hS_, h0_, h1_, h2_, h3_, h4_, h5_, h6_, h7_, h8_, h9_, h10_, h11_, h12_, h13_, h14_, h15_⟩
     have n0_ : Aside0 (w33.heap[gb262]? = some (.cells #[.int .i64 a1_0, .int .i64 a1_1] 23 (0, 0))) := ⟨h0_⟩
     have n1_ : Aside0 (w33.heap[gb263]? = some (.cells #[.int .i64 a2_0, .int .i64 a2_1] 23 (0, 0))) := ⟨h1_⟩
     have n2_ : Aside0 (w33.heap[gb272]? = some (.cells #[.int .i64 t268, .int .i64 t269] 24 (0, 0))) := ⟨h2_⟩
     have n3_ : Aside0 (w33.heap[gb273]? = some (.cells #[.int .i64 t270, .int .i64 t271] 24 (0, 0))) := ⟨h3_⟩
     have n4_ : Aside0 (w33.heap[gb282]? = some (.cells #[.int .i64 0, .int .i64 0] 24 (0, 0))) := ⟨h4_⟩
     have n5_ : Aside0 (w.heap.size ≤ gb282) := ⟨h5_⟩
     have n6_ : Aside0 (w.heap.size ≤ gb282) := ⟨h6_⟩
     have n7_ : Aside0 (gb262 ≠ gb282) := ⟨h7_⟩
     have n8_ : Aside0 (gb282 ≠ gb262) := ⟨h8_⟩
     have n9_ : Aside0 (gb263 ≠ gb282) := ⟨h9_⟩
     have n10_ : Aside0 (gb282 ≠ gb263) := ⟨h10_⟩
     have n11_ : Aside0 (gb272 ≠ gb282) := ⟨h11_⟩
     have n12_ : Aside0 (gb282 ≠ gb272) := ⟨h12_⟩
     have n13_ : Aside0 (gb273 ≠ gb282) := ⟨h13_⟩
     have n14_ : Aside0 (gb282 ≠ gb273) := ⟨h14_⟩
     have n15_ : Aside0 (Below w.heap.size w w33) := ⟨h15_⟩
     clear BK262
     clear BK263
     clear BK272
     clear BK273
     clear HB
     clear h0_ h1_ h2_ h3_ h4_ h5_ h6_ h7_ h8_ h9_ h10_ h11_ h12_ h13_ h14_ h15_
     have BK262 := n0_
     have BK263 := n1_
     have BK272 := n2_
     have BK273 := n3_
     have BK282 := n4_
     have GW282 := n5_
     have GE282 := n6_
     have NB262_282 := n7_
     have NB282_262 := n8_
     have NB263_282 := n9_
     have NB282_263 := n10_
     have NB272_282 := n11_
     have NB282_272 := n12_
     have NB273_282 := n13_
     have NB282_273 := n14_
     have HB := n15_
     clear n0_ n1_ n2_ n3_ n4_ n5_ n6_ n7_ n8_ n9_ n10_ n11_ n12_ n13_ n14_ n15_
     have hHeld : w33.cell? ⟨gb262, 0, none⟩ = some (.int .i64 a1_0) ∧ w33.cell? ⟨gb262, 1, none⟩ = some (.int .i64 a1_1) ∧ w33.cell? ⟨gb263, 0, none⟩ = some (.int .i64 a2_0) ∧ w33.cell? ⟨gb263, 1, none⟩ = some (.int .i64 a2_1) := hS_
     refine norm_ (a' := ?_) ?_ ?_
     rotate_left
     ·simp only [putAll, Act.put, List.setIfInBounds_toArray, List.set_cons_zero, List.set_cons_succ]
      rfl
     refine one_ (i := 10) (N := some 10) #[T, T, T, T, T, T, T, T, T, T, T, F, F] rfl rfl (one_of HT_.out (by kernel_rfl)) (by decide) (fun K hK => ?_)
     refine box_step ?hg (N := 10) ?hd (cs := #[.int .i64 0, .int .i64 0]) (t := 24) ?hr ?_; (case hd => rfl); (case hg => rfl); (case hr => first | (go_simp; done) | (go_simp; rfl))
     intro gb283 hg w34 hbox hb
     have n0_ := am (blk_below (g := gb262) (o := b2 a1_0 a1_1 23) (Z BK262) hb)
     have n1_ := am (blk_below (g := gb263) (o := b2 a2_0 a2_1 23) (Z BK263) hb)
     have n2_ := am (blk_below (g := gb272) (o := b2 t268 t269 24) (Z BK272) hb)
     have n3_ := am (blk_below (g := gb273) (o := b2 t270 t271 24) (Z BK273) hb)
     have n4_ := am (blk_below (g := gb282) (o := b2 0 0 24) (Z BK282) hb)
     have n5_ := am (below_step (Y5 HB GE262 GE263 GE272 GE273 GE282) hb)
     have n6_ := am (hbox)
     have n7_ := am ((by rw [hg]; exact (below_size (Y5 HB GE262 GE263 GE272 GE273 GE282)) : w.heap.size ≤ gb283))
     have n8_ := am ((by rw [hg]; exact (below_size (Y5 HB GE262 GE263 GE272 GE273 GE282)) : w.heap.size ≤ gb283))
     have n9_ := am ((nl (o := b2 a1_0 a1_1 23) hg (Z BK262) : gb262 ≠ gb283))
     have n10_ := am ((ng (o := b2 a1_0 a1_1 23) hg (Z BK262) : gb283 ≠ gb262))
     have n11_ := am ((nl (o := b2 a2_0 a2_1 23) hg (Z BK263) : gb263 ≠ gb283))
     have n12_ := am ((ng (o := b2 a2_0 a2_1 23) hg (Z BK263) : gb283 ≠ gb263))
     have n13_ := am ((nl (o := b2 t268 t269 24) hg (Z BK272) : gb272 ≠ gb283))
     have n14_ := am ((ng (o := b2 t268 t269 24) hg (Z BK272) : gb283 ≠ gb272))
     have n15_ := am ((nl (o := b2 t270 t271 24) hg (Z BK273) : gb273 ≠ gb283))
     have n16_ := am ((ng (o := b2 t270 t271 24) hg (Z BK273) : gb283 ≠ gb273))
     have n17_ := am ((nl (o := b2 0 0 24) hg (Z BK282) : gb282 ≠ gb283))
     have n18_ := am ((ng (o := b2 0 0 24) hg (Z BK282) : gb283 ≠ gb282))
     clear BK262
     clear BK263
     clear BK272
     clear BK273
     clear BK282
     clear HB
     have BK262 := n0_
     have BK263 := n1_
     have BK272 := n2_
     have BK273 := n3_
     have BK282 := n4_
     have HB := n5_
     have BK283 := n6_
     have GW283 := n7_
     have GE283 := n8_
     have NB262_283 := n9_
     have NB283_262 := n10_
     have NB263_283 := n11_
     have NB283_263 := n12_
     have NB272_283 := n13_
     have NB283_272 := n14_
     have NB273_283 := n15_
     have NB283_273 := n16_
     have NB282_283 := n17_
     have NB283_282 := n18_
     clear n0_ n1_ n2_ n3_ n4_ n5_ n6_ n7_ n8_ n9_ n10_ n11_ n12_ n13_ n14_ n15_ n16_ n17_ n18_
     clear hb hbox hg
     refine hK.out _ _ ⟨bc BK262 0, bc BK262 1, bc BK263 0, bc BK263 1⟩ (fun hHeld => ?_)
     clear hK K
     refine norm_ (a' := ?_) ?_ ?_
     rotate_left
     ·show Act.put _ (some 10) _ = _
      simp only [Act.put, List.setIfInBounds_toArray, List.set_cons_zero, List.set_cons_succ, i64_w, i32_w]
      rfl
     exact norm_ nz (hJ2_4_5_9_10 (gb282, gb283) _ ⟨hHeld, (Z BK262), (Z BK263), (Z BK272), (Z BK273), (Z BK282), (Z BK283), GW282.out, GE282.out, NB262_282.out, NB282_262.out, NB263_282.out, NB282_263.out, NB272_282.out, NB282_272.out, NB273_282.out, NB282_273.out, NB283_282.out, NB282_283.out, GW283.out, GE283.out, NB262_283.out, NB283_262.out, NB263_283.out, NB283_263.out, NB272_283.out, NB283_272.out, NB273_283.out, NB283_273.out, (Y6 HB GE262 GE263 GE272 GE273 GE282 GE283)⟩)
   rintro ⟨gb282, gb283⟩ w34 ⟨hS_, h0_, h1_, h2_, h3_, h4_, h5_, h6_, h7_, h8_, h9_, h10_, h11_, h12_, h13_, h14_, h15_, h16_, h17_, h18_, h19_, h20_, h21_, h22_, h23_, h24_, h25_, h26_, h27_, h28_⟩
   have n0_ : Aside0 (w34.heap[gb262]? = some (.cells #[.int .i64 a1_0, .int .i64 a1_1] 23 (0, 0))) := ⟨h0_⟩
   have n1_ : Aside0 (w34.heap[gb263]? = some (.cells #[.int .i64 a2_0, .int .i64 a2_1] 23 (0, 0))) := ⟨h1_⟩
   have n2_ : Aside0 (w34.heap[gb272]? = some (.cells #[.int .i64 t268, .int .i64 t269] 24 (0, 0))) := ⟨h2_⟩
   have n3_ : Aside0 (w34.heap[gb273]? = some (.cells #[.int .i64 t270, .int .i64 t271] 24 (0, 0))) := ⟨h3_⟩
   have n4_ : Aside0 (w34.heap[gb282]? = some (.cells #[.int .i64 0, .int .i64 0] 24 (0, 0))) := ⟨h4_⟩
   have n5_ : Aside0 (w34.heap[gb283]? = some (.cells #[.int .i64 0, .int .i64 0] 24 (0, 0))) := ⟨h5_⟩
   have n6_ : Aside0 (w.heap.size ≤ gb282) := ⟨h6_⟩
   have n7_ : Aside0 (w.heap.size ≤ gb282) := ⟨h7_⟩
   have n8_ : Aside0 (gb262 ≠ gb282) := ⟨h8_⟩
   have n9_ : Aside0 (gb282 ≠ gb262) := ⟨h9_⟩
   have n10_ : Aside0 (gb263 ≠ gb282) := ⟨h10_⟩
   have n11_ : Aside0 (gb282 ≠ gb263) := ⟨h11_⟩
   have n12_ : Aside0 (gb272 ≠ gb282) := ⟨h12_⟩
   have n13_ : Aside0 (gb282 ≠ gb272) := ⟨h13_⟩
   have n14_ : Aside0 (gb273 ≠ gb282) := ⟨h14_⟩
   have n15_ : Aside0 (gb282 ≠ gb273) := ⟨h15_⟩
   have n16_ : Aside0 (gb283 ≠ gb282) := ⟨h16_⟩
   have n17_ : Aside0 (gb282 ≠ gb283) := ⟨h17_⟩
   have n18_ : Aside0 (w.heap.size ≤ gb283) := ⟨h18_⟩
   have n19_ : Aside0 (w.heap.size ≤ gb283) := ⟨h19_⟩
   have n20_ : Aside0 (gb262 ≠ gb283) := ⟨h20_⟩
   have n21_ : Aside0 (gb283 ≠ gb262) := ⟨h21_⟩
   have n22_ : Aside0 (gb263 ≠ gb283) := ⟨h22_⟩
   have n23_ : Aside0 (gb283 ≠ gb263) := ⟨h23_⟩
   have n24_ : Aside0 (gb272 ≠ gb283) := ⟨h24_⟩
   have n25_ : Aside0 (gb283 ≠ gb272) := ⟨h25_⟩
   have n26_ : Aside0 (gb273 ≠ gb283) := ⟨h26_⟩
   have n27_ : Aside0 (gb283 ≠ gb273) := ⟨h27_⟩
   have n28_ : Aside0 (Below w.heap.size w w34) := ⟨h28_⟩
   clear BK262
   clear BK263
   clear BK272
   clear BK273
   clear HB
   clear h0_ h1_ h2_ h3_ h4_ h5_ h6_ h7_ h8_ h9_ h10_ h11_ h12_ h13_ h14_ h15_ h16_ h17_ h18_ h19_ h20_ h21_ h22_ h23_ h24_ h25_ h26_ h27_ h28_
   have BK262 := n0_
   have BK263 := n1_
   have BK272 := n2_
   have BK273 := n3_
   have BK282 := n4_
   have BK283 := n5_
   have GW282 := n6_
   have GE282 := n7_
   have NB262_282 := n8_
   have NB282_262 := n9_
   have NB263_282 := n10_
   have NB282_263 := n11_
   have NB272_282 := n12_
   have NB282_272 := n13_
   have NB273_282 := n14_
   have NB282_273 := n15_
   have NB283_282 := n16_
   have NB282_283 := n17_
   have GW283 := n18_
   have GE283 := n19_
   have NB262_283 := n20_
   have NB283_262 := n21_
   have NB263_283 := n22_
   have NB283_263 := n23_
   have NB272_283 := n24_
   have NB283_272 := n25_
   have NB273_283 := n26_
   have NB283_273 := n27_
   have HB := n28_
   clear n0_ n1_ n2_ n3_ n4_ n5_ n6_ n7_ n8_ n9_ n10_ n11_ n12_ n13_ n14_ n15_ n16_ n17_ n18_ n19_ n20_ n21_ n22_ n23_ n24_ n25_ n26_ n27_ n28_
   have hHeld : w34.cell? ⟨gb262, 0, none⟩ = some (.int .i64 a1_0) ∧ w34.cell? ⟨gb262, 1, none⟩ = some (.int .i64 a1_1) ∧ w34.cell? ⟨gb263, 0, none⟩ = some (.int .i64 a2_0) ∧ w34.cell? ⟨gb263, 1, none⟩ = some (.int .i64 a2_1) := hS_
   refine norm_ (a' := ?_) ?_ ?_
   rotate_left
   ·simp only [putAll, Act.put, List.setIfInBounds_toArray, List.set_cons_zero, List.set_cons_succ]
    rfl
   refine one_ (i := 11) (N := none) #[T, T, T, T, T, T, T, T, T, T, T, T, F] rfl rfl (one_of HT_.out (by kernel_rfl)) (by decide) (fun K hK => ?_)
   have hs35 : w34.cell? ⟨gb282, 0, none⟩ = some (.int .i64 0) := bc BK282 0
   have hfs35 := blk_frozen BK282.out 0
   have hns35_0 := NB262_282.out
   have hns35_1 := NB263_282.out
   have hns35_2 := NB272_282.out
   have hns35_3 := NB273_282.out
   have hns35_5 := NB283_282.out
   have hms35_0 := NB282_262.out
   have hms35_1 := NB282_263.out
   have hms35_2 := NB282_272.out
   have hms35_3 := NB282_273.out
   have hms35_5 := NB282_283.out
   have hs36 : w34.cell? ⟨gb282, 1, none⟩ = some (.int .i64 0) := bc BK282 1
   have hfs36 := blk_frozen BK282.out 1
   have hns36_0 := NB262_282.out
   have hns36_1 := NB263_282.out
   have hns36_2 := NB272_282.out
   have hns36_3 := NB273_282.out
   have hns36_5 := NB283_282.out
   have hms36_0 := NB282_262.out
   have hms36_1 := NB282_263.out
   have hms36_2 := NB282_272.out
   have hms36_3 := NB282_273.out
   have hms36_5 := NB282_283.out
   refine skip_ (w1 := ?_) (by rfl) rfl ?_ ?_
   rotate_left
   ·go_simp
    rfl
   refine hK.out _ _ ⟨((cell_far (p := ⟨gb282, _, none⟩) NB262_282.out _).trans (((cell_far (p := ⟨gb282, _, none⟩) NB262_282.out _).trans (hHeld.1)))), ((cell_far (p := ⟨gb282, _, none⟩) NB262_282.out _).trans (((cell_far (p := ⟨gb282, _, none⟩) NB262_282.out _).trans (hHeld.2.1)))), ((cell_far (p := ⟨gb282, _, none⟩) NB263_282.out _).trans (((cell_far (p := ⟨gb282, _, none⟩) NB263_282.out _).trans (hHeld.2.2.1)))), ((cell_far (p := ⟨gb282, _, none⟩) NB263_282.out _).trans (((cell_far (p := ⟨gb282, _, none⟩) NB263_282.out _).trans (hHeld.2.2.2))))⟩ (fun hHeld => ?_)
   clear hK K
   refine one_ (i := 12) (N := none) #[T, T, T, T, T, T, T, T, T, T, T, T, T] rfl rfl (one_of HT_.out (by kernel_rfl)) (by decide) (fun K hK => ?_)
   have hs37 : w34.cell? ⟨gb283, 0, none⟩ = some (.int .i64 0) := bc BK283 0
   have hfs37 := blk_frozen BK283.out 0
   have hns37_0 := NB262_283.out
   have hns37_1 := NB263_283.out
   have hns37_2 := NB272_283.out
   have hns37_3 := NB273_283.out
   have hns37_4 := NB282_283.out
   have hms37_0 := NB283_262.out
   have hms37_1 := NB283_263.out
   have hms37_2 := NB283_272.out
   have hms37_3 := NB283_273.out
   have hms37_4 := NB283_282.out
   have hs38 : w34.cell? ⟨gb283, 1, none⟩ = some (.int .i64 0) := bc BK283 1
   have hfs38 := blk_frozen BK283.out 1
   have hns38_0 := NB262_283.out
   have hns38_1 := NB263_283.out
   have hns38_2 := NB272_283.out
   have hns38_3 := NB273_283.out
   have hns38_4 := NB282_283.out
   have hms38_0 := NB283_262.out
   have hms38_1 := NB283_263.out
   have hms38_2 := NB283_272.out
   have hms38_3 := NB283_273.out
   have hms38_4 := NB283_282.out
   refine skip_ (w1 := ?_) (by rfl) rfl ?_ ?_
   rotate_left
   ·go_simp
    rfl
   refine hK.out _ _ ⟨((cell_far (p := ⟨gb283, _, none⟩) NB262_283.out _).trans (((cell_far (p := ⟨gb283, _, none⟩) NB262_283.out _).trans (hHeld.1)))), ((cell_far (p := ⟨gb283, _, none⟩) NB262_283.out _).trans (((cell_far (p := ⟨gb283, _, none⟩) NB262_283.out _).trans (hHeld.2.1)))), ((cell_far (p := ⟨gb283, _, none⟩) NB263_283.out _).trans (((cell_far (p := ⟨gb283, _, none⟩) NB263_283.out _).trans (hHeld.2.2.1)))), ((cell_far (p := ⟨gb283, _, none⟩) NB263_283.out _).trans (((cell_far (p := ⟨gb283, _, none⟩) NB263_283.out _).trans (hHeld.2.2.2))))⟩ (fun hHeld => ?_)
   clear hK K
   refine done_ (done_of HT_.out (by kernel_rfl)) ?_
   have hnb39 := NB282_262.out
   have hnc39 := NB262_282.out
   have hnb40 := NB282_263.out
   have hnc40 := NB263_282.out
   have hnb41 := NB282_272.out
   have hnc41 := NB272_282.out
   have hnb42 := NB282_273.out
   have hnc42 := NB273_282.out
   have hnb43 := NB282_283.out
   have hnc43 := NB283_282.out
   have hcz44_0 : w34.cell? ⟨gb282, 0, none⟩ = some (.int .i64 0) := bc BK282 0
   have hcz44_1 : w34.cell? ⟨gb282, 1, none⟩ = some (.int .i64 0) := bc BK282 1
   have hfz44_0 := blk_frozen BK282.out 0
   have hfz44_1 := blk_frozen BK282.out 1
   have hnb45 := NB272_262.out
   have hnc45 := NB262_272.out
   have hnb46 := NB272_263.out
   have hnc46 := NB263_272.out
   have hnb47 := NB272_273.out
   have hnc47 := NB273_272.out
   have hnb48 := NB272_283.out
   have hnc48 := NB283_272.out
   have hcz49_0 : w34.cell? ⟨gb272, 0, none⟩ = some (.int .i64 t268) := bc BK272 0
   have hcz49_1 : w34.cell? ⟨gb272, 1, none⟩ = some (.int .i64 t269) := bc BK272 1
   have hfz49_0 := blk_frozen BK272.out 0
   have hfz49_1 := blk_frozen BK272.out 1
   try go_wp2_with (first | ((with_reducible refine gate_callee (f := 18) rfl ?_); refine goesL_ (some 31) rfl rfl Try.func18 (by kernel_rfl) rfl #[.agg #[.int .i64 t278, .int .i64 t279], .agg #[.int .i64 t268, .int .i64 t269]] rfl mz ?_; (with_reducible refine (laws_eqRange.calls t278 t279 t268 t269 true _ A10.out).mono ?_); rintro e w50 ⟨rfl, hb⟩; refine ⟨_, rfl, ?_⟩; have n0_ := am (blk_below (g := gb262) (o := b2 a1_0 a1_1 23) (by (with_reducible repeat (first | refine blk_drewN ?_ _ | refine blk_drew ?_ | refine blk_alloc ?_ _)); refine blk_far ?_ NB262_283.out _; (with_reducible repeat (first | refine blk_drewN ?_ _ | refine blk_drew ?_ | refine blk_alloc ?_ _)); refine blk_far ?_ NB262_283.out _; (with_reducible repeat (first | refine blk_drewN ?_ _ | refine blk_drew ?_ | refine blk_alloc ?_ _)); refine blk_far ?_ NB262_282.out _; (with_reducible repeat (first | refine blk_drewN ?_ _ | refine blk_drew ?_ | refine blk_alloc ?_ _)); refine blk_far ?_ NB262_282.out _; (with_reducible repeat (first | refine blk_drewN ?_ _ | refine blk_drew ?_ | refine blk_alloc ?_ _)); exact BK262.out) hb); have n1_ := am (blk_below (g := gb263) (o := b2 a2_0 a2_1 23) (by (with_reducible repeat (first | refine blk_drewN ?_ _ | refine blk_drew ?_ | refine blk_alloc ?_ _)); refine blk_far ?_ NB263_283.out _; (with_reducible repeat (first | refine blk_drewN ?_ _ | refine blk_drew ?_ | refine blk_alloc ?_ _)); refine blk_far ?_ NB263_283.out _; (with_reducible repeat (first | refine blk_drewN ?_ _ | refine blk_drew ?_ | refine blk_alloc ?_ _)); refine blk_far ?_ NB263_282.out _; (with_reducible repeat (first | refine blk_drewN ?_ _ | refine blk_drew ?_ | refine blk_alloc ?_ _)); refine blk_far ?_ NB263_282.out _; (with_reducible repeat (first | refine blk_drewN ?_ _ | refine blk_drew ?_ | refine blk_alloc ?_ _)); exact BK263.out) hb); have n2_ := am (blk_below (g := gb272) (o := b2 t268 t269 24) (by (with_reducible repeat (first | refine blk_drewN ?_ _ | refine blk_drew ?_ | refine blk_alloc ?_ _)); refine blk_far ?_ NB272_283.out _; (with_reducible repeat (first | refine blk_drewN ?_ _ | refine blk_drew ?_ | refine blk_alloc ?_ _)); refine blk_far ?_ NB272_283.out _; (with_reducible repeat (first | refine blk_drewN ?_ _ | refine blk_drew ?_ | refine blk_alloc ?_ _)); refine blk_far ?_ NB272_282.out _; (with_reducible repeat (first | refine blk_drewN ?_ _ | refine blk_drew ?_ | refine blk_alloc ?_ _)); refine blk_far ?_ NB272_282.out _; (with_reducible repeat (first | refine blk_drewN ?_ _ | refine blk_drew ?_ | refine blk_alloc ?_ _)); exact BK272.out) hb); have n3_ := am (blk_below (g := gb273) (o := b2 t270 t271 24) (by (with_reducible repeat (first | refine blk_drewN ?_ _ | refine blk_drew ?_ | refine blk_alloc ?_ _)); refine blk_far ?_ NB273_283.out _; (with_reducible repeat (first | refine blk_drewN ?_ _ | refine blk_drew ?_ | refine blk_alloc ?_ _)); refine blk_far ?_ NB273_283.out _; (with_reducible repeat (first | refine blk_drewN ?_ _ | refine blk_drew ?_ | refine blk_alloc ?_ _)); refine blk_far ?_ NB273_282.out _; (with_reducible repeat (first | refine blk_drewN ?_ _ | refine blk_drew ?_ | refine blk_alloc ?_ _)); refine blk_far ?_ NB273_282.out _; (with_reducible repeat (first | refine blk_drewN ?_ _ | refine blk_drew ?_ | refine blk_alloc ?_ _)); exact BK273.out) hb); have n4_ := am (blk_below (g := gb282) (o := b2 t278 t279 24) (by (with_reducible repeat (first | refine blk_drewN ?_ _ | refine blk_drew ?_ | refine blk_alloc ?_ _)); refine blk_far ?_ NB282_283.out _; (with_reducible repeat (first | refine blk_drewN ?_ _ | refine blk_drew ?_ | refine blk_alloc ?_ _)); refine blk_far ?_ NB282_283.out _; (with_reducible repeat (first | refine blk_drewN ?_ _ | refine blk_drew ?_ | refine blk_alloc ?_ _)); refine blk_put (cs := #[.int .i64 t278, .int .i64 0]) ?_ 1 _ rfl; (with_reducible repeat (first | refine blk_drewN ?_ _ | refine blk_drew ?_ | refine blk_alloc ?_ _)); refine blk_put (cs := #[.int .i64 0, .int .i64 0]) ?_ 0 _ rfl; (with_reducible repeat (first | refine blk_drewN ?_ _ | refine blk_drew ?_ | refine blk_alloc ?_ _)); exact BK282.out) hb); have n5_ := am (blk_below (g := gb283) (o := b2 t280 t281 24) (by (with_reducible repeat (first | refine blk_drewN ?_ _ | refine blk_drew ?_ | refine blk_alloc ?_ _)); refine blk_put (cs := #[.int .i64 t280, .int .i64 0]) ?_ 1 _ rfl; (with_reducible repeat (first | refine blk_drewN ?_ _ | refine blk_drew ?_ | refine blk_alloc ?_ _)); refine blk_put (cs := #[.int .i64 0, .int .i64 0]) ?_ 0 _ rfl; (with_reducible repeat (first | refine blk_drewN ?_ _ | refine blk_drew ?_ | refine blk_alloc ?_ _)); refine blk_far ?_ NB283_282.out _; (with_reducible repeat (first | refine blk_drewN ?_ _ | refine blk_drew ?_ | refine blk_alloc ?_ _)); refine blk_far ?_ NB283_282.out _; (with_reducible repeat (first | refine blk_drewN ?_ _ | refine blk_drew ?_ | refine blk_alloc ?_ _)); exact BK283.out) hb); have n6_ := am (below_step (Y6 HB GE262 GE263 GE272 GE273 GE282 GE283) hb); clear BK262; clear BK263; clear BK272; clear BK273; clear BK282; clear BK283; clear HB; have BK262 := n0_; have BK263 := n1_; have BK272 := n2_; have BK273 := n3_; have BK282 := n4_; have BK283 := n5_; have HB := n6_; clear n0_ n1_ n2_ n3_ n4_ n5_ n6_; (try clear hb); (try clear hb2); (try clear hk); (try clear hi); have hnb51 := NB283_262.out; have hnc51 := NB262_283.out; have hnb52 := NB283_263.out; have hnc52 := NB263_283.out; have hnb53 := NB283_273.out; have hnc53 := NB273_283.out; have hcz54_0 : w50.cell? ⟨gb283, 0, none⟩ = some (.int .i64 t280) := bc BK283 0; have hcz54_1 : w50.cell? ⟨gb283, 1, none⟩ = some (.int .i64 t281) := bc BK283 1; have hfz54_0 := blk_frozen BK283.out 0; have hfz54_1 := blk_frozen BK283.out 1; have hnb55 := NB273_262.out; have hnc55 := NB262_273.out; have hnb56 := NB273_263.out; have hnc56 := NB263_273.out; have hcz57_0 : w50.cell? ⟨gb273, 0, none⟩ = some (.int .i64 t270) := bc BK273 0; have hcz57_1 : w50.cell? ⟨gb273, 1, none⟩ = some (.int .i64 t271) := bc BK273 1; have hfz57_0 := blk_frozen BK273.out 0; have hfz57_1 := blk_frozen BK273.out 1) | (go_at_call 18; (with_reducible refine (laws_eqRange.calls t280 t281 t270 t271 true _ A12.out).mono ?_); rintro e w58 ⟨rfl, hb⟩; have n0_ := am (blk_below (g := gb262) (o := b2 a1_0 a1_1 23) (Z BK262) hb); have n1_ := am (blk_below (g := gb263) (o := b2 a2_0 a2_1 23) (Z BK263) hb); have n2_ := am (blk_below (g := gb272) (o := b2 t268 t269 24) (Z BK272) hb); have n3_ := am (blk_below (g := gb273) (o := b2 t270 t271 24) (Z BK273) hb); have n4_ := am (blk_below (g := gb282) (o := b2 t278 t279 24) (Z BK282) hb); have n5_ := am (blk_below (g := gb283) (o := b2 t280 t281 24) (Z BK283) hb); have n6_ := am (below_step (Y6 HB GE262 GE263 GE272 GE273 GE282 GE283) hb); clear BK262; clear BK263; clear BK272; clear BK273; clear BK282; clear BK283; clear HB; have BK262 := n0_; have BK263 := n1_; have BK272 := n2_; have BK273 := n3_; have BK282 := n4_; have BK283 := n5_; have HB := n6_; clear n0_ n1_ n2_ n3_ n4_ n5_ n6_; (try clear hb); (try clear hb2); (try clear hk); (try clear hi)))
   go_ret
   exact ⟨by first | rfl | (simp [errW_none, errW_some] <;> rfl) | (simp [*, errW_none, errW_some] <;> rfl), Y6 HB GE262 GE263 GE272 GE273 GE282 GE283⟩
  ·replace c13 := Bool.eq_false_iff.mpr c13
   subst c13
   have H1 : (none) = some r := by rw [if_neg (show ¬ (false = true) by decide)] at H; exact H
   clear H
   have H := H1
   clear H1
   exact absurd H (by simp)
 ·replace c11 := Bool.eq_false_iff.mpr c11
  subst c11
  have H1 : (none) = some r := by rw [if_neg (show ¬ (false = true) by decide)] at H; exact H
  clear H
  have H := H1
  clear H1
  exact absurd H (by simp)

end Go.Proofs.Ytlipfemjlicbbaa.PFnExactRangeCmp
