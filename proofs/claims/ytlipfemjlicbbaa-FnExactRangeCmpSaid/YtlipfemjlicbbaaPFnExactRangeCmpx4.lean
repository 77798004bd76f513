/- Written by this session's own driver (wip/dprint.py): the functions that the law FnExactRangeCmp reaches, as Lean functions, each with its contract. -/
import Derived.Test.YtlipfemjlicbbaaPFnExactRangeCmpx0
import Derived.Test.YtlipfemjlicbbaaPFnExactRangeCmpx1
import Derived.Test.YtlipfemjlicbbaaPFnExactRangeCmpx2
import Derived.Test.YtlipfemjlicbbaaPFnExactRangeCmpx3
import Derived.Test.YtlipfemjlicbbaaSv
namespace Go.Proofs.Ytlipfemjlicbbaa.PFnExactRangeCmp
open Go.RowKit Go.Proofs.YtlipfemjlicbbaaV.PrintWords Go.Proofs.YtlipfemjlicbbaaV.PrintLast Go.Proofs.YtlipfemjlicbbaaV.PrintMore Go.Proofs.YtlipfemjlicbbaaSv
attribute [local go_sem] max2_int min2_int max_two min_two max_three min_three max_four min_four   -- for this text's walks alone
set_option linter.unusedVariables false
set_option linter.unusedSimpArgs false

attribute [local go_sem high] eqA24
/-! ### spec_RangeMeet: function 19 -/
def spec_RangeMeet.j0 : Nat → Bool → Int → Int → Int → Int → Option (Int × Int)
 | 0, _, _, _, _, _ => none
 | k + 1, x22, x119000, x119001, x120000, x120001 => if x22 = true then ((spec_l8None.f).bind fun bt127 => (some (bt127.1, bt127.2))) else ((spec_l8Max.f x119000 x120000).bind fun t129 => ((spec_l8Min.f x119001 x120001).bind fun t130 => ((spec_l8Cut.f t129 t130).bind fun bt131 => (some (bt131.1, bt131.2)))))
def spec_RangeMeet.f (k : Nat) (a0_0 : Int) (a0_1 : Int) (a1_0 : Int) (a1_1 : Int) : Option (Int × Int) := (spec_RangeOk.f a0_0 a0_1).bind fun t121 => (if t121 = true then ((spec_RangeOk.f a1_0 a1_1).bind fun t122 => (if t122 = true then ((spec_l8None.f).bind fun bt123 => (if (a0_0 == bt123.1 && (a0_1 == bt123.2)) = true then (spec_RangeMeet.j0 k true a0_0 a0_1 a1_0 a1_1) else ((spec_l8None.f).bind fun bt125 => (spec_RangeMeet.j0 k (a1_0 == bt125.1 && (a1_1 == bt125.2)) a0_0 a0_1 a1_0 a1_1)))) else (spec_RangeMeet.j0 k true a0_0 a0_1 a1_0 a1_1))) else (spec_RangeMeet.j0 k true a0_0 a0_1 a1_0 a1_1))
theorem spec_RangeMeet.mono_l : ∀ k, (∀ y0 y1 y2 y3 y4, LeO (spec_RangeMeet.j0 k y0 y1 y2 y3 y4) (spec_RangeMeet.j0 (k + 1) y0 y1 y2 y3 y4))
 | 0 => fun _ _ _ _ _ r h => by simp [spec_RangeMeet.j0] at h
 | k + 1 => by
  have ih0 := spec_RangeMeet.mono_l k
  ·intro y0 y1 y2 y3 y4
   unfold spec_RangeMeet.j0
   repeat' first
   | (with_reducible exact ih0 _ _ _ _ _)
   | (with_reducible exact LeO.refl _)
   | (with_reducible exact LeO.none _)
   | (with_reducible refine LeO.ite ?_ ?_)
   | (with_reducible refine LeO.bind ?_ (fun _ => ?_))
   | exact ih0 _ _ _ _ _
   | exact LeO.none _
   | refine LeO.ite ?_ ?_
   | refine LeO.bind ?_ (fun _ => ?_)
theorem spec_RangeMeet.mono : ∀ a0 a1 a2 a3 k, LeO (spec_RangeMeet.f k a0 a1 a2 a3) (spec_RangeMeet.f (k + 1) a0 a1 a2 a3) := by
 intro a0 a1 a2 a3 k
 have ih0 := spec_RangeMeet.mono_l k
 unfold spec_RangeMeet.f
 repeat' first
   | (with_reducible exact ih0 _ _ _ _ _)
   | (with_reducible exact LeO.refl _)
   | (with_reducible exact LeO.none _)
   | (with_reducible refine LeO.ite ?_ ?_)
   | (with_reducible refine LeO.bind ?_ (fun _ => ?_))
   | exact ih0 _ _ _ _ _
   | exact LeO.none _
   | refine LeO.ite ?_ ?_
   | refine LeO.bind ?_ (fun _ => ?_)
def spec_RangeMeet.T1 : Bool × List (List Nat × List Nat) := (true, [([], []), ([0], [0]), ([1], [1]), ([2, 1], [2]), ([3], [3]), ([4, 3, 3], [3, 4]), ([5, 3], [3, 5]), ([3, 6], [3, 6]), ([7, 5], [7]), ([8], [8]), ([8, 8], [8]), ([9, 10, 8], [8, 9, 10]), ([8, 11], [8, 11]), ([12, 10], [12]), ([13], [13]), ([13, 13], [13]), ([14, 15, 13], [13, 14, 15]), ([13, 16], [13, 16])])
def spec_RangeMeet.B1 : List Nat := [0, 1, 3, 7, 15, 31, 63, 127, 255, 511, 511, 2047, 4095, 8191, 16383, 16383, 65535, 131071]
theorem spec_RangeMeet.tab1 : rtab .any (opsOf Try.f19 1) = spec_RangeMeet.T1 := by kernel_rfl
theorem spec_RangeMeet.bits1 : waitsOk spec_RangeMeet.T1.2 spec_RangeMeet.B1 = true := by kernel_rfl
def spec_RangeMeet.T3 : Bool × List (List Nat × List Nat) := (true, [([], []), ([0], [0]), ([], []), ([2], [2]), ([1, 3], [1, 3]), ([], []), ([5], [5]), ([], []), ([7], [7]), ([6, 8, 4], [6, 8]), ([4, 9, 9], [4, 9]), ([10, 10, 0, 1, 2, 3, 4, 5, 6, 7, 8, 9, 10], [10])])
def spec_RangeMeet.B3 : List Nat := [0, 1, 0, 4, 15, 0, 32, 0, 128, 511, 1023, 2047]
theorem spec_RangeMeet.tab3 : rtab .any (opsOf Try.f19 3) = spec_RangeMeet.T3 := by kernel_rfl
theorem spec_RangeMeet.bits3 : waitsOk spec_RangeMeet.T3.2 spec_RangeMeet.B3 = true := by kernel_rfl
set_option maxHeartbeats 8000000 in
set_option maxRecDepth 100000 in
theorem spec_RangeMeet.calls (k : Nat) (a0_0 : Int) (a0_1 : Int) (a1_0 : Int) (a1_1 : Int) (r1 : Int) (r2 : Int) (w : World) (h : spec_RangeMeet.f k a0_0 a0_1 a1_0 a1_1 = some (r1, r2)) :
  Calls Try.prog 19 #[.agg #[.int .i64 a0_0, .int .i64 a0_1], .agg #[.int .i64 a1_0, .int .i64 a1_1]] w fun e w' => e = .returned (.agg #[.int .i64 r1, .int .i64 r2]) ∧ Below w.heap.size w w' := by
 have hu24 := Try.underlying24
 have HB := am (Below.refl w.heap.size w)
 have H : ((spec_RangeOk.f a0_0 a0_1).bind fun t121 => (if t121 = true then ((spec_RangeOk.f a1_0 a1_1).bind fun t122 => (if t122 = true then ((spec_l8None.f).bind fun bt123 => (if (a0_0 == bt123.1 && (a0_1 == bt123.2)) = true then (spec_RangeMeet.j0 k true a0_0 a0_1 a1_0 a1_1) else ((spec_l8None.f).bind fun bt125 => (spec_RangeMeet.j0 k (a1_0 == bt125.1 && (a1_1 == bt125.2)) a0_0 a0_1 a1_0 a1_1)))) else (spec_RangeMeet.j0 k true a0_0 a0_1 a1_0 a1_1))) else (spec_RangeMeet.j0 k true a0_0 a0_1 a1_0 a1_1))) = some (r1, r2) := h
 clear h
 have HC3 := am H
 clear H
 go_enter Try.func19, Try.ntmps19
 go_upto_region 1 with (first | ((with_reducible refine gate_dst (N := 2) rfl ?_); refine box_event ?hg (N := 2) ?hd (cs := #[.int .i64 a0_0, .int .i64 a0_1]) (t := 24) ?hr ?_; (case hd => rfl); (case hg => rfl); (case hr => first | (go_simp; done) | (go_simp; rfl)); intro gb118 hg w4 hbox hb; have n0_ := am (below_step (Y0 HB) hb); have n1_ := am (hbox); have n2_ := am ((by rw [hg]; exact (below_size (Y0 HB)) : w.heap.size ≤ gb118)); have n3_ := am ((by rw [hg]; exact (below_size (Y0 HB)) : w.heap.size ≤ gb118)); clear HB; have HB := n0_; have BK118 := n1_; have GW118 := n2_; have GE118 := n3_; clear n0_ n1_ n2_ n3_; clear hb hbox hg) | ((with_reducible refine gate_dst (N := 3) rfl ?_); refine box_event ?hg (N := 3) ?hd (cs := #[.int .i64 a1_0, .int .i64 a1_1]) (t := 24) ?hr ?_; (case hd => rfl); (case hg => rfl); (case hr => first | (go_simp; done) | (go_simp; rfl)); intro gb119 hg w5 hbox hb; have n0_ := am (blk_below (g := gb118) (o := b2 a0_0 a0_1 24) (Z BK118) hb); have n1_ := am (below_step (Y1 HB GE118) hb); have n2_ := am (hbox); have n3_ := am ((by rw [hg]; exact (below_size (Y1 HB GE118)) : w.heap.size ≤ gb119)); have n4_ := am ((by rw [hg]; exact (below_size (Y1 HB GE118)) : w.heap.size ≤ gb119)); have n5_ := am ((nl (o := b2 a0_0 a0_1 24) hg (Z BK118) : gb118 ≠ gb119)); have n6_ := am ((ng (o := b2 a0_0 a0_1 24) hg (Z BK118) : gb119 ≠ gb118)); clear BK118; clear HB; have BK118 := n0_; have HB := n1_; have BK119 := n2_; have GW119 := n3_; have GE119 := n4_; have NB118_119 := n5_; have NB119_118 := n6_; clear n0_ n1_ n2_ n3_ n4_ n5_ n6_; clear hb hbox hg) | ((with_reducible refine gate_dst (N := 4) rfl ?_); refine box_event ?hg (N := 4) ?hd (cs := #[.int .i64 0, .int .i64 0]) (t := 24) ?hr ?_; (case hd => rfl); (case hg => rfl); (case hr => first | (go_simp; done) | (go_simp; rfl)); intro gb120 hg w6 hbox hb; have n0_ := am (blk_below (g := gb118) (o := b2 a0_0 a0_1 24) (Z BK118) hb); have n1_ := am (blk_below (g := gb119) (o := b2 a1_0 a1_1 24) (Z BK119) hb); have n2_ := am (below_step (Y2 HB GE118 GE119) hb); have n3_ := am (hbox); have n4_ := am ((by rw [hg]; exact (below_size (Y2 HB GE118 GE119)) : w.heap.size ≤ gb120)); have n5_ := am ((by rw [hg]; exact (below_size (Y2 HB GE118 GE119)) : w.heap.size ≤ gb120)); have n6_ := am ((nl (o := b2 a0_0 a0_1 24) hg (Z BK118) : gb118 ≠ gb120)); have n7_ := am ((ng (o := b2 a0_0 a0_1 24) hg (Z BK118) : gb120 ≠ gb118)); have n8_ := am ((nl (o := b2 a1_0 a1_1 24) hg (Z BK119) : gb119 ≠ gb120)); have n9_ := am ((ng (o := b2 a1_0 a1_1 24) hg (Z BK119) : gb120 ≠ gb119)); clear BK118; clear BK119; clear HB; have BK118 := n0_; have BK119 := n1_; have HB := n2_; have BK120 := n3_; have GW120 := n4_; have GE120 := n5_; have NB118_120 := n6_; have NB120_118 := n7_; have NB119_120 := n8_; have NB120_119 := n9_; clear n0_ n1_ n2_ n3_ n4_ n5_ n6_ n7_ n8_ n9_; clear hb hbox hg))
 (try simp only [Act.put, List.setIfInBounds_toArray, List.set_cons_zero, List.set_cons_succ])
 go_cut [22] (fun v22 wc => ∃ (kq : Nat) (x22_2 : Bool), v22 = .bool x22_2 ∧ Aside0 (spec_RangeMeet.j0 kq x22_2 a0_0 a0_1 a1_0 a1_1 = some (r1, r2)) ∧ Aside0 (kq ≤ k) ∧ Aside0 (wc.heap[gb118]? = some (.cells #[.int .i64 a0_0, .int .i64 a0_1] 24 (0, 0))) ∧ Aside0 (wc.heap[gb119]? = some (.cells #[.int .i64 a1_0, .int .i64 a1_1] 24 (0, 0))) ∧ Aside0 (wc.heap[gb120]? = some (.cells #[.int .i64 0, .int .i64 0] 24 (0, 0))) ∧ Aside0 (Below w.heap.size w wc))
 case first =>
  have H := HC3.out
  clear HC3
  replace H := Option.bind_eq_some_iff.mp H
  obtain ⟨t121, A70, H⟩ := H
  replace H : (if t121 = true then ((spec_RangeOk.f a1_0 a1_1).bind fun t122 => (if t122 = true then ((spec_l8None.f).bind fun bt123 => (if (a0_0 == bt123.1 && (a0_1 == bt123.2)) = true then (spec_RangeMeet.j0 k true a0_0 a0_1 a1_0 a1_1) else ((spec_l8None.f).bind fun bt125 => (spec_RangeMeet.j0 k (a1_0 == bt125.1 && (a1_1 == bt125.2)) a0_0 a0_1 a1_0 a1_1)))) else (spec_RangeMeet.j0 k true a0_0 a0_1 a1_0 a1_1))) else (spec_RangeMeet.j0 k true a0_0 a0_1 a1_0 a1_1)) = some (r1, r2) := H
  have A7 := am A70
  clear A70
  by_cases c8 : t121 = true
  ·subst c8
   have H1 : ((spec_RangeOk.f a1_0 a1_1).bind fun t122 => (if t122 = true then ((spec_l8None.f).bind fun bt123 => (if (a0_0 == bt123.1 && (a0_1 == bt123.2)) = true then (spec_RangeMeet.j0 k true a0_0 a0_1 a1_0 a1_1) else ((spec_l8None.f).bind fun bt125 => (spec_RangeMeet.j0 k (a1_0 == bt125.1 && (a1_1 == bt125.2)) a0_0 a0_1 a1_0 a1_1)))) else (spec_RangeMeet.j0 k true a0_0 a0_1 a1_0 a1_1))) = some (r1, r2) := by rw [if_pos rfl] at H; exact H
   clear H
   have H := H1
   clear H1
   replace H := Option.bind_eq_some_iff.mp H
   obtain ⟨t122, A90, H⟩ := H
   replace H : (if t122 = true then ((spec_l8None.f).bind fun bt123 => (if (a0_0 == bt123.1 && (a0_1 == bt123.2)) = true then (spec_RangeMeet.j0 k true a0_0 a0_1 a1_0 a1_1) else ((spec_l8None.f).bind fun bt125 => (spec_RangeMeet.j0 k (a1_0 == bt125.1 && (a1_1 == bt125.2)) a0_0 a0_1 a1_0 a1_1)))) else (spec_RangeMeet.j0 k true a0_0 a0_1 a1_0 a1_1)) = some (r1, r2) := H
   have A9 := am A90
   clear A90
   by_cases c10 : t122 = true
   ·subst c10
    have H1 : ((spec_l8None.f).bind fun bt123 => (if (a0_0 == bt123.1 && (a0_1 == bt123.2)) = true then (spec_RangeMeet.j0 k true a0_0 a0_1 a1_0 a1_1) else ((spec_l8None.f).bind fun bt125 => (spec_RangeMeet.j0 k (a1_0 == bt125.1 && (a1_1 == bt125.2)) a0_0 a0_1 a1_0 a1_1)))) = some (r1, r2) := by rw [if_pos rfl] at H; exact H
    clear H
    have H := H1
    clear H1
    replace H := Option.bind_eq_some_iff.mp H
    obtain ⟨⟨t123, t124⟩, A110, H⟩ := H
    replace H : (if (a0_0 == t123 && (a0_1 == t124)) = true then (spec_RangeMeet.j0 k true a0_0 a0_1 a1_0 a1_1) else ((spec_l8None.f).bind fun bt125 => (spec_RangeMeet.j0 k (a1_0 == bt125.1 && (a1_1 == bt125.2)) a0_0 a0_1 a1_0 a1_1))) = some (r1, r2) := H
    have A11 := am A110
    clear A110
    by_cases c12 : (a0_0 == t123 && (a0_1 == t124)) = true
    ·rw [if_pos c12] at H
     have c12b0 : (a0_0 == t123 && (a0_1 == t124)) = true := c12
     (try (have c12b1 : decide (a0_0 = t123 && (a0_1 == t124)) = true := by simpa using c12))
     (try (have c12b2 : (a0_0 == t123 && (a0_1 == t124)) = true := by simpa using c12))
     clear c12
     (first | rw [c12b0] | (simp only [i64_w, i32_w]; rw [c12b0]) | skip)
     have H' := am H
     clear H
     try go_wp2
     have n0_ := am (blk_drew BK118.out)
     have n1_ := am (blk_drew BK119.out)
     have n2_ := am (blk_drew BK120.out)
     have n3_ := am (below_drew1 HB.out)
     clear BK118
     clear BK119
     clear BK120
     clear HB
     have BK118 := n0_
     have BK119 := n1_
     have BK120 := n2_
     have HB := n3_
     clear n0_ n1_ n2_ n3_
     refine start_ (n := 18) (S := fun w' => w'.cell? ⟨gb118, 0, none⟩ = some (.int .i64 a0_0) ∧ w'.cell? ⟨gb118, 1, none⟩ = some (.int .i64 a0_1) ∧ w'.cell? ⟨gb119, 0, none⟩ = some (.int .i64 a1_0) ∧ w'.cell? ⟨gb119, 1, none⟩ = some (.int .i64 a1_1)) (ds := []) #[F, F, F, F, F, F, F, F, F, F, F, F, F, F, F, F, F, F] (by kernel_rfl) rfl rfl ⟨bc BK118 0, bc BK118 1, bc BK119 0, bc BK119 1⟩ (fun hHeld => ?_); refine with_tabW spec_RangeMeet.tab1 spec_RangeMeet.bits1 (fun HT_ HW_ => ?_)
     generalize w6.drew = w13 at BK118 BK119 BK120 HB hHeld ⊢
     refine take_ (i := 0) (N := some 5) (v := ?_) (a' := ?_) #[T, F, F, F, F, F, F, F, F, F, F, F, F, F, F, F, F, F] rfl rfl (take_ofW HT_.out HW_.out (by kernel_rfl)) (fun _ _ _ h => h) (Or.inl ⟨by rfl, ?_⟩) hHeld ?_ ?_
     rotate_left
     ·rintro w' ⟨s0, s1, s2, s3⟩
      go_simp
      with_reducible rfl
     rotate_left
     ·exact pz
     refine one_ (i := 1) (N := some 6) #[T, T, F, F, F, F, F, F, F, F, F, F, F, F, F, F, F, F] rfl rfl (one_of HT_.out (by kernel_rfl)) (by decide) (fun K hK => ?_)
     refine goes_ Try.func47 (by kernel_rfl) rfl #[.agg #[.int .i64 a0_0, .int .i64 a0_1]] (by rfl) rfl rfl mz ?_
     with_reducible refine (spec_RangeOk.calls a0_0 a0_1 true _ A7.out).mono ?_
     rintro e w14 ⟨rfl, hb⟩
     refine ⟨_, rfl, ?_⟩
     have n0_ := am (blk_below (g := gb118) (o := b2 a0_0 a0_1 24) (Z BK118) hb)
     have n1_ := am (blk_below (g := gb119) (o := b2 a1_0 a1_1 24) (Z BK119) hb)
     have n2_ := am (blk_below (g := gb120) (o := b2 0 0 24) (Z BK120) hb)
     have n3_ := am (below_step (Y3 HB GE118 GE119 GE120) hb)
     clear BK118
     clear BK119
     clear BK120
     clear HB
     have BK118 := n0_
     have BK119 := n1_
     have BK120 := n2_
     have HB := n3_
     clear n0_ n1_ n2_ n3_
     (try clear hb)
     (try clear hb2)
     (try clear hk)
     (try clear hi)
     refine hK.out _ _ ⟨bc BK118 0, bc BK118 1, bc BK119 0, bc BK119 1⟩ (fun hHeld => ?_)
     clear hK K
     refine norm_ (a' := ?_) ?_ ?_
     rotate_left
     ·show Act.put _ (some 6) _ = _
      simp only [Act.put, List.setIfInBounds_toArray, List.set_cons_zero, List.set_cons_succ, i64_w, i32_w]
      rfl
     refine pure_ (i := 2) (N := some 7) (v := ?_) (a' := ?_) #[T, T, T, F, F, F, F, F, F, F, F, F, F, F, F, F, F, F] rfl rfl (any_of HT_.out (by kernel_rfl)) (fun _ _ _ h => h) (Or.inl ⟨by rfl, ?_⟩) ?_ ?_
     rotate_left
     ·exact gz
     rotate_left
     ·exact pz
     refine pure_ (i := 3) (N := some 8) (v := ?_) (a' := ?_) #[T, T, T, T, F, F, F, F, F, F, F, F, F, F, F, F, F, F] rfl rfl (any_of HT_.out (by kernel_rfl)) (fun _ _ _ h => h) (Or.inl ⟨by rfl, ?_⟩) ?_ ?_
     rotate_left
     ·exact gz
     rotate_left
     ·exact pz
     refine take_ (i := 4) (N := some 9) (v := ?_) (a' := ?_) #[T, T, T, T, T, F, F, F, F, F, F, F, F, F, F, F, F, F] rfl rfl (take_ofW HT_.out HW_.out (by kernel_rfl)) (fun _ _ _ h => h) (Or.inl ⟨by rfl, ?_⟩) hHeld ?_ ?_
     rotate_left
     ·rintro w' ⟨s0, s1, s2, s3⟩
      go_simp
      with_reducible rfl
     rotate_left
     ·exact pz
     refine one_ (i := 5) (N := some 10) #[T, T, T, T, T, T, F, F, F, F, F, F, F, F, F, F, F, F] rfl rfl (one_of HT_.out (by kernel_rfl)) (by decide) (fun K hK => ?_)
     refine goes_ Try.func47 (by kernel_rfl) rfl #[.agg #[.int .i64 a1_0, .int .i64 a1_1]] (by rfl) rfl rfl mz ?_
     with_reducible refine (spec_RangeOk.calls a1_0 a1_1 true _ A9.out).mono ?_
     rintro e w15 ⟨rfl, hb⟩
     refine ⟨_, rfl, ?_⟩
     have n0_ := am (blk_below (g := gb118) (o := b2 a0_0 a0_1 24) (Z BK118) hb)
     have n1_ := am (blk_below (g := gb119) (o := b2 a1_0 a1_1 24) (Z BK119) hb)
     have n2_ := am (blk_below (g := gb120) (o := b2 0 0 24) (Z BK120) hb)
     have n3_ := am (below_step (Y3 HB GE118 GE119 GE120) hb)
     clear BK118
     clear BK119
     clear BK120
     clear HB
     have BK118 := n0_
     have BK119 := n1_
     have BK120 := n2_
     have HB := n3_
     clear n0_ n1_ n2_ n3_
     (try clear hb)
     (try clear hb2)
     (try clear hk)
     (try clear hi)
     refine hK.out _ _ ⟨bc BK118 0, bc BK118 1, bc BK119 0, bc BK119 1⟩ (fun hHeld => ?_)
     clear hK K
     refine norm_ (a' := ?_) ?_ ?_
     rotate_left
     ·show Act.put _ (some 10) _ = _
      simp only [Act.put, List.setIfInBounds_toArray, List.set_cons_zero, List.set_cons_succ, i64_w, i32_w]
      rfl
     refine pure_ (i := 6) (N := some 11) (v := ?_) (a' := ?_) #[T, T, T, T, T, T, T, F, F, F, F, F, F, F, F, F, F, F] rfl rfl (any_of HT_.out (by kernel_rfl)) (fun _ _ _ h => h) (Or.inl ⟨by rfl, ?_⟩) ?_ ?_
     rotate_left
     ·exact gz
     rotate_left
     ·exact pz
     refine pure_ (i := 7) (N := some 12) (v := ?_) (a' := ?_) #[T, T, T, T, T, T, T, T, F, F, F, F, F, F, F, F, F, F] rfl rfl (any_of HT_.out (by kernel_rfl)) (fun _ _ _ h => h) (Or.inl ⟨by rfl, ?_⟩) ?_ ?_
     rotate_left
     ·exact gz
     rotate_left
     ·exact pz
     refine pure_ (i := 8) (N := some 13) (v := ?_) (a' := ?_) #[T, T, T, T, T, T, T, T, T, F, F, F, F, F, F, F, F, F] rfl rfl (any_of HT_.out (by kernel_rfl)) (fun _ _ _ h => h) (Or.inl ⟨by rfl, ?_⟩) ?_ ?_
     rotate_left
     ·exact gz
     rotate_left
     ·exact pz
     refine take_ (i := 9) (N := some 14) (v := ?_) (a' := ?_) #[T, T, T, T, T, T, T, T, T, T, F, F, F, F, F, F, F, F] rfl rfl (take_ofW HT_.out HW_.out (by kernel_rfl)) (fun _ _ _ h => h) (Or.inl ⟨by rfl, ?_⟩) hHeld ?_ ?_
     rotate_left
     ·rintro w' ⟨s0, s1, s2, s3⟩
      go_simp
      with_reducible rfl
     rotate_left
     ·exact pz
     refine one_ (i := 10) (N := some 15) #[T, T, T, T, T, T, T, T, T, T, T, F, F, F, F, F, F, F] rfl rfl (one_of HT_.out (by kernel_rfl)) (by decide) (fun K hK => ?_)
     refine goes_ Try.func48 (by kernel_rfl) rfl #[] (by rfl) rfl rfl mz ?_
     with_reducible refine (spec_l8None.calls  t123 t124 _ A11.out).mono ?_
     rintro e w16 ⟨rfl, hb⟩
     refine ⟨_, rfl, ?_⟩
     have n0_ := am (blk_below (g := gb118) (o := b2 a0_0 a0_1 24) (Z BK118) hb)
     have n1_ := am (blk_below (g := gb119) (o := b2 a1_0 a1_1 24) (Z BK119) hb)
     have n2_ := am (blk_below (g := gb120) (o := b2 0 0 24) (Z BK120) hb)
     have n3_ := am (below_step (Y3 HB GE118 GE119 GE120) hb)
     clear BK118
     clear BK119
     clear BK120
     clear HB
     have BK118 := n0_
     have BK119 := n1_
     have BK120 := n2_
     have HB := n3_
     clear n0_ n1_ n2_ n3_
     (try clear hb)
     (try clear hb2)
     (try clear hk)
     (try clear hi)
     refine hK.out _ _ ⟨bc BK118 0, bc BK118 1, bc BK119 0, bc BK119 1⟩ (fun hHeld => ?_)
     clear hK K
     refine norm_ (a' := ?_) ?_ ?_
     rotate_left
     ·show Act.put _ (some 15) _ = _
      simp only [Act.put, List.setIfInBounds_toArray, List.set_cons_zero, List.set_cons_succ, i64_w, i32_w]
      rfl
     refine pure_ (i := 11) (N := some 16) (v := ?_) (a' := ?_) #[T, T, T, T, T, T, T, T, T, T, T, T, F, F, F, F, F, F] rfl rfl (any_of HT_.out (by kernel_rfl)) (fun _ _ _ h => h) (Or.inl ⟨by rfl, ?_⟩) ?_ ?_
     rotate_left
     ·exact gz
     rotate_left
     ·exact pz
     refine pure_ (i := 12) (N := some 17) (v := ?_) (a' := ?_) #[T, T, T, T, T, T, T, T, T, T, T, T, T, F, F, F, F, F] rfl rfl (any_of HT_.out (by kernel_rfl)) (fun _ _ _ h => h) (Or.inl ⟨by rfl, ?_⟩) ?_ ?_
     rotate_left
     ·exact gz
     rotate_left
     ·exact pz
     refine pure_ (i := 13) (N := some 18) (v := ?_) (a' := ?_) #[T, T, T, T, T, T, T, T, T, T, T, T, T, T, F, F, F, F] rfl rfl (any_of HT_.out (by kernel_rfl)) (fun _ _ _ h => h) (Or.inl ⟨by rfl, ?_⟩) ?_ ?_
     rotate_left
     ·exact gz
     rotate_left
     ·exact pz
     refine pure_ (i := 14) (N := some 19) (v := undef) (a' := ?_) #[T, T, T, T, T, T, T, T, T, T, T, T, T, T, T, F, F, F] rfl rfl (any_of HT_.out (by kernel_rfl)) (fun _ _ _ h => h) (Or.inr ⟨by rfl, rfl⟩) ?_ ?_
     rotate_left
     ·exact pz
     refine pure_ (i := 15) (N := some 20) (v := undef) (a' := ?_) #[T, T, T, T, T, T, T, T, T, T, T, T, T, T, T, T, F, F] rfl rfl (any_of HT_.out (by kernel_rfl)) (fun _ _ _ h => h) (Or.inr ⟨by rfl, rfl⟩) ?_ ?_
     rotate_left
     ·exact pz
     refine pure_ (i := 16) (N := some 21) (v := undef) (a' := ?_) #[T, T, T, T, T, T, T, T, T, T, T, T, T, T, T, T, T, F] rfl rfl (any_of HT_.out (by kernel_rfl)) (fun _ _ _ h => h) (Or.inr ⟨by rfl, rfl⟩) ?_ ?_
     rotate_left
     ·exact pz
     refine pure_ (i := 17) (N := some 22) (v := ?_) (a' := ?_) #[T, T, T, T, T, T, T, T, T, T, T, T, T, T, T, T, T, T] rfl rfl (any_of HT_.out (by kernel_rfl)) (fun _ _ _ h => h) (Or.inl ⟨by rfl, ?_⟩) ?_ ?_
     rotate_left
     ·exact gz
     rotate_left
     ·exact pz
     refine done_ (done_of HT_.out (by kernel_rfl)) ?_
     try go_wp2
     go_meet
     case rel => exact ⟨_, (true), (by first | rfl | (simp; done) | (simp [*]; done)), H', ⟨by first | omega | exact Nat.le_refl _⟩, ⟨Z BK118⟩, ⟨Z BK119⟩, ⟨Z BK120⟩, ⟨Y3 HB GE118 GE119 GE120⟩⟩
    ·rw [if_neg c12] at H
     have c12b0 : (a0_0 == t123 && (a0_1 == t124)) = false := by simpa using c12
     (try (have c12b1 : decide (a0_0 = t123 && (a0_1 == t124)) = false := by simpa using c12))
     (try (have c12b2 : (a0_0 == t123 && (a0_1 == t124)) = false := by simpa using c12))
     (try (have c12b3 : ¬ (a0_0 = t123 && (a0_1 == t124)) := by simpa using c12))
     clear c12
     (first | rw [c12b0] | (simp only [i64_w, i32_w]; rw [c12b0]) | skip)
     replace H := Option.bind_eq_some_iff.mp H
     obtain ⟨⟨t125, t126⟩, A170, H⟩ := H
     replace H : (spec_RangeMeet.j0 k (a1_0 == t125 && (a1_1 == t126)) a0_0 a0_1 a1_0 a1_1) = some (r1, r2) := H
     have A17 := am A170
     clear A170
     have H' := am H
     clear H
     try go_wp2
     have n0_ := am (blk_drew BK118.out)
     have n1_ := am (blk_drew BK119.out)
     have n2_ := am (blk_drew BK120.out)
     have n3_ := am (below_drew1 HB.out)
     clear BK118
     clear BK119
     clear BK120
     clear HB
     have BK118 := n0_
     have BK119 := n1_
     have BK120 := n2_
     have HB := n3_
     clear n0_ n1_ n2_ n3_
     refine start_ (n := 18) (S := fun w' => w'.cell? ⟨gb118, 0, none⟩ = some (.int .i64 a0_0) ∧ w'.cell? ⟨gb118, 1, none⟩ = some (.int .i64 a0_1) ∧ w'.cell? ⟨gb119, 0, none⟩ = some (.int .i64 a1_0) ∧ w'.cell? ⟨gb119, 1, none⟩ = some (.int .i64 a1_1)) (ds := []) #[F, F, F, F, F, F, F, F, F, F, F, F, F, F, F, F, F, F] (by kernel_rfl) rfl rfl ⟨bc BK118 0, bc BK118 1, bc BK119 0, bc BK119 1⟩ (fun hHeld => ?_); refine with_tabW spec_RangeMeet.tab1 spec_RangeMeet.bits1 (fun HT_ HW_ => ?_)
     generalize w6.drew = w18 at BK118 BK119 BK120 HB hHeld ⊢
     refine take_ (i := 0) (N := some 5) (v := ?_) (a' := ?_) #[T, F, F, F, F, F, F, F, F, F, F, F, F, F, F, F, F, F] rfl rfl (take_ofW HT_.out HW_.out (by kernel_rfl)) (fun _ _ _ h => h) (Or.inl ⟨by rfl, ?_⟩) hHeld ?_ ?_
     rotate_left
     ·rintro w' ⟨s0, s1, s2, s3⟩
      go_simp
      with_reducible rfl
     rotate_left
     ·exact pz
     refine one_ (i := 1) (N := some 6) #[T, T, F, F, F, F, F, F, F, F, F, F, F, F, F, F, F, F] rfl rfl (one_of HT_.out (by kernel_rfl)) (by decide) (fun K hK => ?_)
     refine goes_ Try.func47 (by kernel_rfl) rfl #[.agg #[.int .i64 a0_0, .int .i64 a0_1]] (by rfl) rfl rfl mz ?_
     with_reducible refine (spec_RangeOk.calls a0_0 a0_1 true _ A7.out).mono ?_
     rintro e w19 ⟨rfl, hb⟩
     refine ⟨_, rfl, ?_⟩
     have n0_ := am (blk_below (g := gb118) (o := b2 a0_0 a0_1 24) (Z BK118) hb)
     have n1_ := am (blk_below (g := gb119) (o := b2 a1_0 a1_1 24) (Z BK119) hb)
     have n2_ := am (blk_below (g := gb120) (o := b2 0 0 24) (Z BK120) hb)
     have n3_ := am (below_step (Y3 HB GE118 GE119 GE120) hb)
     clear BK118
     clear BK119
     clear BK120
     clear HB
     have BK118 := n0_
     have BK119 := n1_
     have BK120 := n2_
     have HB := n3_
     clear n0_ n1_ n2_ n3_
     (try clear hb)
     (try clear hb2)
     (try clear hk)
     (try clear hi)
     refine hK.out _ _ ⟨bc BK118 0, bc BK118 1, bc BK119 0, bc BK119 1⟩ (fun hHeld => ?_)
     clear hK K
     refine norm_ (a' := ?_) ?_ ?_
     rotate_left
     ·show Act.put _ (some 6) _ = _
      simp only [Act.put, List.setIfInBounds_toArray, List.set_cons_zero, List.set_cons_succ, i64_w, i32_w]
      rfl
     refine pure_ (i := 2) (N := some 7) (v := ?_) (a' := ?_) #[T, T, T, F, F, F, F, F, F, F, F, F, F, F, F, F, F, F] rfl rfl (any_of HT_.out (by kernel_rfl)) (fun _ _ _ h => h) (Or.inl ⟨by rfl, ?_⟩) ?_ ?_
     rotate_left
     ·exact gz
     rotate_left
     ·exact pz
     refine pure_ (i := 3) (N := some 8) (v := ?_) (a' := ?_) #[T, T, T, T, F, F, F, F, F, F, F, F, F, F, F, F, F, F] rfl rfl (any_of HT_.out (by kernel_rfl)) (fun _ _ _ h => h) (Or.inl ⟨by rfl, ?_⟩) ?_ ?_
     rotate_left
     ·exact gz
     rotate_left
     ·exact pz
     refine take_ (i := 4) (N := some 9) (v := ?_) (a' := ?_) #[T, T, T, T, T, F, F, F, F, F, F, F, F, F, F, F, F, F] rfl rfl (take_ofW HT_.out HW_.out (by kernel_rfl)) (fun _ _ _ h => h) (Or.inl ⟨by rfl, ?_⟩) hHeld ?_ ?_
     rotate_left
     ·rintro w' ⟨s0, s1, s2, s3⟩
      go_simp
      with_reducible rfl
     rotate_left
     ·exact pz
     refine one_ (i := 5) (N := some 10) #[T, T, T, T, T, T, F, F, F, F, F, F, F, F, F, F, F, F] rfl rfl (one_of HT_.out (by kernel_rfl)) (by decide) (fun K hK => ?_)
     refine goes_ Try.func47 (by kernel_rfl) rfl #[.agg #[.int .i64 a1_0, .int .i64 a1_1]] (by rfl) rfl rfl mz ?_
     with_reducible refine (spec_RangeOk.calls a1_0 a1_1 true _ A9.out).mono ?_
     rintro e w20 ⟨rfl, hb⟩
     refine ⟨_, rfl, ?_⟩
     have n0_ := am (blk_below (g := gb118) (o := b2 a0_0 a0_1 24) (Z BK118) hb)
     have n1_ := am (blk_below (g := gb119) (o := b2 a1_0 a1_1 24) (Z BK119) hb)
     have n2_ := am (blk_below (g := gb120) (o := b2 0 0 24) (Z BK120) hb)
     have n3_ := am (below_step (Y3 HB GE118 GE119 GE120) hb)
     clear BK118
     clear BK119
     clear BK120
     clear HB
     have BK118 := n0_
     have BK119 := n1_
     have BK120 := n2_
     have HB := n3_
     clear n0_ n1_ n2_ n3_
     (try clear hb)
     (try clear hb2)
     (try clear hk)
     (try clear hi)
     refine hK.out _ _ ⟨bc BK118 0, bc BK118 1, bc BK119 0, bc BK119 1⟩ (fun hHeld => ?_)
     clear hK K
     refine norm_ (a' := ?_) ?_ ?_
     rotate_left
     ·show Act.put _ (some 10) _ = _
      simp only [Act.put, List.setIfInBounds_toArray, List.set_cons_zero, List.set_cons_succ, i64_w, i32_w]
      rfl
     refine pure_ (i := 6) (N := some 11) (v := ?_) (a' := ?_) #[T, T, T, T, T, T, T, F, F, F, F, F, F, F, F, F, F, F] rfl rfl (any_of HT_.out (by kernel_rfl)) (fun _ _ _ h => h) (Or.inl ⟨by rfl, ?_⟩) ?_ ?_
     rotate_left
     ·exact gz
     rotate_left
     ·exact pz
     refine pure_ (i := 7) (N := some 12) (v := ?_) (a' := ?_) #[T, T, T, T, T, T, T, T, F, F, F, F, F, F, F, F, F, F] rfl rfl (any_of HT_.out (by kernel_rfl)) (fun _ _ _ h => h) (Or.inl ⟨by rfl, ?_⟩) ?_ ?_
     rotate_left
     ·exact gz
     rotate_left
     ·exact pz
     refine pure_ (i := 8) (N := some 13) (v := ?_) (a' := ?_) #[T, T, T, T, T, T, T, T, T, F, F, F, F, F, F, F, F, F] rfl rfl (any_of HT_.out (by kernel_rfl)) (fun _ _ _ h => h) (Or.inl ⟨by rfl, ?_⟩) ?_ ?_
     rotate_left
     ·exact gz
     rotate_left
     ·exact pz
     refine take_ (i := 9) (N := some 14) (v := ?_) (a' := ?_) #[T, T, T, T, T, T, T, T, T, T, F, F, F, F, F, F, F, F] rfl rfl (take_ofW HT_.out HW_.out (by kernel_rfl)) (fun _ _ _ h => h) (Or.inl ⟨by rfl, ?_⟩) hHeld ?_ ?_
     rotate_left
     ·rintro w' ⟨s0, s1, s2, s3⟩
      go_simp
      with_reducible rfl
     rotate_left
     ·exact pz
     refine one_ (i := 10) (N := some 15) #[T, T, T, T, T, T, T, T, T, T, T, F, F, F, F, F, F, F] rfl rfl (one_of HT_.out (by kernel_rfl)) (by decide) (fun K hK => ?_)
     refine goes_ Try.func48 (by kernel_rfl) rfl #[] (by rfl) rfl rfl mz ?_
     with_reducible refine (spec_l8None.calls  t123 t124 _ A11.out).mono ?_
     rintro e w21 ⟨rfl, hb⟩
     refine ⟨_, rfl, ?_⟩
     have n0_ := am (blk_below (g := gb118) (o := b2 a0_0 a0_1 24) (Z BK118) hb)
     have n1_ := am (blk_below (g := gb119) (o := b2 a1_0 a1_1 24) (Z BK119) hb)
     have n2_ := am (blk_below (g := gb120) (o := b2 0 0 24) (Z BK120) hb)
     have n3_ := am (below_step (Y3 HB GE118 GE119 GE120) hb)
     clear BK118
     clear BK119
     clear BK120
     clear HB
     have BK118 := n0_
     have BK119 := n1_
     have BK120 := n2_
     have HB := n3_
     clear n0_ n1_ n2_ n3_
     (try clear hb)
     (try clear hb2)
     (try clear hk)
     (try clear hi)
     refine hK.out _ _ ⟨bc BK118 0, bc BK118 1, bc BK119 0, bc BK119 1⟩ (fun hHeld => ?_)
     clear hK K
     refine norm_ (a' := ?_) ?_ ?_
     rotate_left
     ·show Act.put _ (some 15) _ = _
      simp only [Act.put, List.setIfInBounds_toArray, List.set_cons_zero, List.set_cons_succ, i64_w, i32_w]
      rfl
     refine pure_ (i := 11) (N := some 16) (v := ?_) (a' := ?_) #[T, T, T, T, T, T, T, T, T, T, T, T, F, F, F, F, F, F] rfl rfl (any_of HT_.out (by kernel_rfl)) (fun _ _ _ h => h) (Or.inl ⟨by rfl, ?_⟩) ?_ ?_
     rotate_left
     ·exact gz
     rotate_left
     ·exact pz
     refine pure_ (i := 12) (N := some 17) (v := ?_) (a' := ?_) #[T, T, T, T, T, T, T, T, T, T, T, T, T, F, F, F, F, F] rfl rfl (any_of HT_.out (by kernel_rfl)) (fun _ _ _ h => h) (Or.inl ⟨by rfl, ?_⟩) ?_ ?_
     rotate_left
     ·exact gz
     rotate_left
     ·exact pz
     refine pure_ (i := 13) (N := some 18) (v := ?_) (a' := ?_) #[T, T, T, T, T, T, T, T, T, T, T, T, T, T, F, F, F, F] rfl rfl (any_of HT_.out (by kernel_rfl)) (fun _ _ _ h => h) (Or.inl ⟨by rfl, ?_⟩) ?_ ?_
     rotate_left
     ·exact gz
     rotate_left
     ·exact pz
     refine take_ (i := 14) (N := some 19) (v := ?_) (a' := ?_) #[T, T, T, T, T, T, T, T, T, T, T, T, T, T, T, F, F, F] rfl rfl (take_ofW HT_.out HW_.out (by kernel_rfl)) (fun _ _ _ h => h) (Or.inl ⟨by rfl, ?_⟩) hHeld ?_ ?_
     rotate_left
     ·rintro w' ⟨s0, s1, s2, s3⟩
      go_simp
      with_reducible rfl
     rotate_left
     ·exact pz
     refine one_ (i := 15) (N := some 20) #[T, T, T, T, T, T, T, T, T, T, T, T, T, T, T, T, F, F] rfl rfl (one_of HT_.out (by kernel_rfl)) (by decide) (fun K hK => ?_)
     refine goes_ Try.func48 (by kernel_rfl) rfl #[] (by rfl) rfl rfl mz ?_
     with_reducible refine (spec_l8None.calls  t125 t126 _ A17.out).mono ?_
     rintro e w22 ⟨rfl, hb⟩
     refine ⟨_, rfl, ?_⟩
     have n0_ := am (blk_below (g := gb118) (o := b2 a0_0 a0_1 24) (Z BK118) hb)
     have n1_ := am (blk_below (g := gb119) (o := b2 a1_0 a1_1 24) (Z BK119) hb)
     have n2_ := am (blk_below (g := gb120) (o := b2 0 0 24) (Z BK120) hb)
     have n3_ := am (below_step (Y3 HB GE118 GE119 GE120) hb)
     clear BK118
     clear BK119
     clear BK120
     clear HB
     have BK118 := n0_
     have BK119 := n1_
     have BK120 := n2_
     have HB := n3_
     clear n0_ n1_ n2_ n3_
     (try clear hb)
     (try clear hb2)
     (try clear hk)
     (try clear hi)
     refine hK.out _ _ ⟨bc BK118 0, bc BK118 1, bc BK119 0, bc BK119 1⟩ (fun hHeld => ?_)
     clear hK K
     refine norm_ (a' := ?_) ?_ ?_
     rotate_left
     ·show Act.put _ (some 20) _ = _
      simp only [Act.put, List.setIfInBounds_toArray, List.set_cons_zero, List.set_cons_succ, i64_w, i32_w]
      rfl
     refine pure_ (i := 16) (N := some 21) (v := ?_) (a' := ?_) #[T, T, T, T, T, T, T, T, T, T, T, T, T, T, T, T, T, F] rfl rfl (any_of HT_.out (by kernel_rfl)) (fun _ _ _ h => h) (Or.inl ⟨by rfl, ?_⟩) ?_ ?_
     rotate_left
     ·exact gz
     rotate_left
     ·exact pz
     refine pure_ (i := 17) (N := some 22) (v := ?_) (a' := ?_) #[T, T, T, T, T, T, T, T, T, T, T, T, T, T, T, T, T, T] rfl rfl (any_of HT_.out (by kernel_rfl)) (fun _ _ _ h => h) (Or.inl ⟨by rfl, ?_⟩) ?_ ?_
     rotate_left
     ·exact gz
     rotate_left
     ·exact pz
     refine done_ (done_of HT_.out (by kernel_rfl)) ?_
     try go_wp2
     go_meet
     case rel => exact ⟨_, ((a1_0 == t125 && (a1_1 == t126))), (by first | rfl | (simp; done) | (simp [*]; done)), H', ⟨by first | omega | exact Nat.le_refl _⟩, ⟨Z BK118⟩, ⟨Z BK119⟩, ⟨Z BK120⟩, ⟨Y3 HB GE118 GE119 GE120⟩⟩
   ·replace c10 := Bool.eq_false_iff.mpr c10
    subst c10
    have H1 : (spec_RangeMeet.j0 k true a0_0 a0_1 a1_0 a1_1) = some (r1, r2) := by rw [if_neg (show ¬ (false = true) by decide)] at H; exact H
    clear H
    have H := H1
    clear H1
    have H' := am H
    clear H
    try go_wp2
    have n0_ := am (blk_drew BK118.out)
    have n1_ := am (blk_drew BK119.out)
    have n2_ := am (blk_drew BK120.out)
    have n3_ := am (below_drew1 HB.out)
    clear BK118
    clear BK119
    clear BK120
    clear HB
    have BK118 := n0_
    have BK119 := n1_
    have BK120 := n2_
    have HB := n3_
    clear n0_ n1_ n2_ n3_
    refine start_ (n := 18) (S := fun w' => w'.cell? ⟨gb118, 0, none⟩ = some (.int .i64 a0_0) ∧ w'.cell? ⟨gb118, 1, none⟩ = some (.int .i64 a0_1) ∧ w'.cell? ⟨gb119, 0, none⟩ = some (.int .i64 a1_0) ∧ w'.cell? ⟨gb119, 1, none⟩ = some (.int .i64 a1_1)) (ds := []) #[F, F, F, F, F, F, F, F, F, F, F, F, F, F, F, F, F, F] (by kernel_rfl) rfl rfl ⟨bc BK118 0, bc BK118 1, bc BK119 0, bc BK119 1⟩ (fun hHeld => ?_); refine with_tabW spec_RangeMeet.tab1 spec_RangeMeet.bits1 (fun HT_ HW_ => ?_)
    generalize w6.drew = w23 at BK118 BK119 BK120 HB hHeld ⊢
    refine take_ (i := 0) (N := some 5) (v := ?_) (a' := ?_) #[T, F, F, F, F, F, F, F, F, F, F, F, F, F, F, F, F, F] rfl rfl (take_ofW HT_.out HW_.out (by kernel_rfl)) (fun _ _ _ h => h) (Or.inl ⟨by rfl, ?_⟩) hHeld ?_ ?_
    rotate_left
    ·rintro w' ⟨s0, s1, s2, s3⟩
     go_simp
     with_reducible rfl
    rotate_left
    ·exact pz
    refine one_ (i := 1) (N := some 6) #[T, T, F, F, F, F, F, F, F, F, F, F, F, F, F, F, F, F] rfl rfl (one_of HT_.out (by kernel_rfl)) (by decide) (fun K hK => ?_)
    refine goes_ Try.func47 (by kernel_rfl) rfl #[.agg #[.int .i64 a0_0, .int .i64 a0_1]] (by rfl) rfl rfl mz ?_
    with_reducible refine (spec_RangeOk.calls a0_0 a0_1 true _ A7.out).mono ?_
    rintro e w24 ⟨rfl, hb⟩
    refine ⟨_, rfl, ?_⟩
    have n0_ := am (blk_below (g := gb118) (o := b2 a0_0 a0_1 24) (Z BK118) hb)
    have n1_ := am (blk_below (g := gb119) (o := b2 a1_0 a1_1 24) (Z BK119) hb)
    have n2_ := am (blk_below (g := gb120) (o := b2 0 0 24) (Z BK120) hb)
    have n3_ := am (below_step (Y3 HB GE118 GE119 GE120) hb)
    clear BK118
    clear BK119
    clear BK120
    clear HB
    have BK118 := n0_
    have BK119 := n1_
    have BK120 := n2_
    have HB := n3_
    clear n0_ n1_ n2_ n3_
    (try clear hb)
    (try clear hb2)
    (try clear hk)
    (try clear hi)
    refine hK.out _ _ ⟨bc BK118 0, bc BK118 1, bc BK119 0, bc BK119 1⟩ (fun hHeld => ?_)
    clear hK K
    refine norm_ (a' := ?_) ?_ ?_
    rotate_left
    ·show Act.put _ (some 6) _ = _
     simp only [Act.put, List.setIfInBounds_toArray, List.set_cons_zero, List.set_cons_succ, i64_w, i32_w]
     rfl
    refine pure_ (i := 2) (N := some 7) (v := ?_) (a' := ?_) #[T, T, T, F, F, F, F, F, F, F, F, F, F, F, F, F, F, F] rfl rfl (any_of HT_.out (by kernel_rfl)) (fun _ _ _ h => h) (Or.inl ⟨by rfl, ?_⟩) ?_ ?_
    rotate_left
    ·exact gz
    rotate_left
    ·exact pz
    refine pure_ (i := 3) (N := some 8) (v := ?_) (a' := ?_) #[T, T, T, T, F, F, F, F, F, F, F, F, F, F, F, F, F, F] rfl rfl (any_of HT_.out (by kernel_rfl)) (fun _ _ _ h => h) (Or.inl ⟨by rfl, ?_⟩) ?_ ?_
    rotate_left
    ·exact gz
    rotate_left
    ·exact pz
    refine take_ (i := 4) (N := some 9) (v := ?_) (a' := ?_) #[T, T, T, T, T, F, F, F, F, F, F, F, F, F, F, F, F, F] rfl rfl (take_ofW HT_.out HW_.out (by kernel_rfl)) (fun _ _ _ h => h) (Or.inl ⟨by rfl, ?_⟩) hHeld ?_ ?_
    rotate_left
    ·rintro w' ⟨s0, s1, s2, s3⟩
     go_simp
     with_reducible rfl
    rotate_left
    ·exact pz
    refine one_ (i := 5) (N := some 10) #[T, T, T, T, T, T, F, F, F, F, F, F, F, F, F, F, F, F] rfl rfl (one_of HT_.out (by kernel_rfl)) (by decide) (fun K hK => ?_)
    refine goes_ Try.func47 (by kernel_rfl) rfl #[.agg #[.int .i64 a1_0, .int .i64 a1_1]] (by rfl) rfl rfl mz ?_
    with_reducible refine (spec_RangeOk.calls a1_0 a1_1 false _ A9.out).mono ?_
    rintro e w25 ⟨rfl, hb⟩
    refine ⟨_, rfl, ?_⟩
    have n0_ := am (blk_below (g := gb118) (o := b2 a0_0 a0_1 24) (Z BK118) hb)
    have n1_ := am (blk_below (g := gb119) (o := b2 a1_0 a1_1 24) (Z BK119) hb)
    have n2_ := am (blk_below (g := gb120) (o := b2 0 0 24) (Z BK120) hb)
    have n3_ := am (below_step (Y3 HB GE118 GE119 GE120) hb)
    clear BK118
    clear BK119
    clear BK120
    clear HB
    have BK118 := n0_
    have BK119 := n1_
    have BK120 := n2_
    have HB := n3_
    clear n0_ n1_ n2_ n3_
    (try clear hb)
    (try clear hb2)
    (try clear hk)
    (try clear hi)
    refine hK.out _ _ ⟨bc BK118 0, bc BK118 1, bc BK119 0, bc BK119 1⟩ (fun hHeld => ?_)
    clear hK K
    refine norm_ (a' := ?_) ?_ ?_
    rotate_left
    ·show Act.put _ (some 10) _ = _
     simp only [Act.put, List.setIfInBounds_toArray, List.set_cons_zero, List.set_cons_succ, i64_w, i32_w]
     rfl
    refine pure_ (i := 6) (N := some 11) (v := ?_) (a' := ?_) #[T, T, T, T, T, T, T, F, F, F, F, F, F, F, F, F, F, F] rfl rfl (any_of HT_.out (by kernel_rfl)) (fun _ _ _ h => h) (Or.inl ⟨by rfl, ?_⟩) ?_ ?_
    rotate_left
    ·exact gz
    rotate_left
    ·exact pz
    refine pure_ (i := 7) (N := some 12) (v := ?_) (a' := ?_) #[T, T, T, T, T, T, T, T, F, F, F, F, F, F, F, F, F, F] rfl rfl (any_of HT_.out (by kernel_rfl)) (fun _ _ _ h => h) (Or.inl ⟨by rfl, ?_⟩) ?_ ?_
    rotate_left
    ·exact gz
    rotate_left
    ·exact pz
    refine pure_ (i := 8) (N := some 13) (v := ?_) (a' := ?_) #[T, T, T, T, T, T, T, T, T, F, F, F, F, F, F, F, F, F] rfl rfl (any_of HT_.out (by kernel_rfl)) (fun _ _ _ h => h) (Or.inl ⟨by rfl, ?_⟩) ?_ ?_
    rotate_left
    ·exact gz
    rotate_left
    ·exact pz
    refine pure_ (i := 9) (N := some 14) (v := undef) (a' := ?_) #[T, T, T, T, T, T, T, T, T, T, F, F, F, F, F, F, F, F] rfl rfl (any_of HT_.out (by kernel_rfl)) (fun _ _ _ h => h) (Or.inr ⟨by rfl, rfl⟩) ?_ ?_
    rotate_left
    ·exact pz
    refine pure_ (i := 10) (N := some 15) (v := undef) (a' := ?_) #[T, T, T, T, T, T, T, T, T, T, T, F, F, F, F, F, F, F] rfl rfl (any_of HT_.out (by kernel_rfl)) (fun _ _ _ h => h) (Or.inr ⟨by rfl, rfl⟩) ?_ ?_
    rotate_left
    ·exact pz
    refine pure_ (i := 11) (N := some 16) (v := undef) (a' := ?_) #[T, T, T, T, T, T, T, T, T, T, T, T, F, F, F, F, F, F] rfl rfl (any_of HT_.out (by kernel_rfl)) (fun _ _ _ h => h) (Or.inr ⟨by rfl, rfl⟩) ?_ ?_
    rotate_left
    ·exact pz
    refine pure_ (i := 12) (N := some 17) (v := ?_) (a' := ?_) #[T, T, T, T, T, T, T, T, T, T, T, T, T, F, F, F, F, F] rfl rfl (any_of HT_.out (by kernel_rfl)) (fun _ _ _ h => h) (Or.inl ⟨by rfl, ?_⟩) ?_ ?_
    rotate_left
    ·exact gz
    rotate_left
    ·exact pz
    refine pure_ (i := 13) (N := some 18) (v := ?_) (a' := ?_) #[T, T, T, T, T, T, T, T, T, T, T, T, T, T, F, F, F, F] rfl rfl (any_of HT_.out (by kernel_rfl)) (fun _ _ _ h => h) (Or.inl ⟨by rfl, ?_⟩) ?_ ?_
    rotate_left
    ·exact gz
    rotate_left
    ·exact pz
    refine pure_ (i := 14) (N := some 19) (v := undef) (a' := ?_) #[T, T, T, T, T, T, T, T, T, T, T, T, T, T, T, F, F, F] rfl rfl (any_of HT_.out (by kernel_rfl)) (fun _ _ _ h => h) (Or.inr ⟨by rfl, rfl⟩) ?_ ?_
    rotate_left
    ·exact pz
    refine pure_ (i := 15) (N := some 20) (v := undef) (a' := ?_) #[T, T, T, T, T, T, T, T, T, T, T, T, T, T, T, T, F, F] rfl rfl (any_of HT_.out (by kernel_rfl)) (fun _ _ _ h => h) (Or.inr ⟨by rfl, rfl⟩) ?_ ?_
    rotate_left
    ·exact pz
    refine pure_ (i := 16) (N := some 21) (v := undef) (a' := ?_) #[T, T, T, T, T, T, T, T, T, T, T, T, T, T, T, T, T, F] rfl rfl (any_of HT_.out (by kernel_rfl)) (fun _ _ _ h => h) (Or.inr ⟨by rfl, rfl⟩) ?_ ?_
    rotate_left
    ·exact pz
    refine pure_ (i := 17) (N := some 22) (v := ?_) (a' := ?_) #[T, T, T, T, T, T, T, T, T, T, T, T, T, T, T, T, T, T] rfl rfl (any_of HT_.out (by kernel_rfl)) (fun _ _ _ h => h) (Or.inl ⟨by rfl, ?_⟩) ?_ ?_
    rotate_left
    ·exact gz
    rotate_left
    ·exact pz
    refine done_ (done_of HT_.out (by kernel_rfl)) ?_
    try go_wp2
    go_meet
    case rel => exact ⟨_, (true), (by first | rfl | (simp; done) | (simp [*]; done)), H', ⟨by first | omega | exact Nat.le_refl _⟩, ⟨Z BK118⟩, ⟨Z BK119⟩, ⟨Z BK120⟩, ⟨Y3 HB GE118 GE119 GE120⟩⟩
  ·replace c8 := Bool.eq_false_iff.mpr c8
   subst c8
   have H1 : (spec_RangeMeet.j0 k true a0_0 a0_1 a1_0 a1_1) = some (r1, r2) := by rw [if_neg (show ¬ (false = true) by decide)] at H; exact H
   clear H
   have H := H1
   clear H1
   have H' := am H
   clear H
   try go_wp2
   have n0_ := am (blk_drew BK118.out)
   have n1_ := am (blk_drew BK119.out)
   have n2_ := am (blk_drew BK120.out)
   have n3_ := am (below_drew1 HB.out)
   clear BK118
   clear BK119
   clear BK120
   clear HB
   have BK118 := n0_
   have BK119 := n1_
   have BK120 := n2_
   have HB := n3_
   clear n0_ n1_ n2_ n3_
   refine start_ (n := 18) (S := fun w' => w'.cell? ⟨gb118, 0, none⟩ = some (.int .i64 a0_0) ∧ w'.cell? ⟨gb118, 1, none⟩ = some (.int .i64 a0_1)) (ds := []) #[F, F, F, F, F, F, F, F, F, F, F, F, F, F, F, F, F, F] (by kernel_rfl) rfl rfl ⟨bc BK118 0, bc BK118 1⟩ (fun hHeld => ?_); refine with_tabW spec_RangeMeet.tab1 spec_RangeMeet.bits1 (fun HT_ HW_ => ?_)
   generalize w6.drew = w26 at BK118 BK119 BK120 HB hHeld ⊢
   refine take_ (i := 0) (N := some 5) (v := ?_) (a' := ?_) #[T, F, F, F, F, F, F, F, F, F, F, F, F, F, F, F, F, F] rfl rfl (take_ofW HT_.out HW_.out (by kernel_rfl)) (fun _ _ _ h => h) (Or.inl ⟨by rfl, ?_⟩) hHeld ?_ ?_
   rotate_left
   ·rintro w' ⟨s0, s1⟩
    go_simp
    with_reducible rfl
   rotate_left
   ·exact pz
   refine one_ (i := 1) (N := some 6) #[T, T, F, F, F, F, F, F, F, F, F, F, F, F, F, F, F, F] rfl rfl (one_of HT_.out (by kernel_rfl)) (by decide) (fun K hK => ?_)
   refine goes_ Try.func47 (by kernel_rfl) rfl #[.agg #[.int .i64 a0_0, .int .i64 a0_1]] (by rfl) rfl rfl mz ?_
   with_reducible refine (spec_RangeOk.calls a0_0 a0_1 false _ A7.out).mono ?_
   rintro e w27 ⟨rfl, hb⟩
   refine ⟨_, rfl, ?_⟩
   have n0_ := am (blk_below (g := gb118) (o := b2 a0_0 a0_1 24) (Z BK118) hb)
   have n1_ := am (blk_below (g := gb119) (o := b2 a1_0 a1_1 24) (Z BK119) hb)
   have n2_ := am (blk_below (g := gb120) (o := b2 0 0 24) (Z BK120) hb)
   have n3_ := am (below_step (Y3 HB GE118 GE119 GE120) hb)
   clear BK118
   clear BK119
   clear BK120
   clear HB
   have BK118 := n0_
   have BK119 := n1_
   have BK120 := n2_
   have HB := n3_
   clear n0_ n1_ n2_ n3_
   (try clear hb)
   (try clear hb2)
   (try clear hk)
   (try clear hi)
   refine hK.out _ _ ⟨bc BK118 0, bc BK118 1⟩ (fun hHeld => ?_)
   clear hK K
   refine norm_ (a' := ?_) ?_ ?_
   rotate_left
   ·show Act.put _ (some 6) _ = _
    simp only [Act.put, List.setIfInBounds_toArray, List.set_cons_zero, List.set_cons_succ, i64_w, i32_w]
    rfl
   refine pure_ (i := 2) (N := some 7) (v := ?_) (a' := ?_) #[T, T, T, F, F, F, F, F, F, F, F, F, F, F, F, F, F, F] rfl rfl (any_of HT_.out (by kernel_rfl)) (fun _ _ _ h => h) (Or.inl ⟨by rfl, ?_⟩) ?_ ?_
   rotate_left
   ·exact gz
   rotate_left
   ·exact pz
   refine pure_ (i := 3) (N := some 8) (v := ?_) (a' := ?_) #[T, T, T, T, F, F, F, F, F, F, F, F, F, F, F, F, F, F] rfl rfl (any_of HT_.out (by kernel_rfl)) (fun _ _ _ h => h) (Or.inl ⟨by rfl, ?_⟩) ?_ ?_
   rotate_left
   ·exact gz
   rotate_left
   ·exact pz
   refine pure_ (i := 4) (N := some 9) (v := undef) (a' := ?_) #[T, T, T, T, T, F, F, F, F, F, F, F, F, F, F, F, F, F] rfl rfl (any_of HT_.out (by kernel_rfl)) (fun _ _ _ h => h) (Or.inr ⟨by rfl, rfl⟩) ?_ ?_
   rotate_left
   ·exact pz
   refine pure_ (i := 5) (N := some 10) (v := undef) (a' := ?_) #[T, T, T, T, T, T, F, F, F, F, F, F, F, F, F, F, F, F] rfl rfl (any_of HT_.out (by kernel_rfl)) (fun _ _ _ h => h) (Or.inr ⟨by rfl, rfl⟩) ?_ ?_
   rotate_left
   ·exact pz
   refine pure_ (i := 6) (N := some 11) (v := undef) (a' := ?_) #[T, T, T, T, T, T, T, F, F, F, F, F, F, F, F, F, F, F] rfl rfl (any_of HT_.out (by kernel_rfl)) (fun _ _ _ h => h) (Or.inr ⟨by rfl, rfl⟩) ?_ ?_
   rotate_left
   ·exact pz
   refine pure_ (i := 7) (N := some 12) (v := ?_) (a' := ?_) #[T, T, T, T, T, T, T, T, F, F, F, F, F, F, F, F, F, F] rfl rfl (any_of HT_.out (by kernel_rfl)) (fun _ _ _ h => h) (Or.inl ⟨by rfl, ?_⟩) ?_ ?_
   rotate_left
   ·exact gz
   rotate_left
   ·exact pz
   refine pure_ (i := 8) (N := some 13) (v := ?_) (a' := ?_) #[T, T, T, T, T, T, T, T, T, F, F, F, F, F, F, F, F, F] rfl rfl (any_of HT_.out (by kernel_rfl)) (fun _ _ _ h => h) (Or.inl ⟨by rfl, ?_⟩) ?_ ?_
   rotate_left
   ·exact gz
   rotate_left
   ·exact pz
   refine pure_ (i := 9) (N := some 14) (v := undef) (a' := ?_) #[T, T, T, T, T, T, T, T, T, T, F, F, F, F, F, F, F, F] rfl rfl (any_of HT_.out (by kernel_rfl)) (fun _ _ _ h => h) (Or.inr ⟨by rfl, rfl⟩) ?_ ?_
   rotate_left
   ·exact pz
   refine pure_ (i := 10) (N := some 15) (v := undef) (a' := ?_) #[T, T, T, T, T, T, T, T, T, T, T, F, F, F, F, F, F, F] rfl rfl (any_of HT_.out (by kernel_rfl)) (fun _ _ _ h => h) (Or.inr ⟨by rfl, rfl⟩) ?_ ?_
   rotate_left
   ·exact pz
   refine pure_ (i := 11) (N := some 16) (v := undef) (a' := ?_) #[T, T, T, T, T, T, T, T, T, T, T, T, F, F, F, F, F, F] rfl rfl (any_of HT_.out (by kernel_rfl)) (fun _ _ _ h => h) (Or.inr ⟨by rfl, rfl⟩) ?_ ?_
   rotate_left
   ·exact pz
   refine pure_ (i := 12) (N := some 17) (v := ?_) (a' := ?_) #[T, T, T, T, T, T, T, T, T, T, T, T, T, F, F, F, F, F] rfl rfl (any_of HT_.out (by kernel_rfl)) (fun _ _ _ h => h) (Or.inl ⟨by rfl, ?_⟩) ?_ ?_
   rotate_left
   ·exact gz
   rotate_left
   ·exact pz
   refine pure_ (i := 13) (N := some 18) (v := ?_) (a' := ?_) #[T, T, T, T, T, T, T, T, T, T, T, T, T, T, F, F, F, F] rfl rfl (any_of HT_.out (by kernel_rfl)) (fun _ _ _ h => h) (Or.inl ⟨by rfl, ?_⟩) ?_ ?_
   rotate_left
   ·exact gz
   rotate_left
   ·exact pz
   refine pure_ (i := 14) (N := some 19) (v := undef) (a' := ?_) #[T, T, T, T, T, T, T, T, T, T, T, T, T, T, T, F, F, F] rfl rfl (any_of HT_.out (by kernel_rfl)) (fun _ _ _ h => h) (Or.inr ⟨by rfl, rfl⟩) ?_ ?_
   rotate_left
   ·exact pz
   refine pure_ (i := 15) (N := some 20) (v := undef) (a' := ?_) #[T, T, T, T, T, T, T, T, T, T, T, T, T, T, T, T, F, F] rfl rfl (any_of HT_.out (by kernel_rfl)) (fun _ _ _ h => h) (Or.inr ⟨by rfl, rfl⟩) ?_ ?_
   rotate_left
   ·exact pz
   refine pure_ (i := 16) (N := some 21) (v := undef) (a' := ?_) #[T, T, T, T, T, T, T, T, T, T, T, T, T, T, T, T, T, F] rfl rfl (any_of HT_.out (by kernel_rfl)) (fun _ _ _ h => h) (Or.inr ⟨by rfl, rfl⟩) ?_ ?_
   rotate_left
   ·exact pz
   refine pure_ (i := 17) (N := some 22) (v := ?_) (a' := ?_) #[T, T, T, T, T, T, T, T, T, T, T, T, T, T, T, T, T, T] rfl rfl (any_of HT_.out (by kernel_rfl)) (fun _ _ _ h => h) (Or.inl ⟨by rfl, ?_⟩) ?_ ?_
   rotate_left
   ·exact gz
   rotate_left
   ·exact pz
   refine done_ (done_of HT_.out (by kernel_rfl)) ?_
   try go_wp2
   go_meet
   case rel => exact ⟨_, (true), (by first | rfl | (simp; done) | (simp [*]; done)), H', ⟨by first | omega | exact Nat.le_refl _⟩, ⟨Z BK118⟩, ⟨Z BK119⟩, ⟨Z BK120⟩, ⟨Y3 HB GE118 GE119 GE120⟩⟩
 case rest =>
  clear HC3
  try clear c1
  try clear p2
  try clear c4
  try clear c8
  try clear c10
  obtain ⟨kq, x22_2, rfl, HA, HJ2, BK118, BK119, BK120, HB⟩ := hcut
  cases kq with
  | zero => exact absurd HA.out (by simp [spec_RangeMeet.j0])
  | succ kj2 =>
   have H := HA.out
   clear HA
   simp only [spec_RangeMeet.j0] at H
   by_cases c28 : x22_2 = true
   ·subst c28
    have H1 : ((spec_l8None.f).bind fun bt127 => (some (bt127.1, bt127.2))) = some (r1, r2) := by rw [if_pos rfl] at H; exact H
    clear H
    have H := H1
    clear H1
    replace H := Option.bind_eq_some_iff.mp H
    obtain ⟨⟨t127, t128⟩, A290, H⟩ := H
    replace H : (some (t127, t128)) = some (r1, r2) := H
    have A29 := am A290
    clear A290
    simp only [Option.some.injEq, Prod.mk.injEq] at H
    obtain ⟨rfl, rfl⟩ := H
    go_wp2_with (first | ((with_reducible refine gate_callee (f := 48) rfl ?_); refine goesL_ (some 23) rfl rfl Try.func48 (by kernel_rfl) rfl #[] rfl mz ?_; (with_reducible refine (spec_l8None.calls  t127 t128 _ A29.out).mono ?_); rintro e w30 ⟨rfl, hb⟩; refine ⟨_, rfl, ?_⟩; have n0_ := am (blk_below (g := gb118) (o := b2 a0_0 a0_1 24) (Z BK118) hb); have n1_ := am (blk_below (g := gb119) (o := b2 a1_0 a1_1 24) (Z BK119) hb); have n2_ := am (blk_below (g := gb120) (o := b2 0 0 24) (Z BK120) hb); have n3_ := am (below_step (Y3 HB GE118 GE119 GE120) hb); clear BK118; clear BK119; clear BK120; clear HB; have BK118 := n0_; have BK119 := n1_; have BK120 := n2_; have HB := n3_; clear n0_ n1_ n2_ n3_; (try clear hb); (try clear hb2); (try clear hk); (try clear hi); have hnb31 := NB120_118.out; have hnc31 := NB118_120.out; have hnb32 := NB120_119.out; have hnc32 := NB119_120.out; have hcz33_0 : w30.cell? ⟨gb120, 0, none⟩ = some (.int .i64 0) := bc BK120 0; have hcz33_1 : w30.cell? ⟨gb120, 1, none⟩ = some (.int .i64 0) := bc BK120 1; have hfz33_0 := blk_frozen BK120.out 0; have hfz33_1 := blk_frozen BK120.out 1))
    refine bodyPost_ret (results_cell_row rfl _ _ gb120 24 #[.int .i64 t127, .int .i64 t128] (0, 0) _ rfl (by (with_reducible repeat (first | refine blk_drewN ?_ _ | refine blk_drew ?_ | refine blk_alloc ?_ _)); refine blk_put (cs := #[.int .i64 t127, .int .i64 0]) ?_ 1 _ rfl; (with_reducible repeat (first | refine blk_drewN ?_ _ | refine blk_drew ?_ | refine blk_alloc ?_ _)); refine blk_put (cs := #[.int .i64 0, .int .i64 0]) ?_ 0 _ rfl; (with_reducible repeat (first | refine blk_drewN ?_ _ | refine blk_drew ?_ | refine blk_alloc ?_ _)); exact BK120.out) Try.underlying24 rfl (by kernel_rfl)) rfl ?_
    exact ⟨by first | rfl | (simp [errW_none, errW_some] <;> rfl) | (simp [*, errW_none, errW_some] <;> rfl), Y3 HB GE118 GE119 GE120⟩
   ·replace c28 := Bool.eq_false_iff.mpr c28
    subst c28
    have H1 : ((spec_l8Max.f a0_0 a1_0).bind fun t129 => ((spec_l8Min.f a0_1 a1_1).bind fun t130 => ((spec_l8Cut.f t129 t130).bind fun bt131 => (some (bt131.1, bt131.2))))) = some (r1, r2) := by rw [if_neg (show ¬ (false = true) by decide)] at H; exact H
    clear H
    have H := H1
    clear H1
    replace H := Option.bind_eq_some_iff.mp H
    obtain ⟨t129, A340, H⟩ := H
    replace H : ((spec_l8Min.f a0_1 a1_1).bind fun t130 => ((spec_l8Cut.f t129 t130).bind fun bt131 => (some (bt131.1, bt131.2)))) = some (r1, r2) := H
    have A34 := am A340
    clear A340
    replace H := Option.bind_eq_some_iff.mp H
    obtain ⟨t130, A350, H⟩ := H
    replace H : ((spec_l8Cut.f t129 t130).bind fun bt131 => (some (bt131.1, bt131.2))) = some (r1, r2) := H
    have A35 := am A350
    clear A350
    replace H := Option.bind_eq_some_iff.mp H
    obtain ⟨⟨t131, t132⟩, A360, H⟩ := H
    replace H : (some (t131, t132)) = some (r1, r2) := H
    have A36 := am A360
    clear A360
    simp only [Option.some.injEq, Prod.mk.injEq] at H
    obtain ⟨rfl, rfl⟩ := H
    try go_wp2
    have n0_ := am (blk_drew BK118.out)
    have n1_ := am (blk_drew BK119.out)
    have n2_ := am (blk_drew BK120.out)
    have n3_ := am (below_drew1 HB.out)
    clear BK118
    clear BK119
    clear BK120
    clear HB
    have BK118 := n0_
    have BK119 := n1_
    have BK120 := n2_
    have HB := n3_
    clear n0_ n1_ n2_ n3_
    refine start_ (n := 12) (S := fun w' => w'.cell? ⟨gb118, 0, none⟩ = some (.int .i64 a0_0) ∧ w'.cell? ⟨gb118, 1, none⟩ = some (.int .i64 a0_1) ∧ w'.cell? ⟨gb119, 0, none⟩ = some (.int .i64 a1_0) ∧ w'.cell? ⟨gb119, 1, none⟩ = some (.int .i64 a1_1)) (ds := []) #[F, F, F, F, F, F, F, F, F, F, F, F] (by kernel_rfl) rfl rfl ⟨bc BK118 0, bc BK118 1, bc BK119 0, bc BK119 1⟩ (fun hHeld => ?_); refine with_tabW spec_RangeMeet.tab3 spec_RangeMeet.bits3 (fun HT_ HW_ => ?_)
    generalize wc.drew = w37 at BK118 BK119 BK120 HB hHeld ⊢
    refine pure_ (i := 0) (N := some 24) (v := ?_) (a' := ?_) #[T, F, F, F, F, F, F, F, F, F, F, F] rfl rfl (any_of HT_.out (by kernel_rfl)) (fun _ _ _ h => h) (Or.inl ⟨by rfl, ?_⟩) ?_ ?_
    rotate_left
    ·exact gz
    rotate_left
    ·exact pz
    refine pure_ (i := 2) (N := some 26) (v := ?_) (a' := ?_) #[T, F, T, F, F, F, F, F, F, F, F, F] rfl rfl (any_of HT_.out (by kernel_rfl)) (fun _ _ _ h => h) (Or.inl ⟨by rfl, ?_⟩) ?_ ?_
    rotate_left
    ·exact gz
    rotate_left
    ·exact pz
    refine pure_ (i := 5) (N := some 29) (v := ?_) (a' := ?_) #[T, F, T, F, F, T, F, F, F, F, F, F] rfl rfl (any_of HT_.out (by kernel_rfl)) (fun _ _ _ h => h) (Or.inl ⟨by rfl, ?_⟩) ?_ ?_
    rotate_left
    ·exact gz
    rotate_left
    ·exact pz
    refine pure_ (i := 7) (N := some 31) (v := ?_) (a' := ?_) #[T, F, T, F, F, T, F, T, F, F, F, F] rfl rfl (any_of HT_.out (by kernel_rfl)) (fun _ _ _ h => h) (Or.inl ⟨by rfl, ?_⟩) ?_ ?_
    rotate_left
    ·exact gz
    rotate_left
    ·exact pz
    refine take_ (i := 1) (N := some 25) (v := ?_) (a' := ?_) #[T, T, T, F, F, T, F, T, F, F, F, F] rfl rfl (take_ofW HT_.out HW_.out (by kernel_rfl)) (fun _ _ _ h => h) (Or.inl ⟨by rfl, ?_⟩) hHeld ?_ ?_
    rotate_left
    ·rintro w' ⟨s0, s1, s2, s3⟩
     go_simp
     with_reducible rfl
    rotate_left
    ·exact pz
    refine take_ (i := 3) (N := some 27) (v := ?_) (a' := ?_) #[T, T, T, T, F, T, F, T, F, F, F, F] rfl rfl (take_ofW HT_.out HW_.out (by kernel_rfl)) (fun _ _ _ h => h) (Or.inl ⟨by rfl, ?_⟩) hHeld ?_ ?_
    rotate_left
    ·rintro w' ⟨s0, s1, s2, s3⟩
     go_simp
     with_reducible rfl
    rotate_left
    ·exact pz
    refine take_ (i := 6) (N := some 30) (v := ?_) (a' := ?_) #[T, T, T, T, F, T, T, T, F, F, F, F] rfl rfl (take_ofW HT_.out HW_.out (by kernel_rfl)) (fun _ _ _ h => h) (Or.inl ⟨by rfl, ?_⟩) hHeld ?_ ?_
    rotate_left
    ·rintro w' ⟨s0, s1, s2, s3⟩
     go_simp
     with_reducible rfl
    rotate_left
    ·exact pz
    refine take_ (i := 8) (N := some 32) (v := ?_) (a' := ?_) #[T, T, T, T, F, T, T, T, T, F, F, F] rfl rfl (take_ofW HT_.out HW_.out (by kernel_rfl)) (fun _ _ _ h => h) (Or.inl ⟨by rfl, ?_⟩) hHeld ?_ ?_
    rotate_left
    ·rintro w' ⟨s0, s1, s2, s3⟩
     go_simp
     with_reducible rfl
    rotate_left
    ·exact pz
    refine one_ (i := 4) (N := some 28) #[T, T, T, T, T, T, T, T, T, F, F, F] rfl rfl (one_of HT_.out (by kernel_rfl)) (by decide) (fun K hK => ?_)
    refine goes_ Try.func50 (by kernel_rfl) rfl #[.int .i64 a0_0, .int .i64 a1_0] (by rfl) rfl rfl mz ?_
    with_reducible refine (spec_l8Max.calls a0_0 a1_0 t129 _ A34.out).mono ?_
    rintro e w' ⟨rfl, ⟨nd, rfl⟩⟩
    refine ⟨_, rfl, ?_⟩
    refine hK.out _ _ ⟨bc BK118 0, bc BK118 1, bc BK119 0, bc BK119 1⟩ (fun hHeld => ?_)
    clear hK K
    refine norm_ (a' := ?_) ?_ ?_
    rotate_left
    ·show Act.put _ (some 28) _ = _
     simp only [Act.put, List.setIfInBounds_toArray, List.set_cons_zero, List.set_cons_succ, i64_w, i32_w]
     rfl
    refine one_ (i := 9) (N := some 33) #[T, T, T, T, T, T, T, T, T, T, F, F] rfl rfl (one_of HT_.out (by kernel_rfl)) (by decide) (fun K hK => ?_)
    refine goes_ Try.func49 (by kernel_rfl) rfl #[.int .i64 a0_1, .int .i64 a1_1] (by rfl) rfl rfl mz ?_
    with_reducible refine (spec_l8Min.calls a0_1 a1_1 t130 _ A35.out).mono ?_
    rintro e w' ⟨rfl, ⟨nd, rfl⟩⟩
    refine ⟨_, rfl, ?_⟩
    refine hK.out _ _ ⟨bc BK118 0, bc BK118 1, bc BK119 0, bc BK119 1⟩ (fun hHeld => ?_)
    clear hK K
    refine norm_ (a' := ?_) ?_ ?_
    rotate_left
    ·show Act.put _ (some 33) _ = _
     simp only [Act.put, List.setIfInBounds_toArray, List.set_cons_zero, List.set_cons_succ, i64_w, i32_w]
     rfl
    refine one_ (i := 10) (N := some 34) #[T, T, T, T, T, T, T, T, T, T, T, F] rfl rfl (one_of HT_.out (by kernel_rfl)) (by decide) (fun K hK => ?_)
    refine goes_ Try.func54 (by kernel_rfl) rfl #[.int .i64 t129, .int .i64 t130] (by rfl) rfl rfl mz ?_
    with_reducible refine (spec_l8Cut.calls t129 t130 t131 t132 _ A36.out).mono ?_
    rintro e w38 ⟨rfl, hb⟩
    refine ⟨_, rfl, ?_⟩
    have n0_ := am (blk_below (g := gb118) (o := b2 a0_0 a0_1 24) (Z BK118) hb)
    have n1_ := am (blk_below (g := gb119) (o := b2 a1_0 a1_1 24) (Z BK119) hb)
    have n2_ := am (blk_below (g := gb120) (o := b2 0 0 24) (Z BK120) hb)
    have n3_ := am (below_step (Y3 HB GE118 GE119 GE120) hb)
    clear BK118
    clear BK119
    clear BK120
    clear HB
    have BK118 := n0_
    have BK119 := n1_
    have BK120 := n2_
    have HB := n3_
    clear n0_ n1_ n2_ n3_
    (try clear hb)
    (try clear hb2)
    (try clear hk)
    (try clear hi)
    refine hK.out _ _ ⟨bc BK118 0, bc BK118 1, bc BK119 0, bc BK119 1⟩ (fun hHeld => ?_)
    clear hK K
    refine norm_ (a' := ?_) ?_ ?_
    rotate_left
    ·show Act.put _ (some 34) _ = _
     simp only [Act.put, List.setIfInBounds_toArray, List.set_cons_zero, List.set_cons_succ, i64_w, i32_w]
     rfl
    refine one_ (i := 11) (N := none) #[T, T, T, T, T, T, T, T, T, T, T, T] rfl rfl (one_of HT_.out (by kernel_rfl)) (by decide) (fun K hK => ?_)
    have hs39 : w38.cell? ⟨gb120, 0, none⟩ = some (.int .i64 0) := bc BK120 0
    have hfs39 := blk_frozen BK120.out 0
    have hns39_0 := NB118_120.out
    have hns39_1 := NB119_120.out
    have hms39_0 := NB120_118.out
    have hms39_1 := NB120_119.out
    have hs40 : w38.cell? ⟨gb120, 1, none⟩ = some (.int .i64 0) := bc BK120 1
    have hfs40 := blk_frozen BK120.out 1
    have hns40_0 := NB118_120.out
    have hns40_1 := NB119_120.out
    have hms40_0 := NB120_118.out
    have hms40_1 := NB120_119.out
    refine skip_ (w1 := ?_) (by rfl) rfl ?_ ?_
    rotate_left
    ·go_simp
     rfl
    refine hK.out _ _ ⟨((cell_far (p := ⟨gb120, _, none⟩) NB118_120.out _).trans (((cell_far (p := ⟨gb120, _, none⟩) NB118_120.out _).trans (hHeld.1)))), ((cell_far (p := ⟨gb120, _, none⟩) NB118_120.out _).trans (((cell_far (p := ⟨gb120, _, none⟩) NB118_120.out _).trans (hHeld.2.1)))), ((cell_far (p := ⟨gb120, _, none⟩) NB119_120.out _).trans (((cell_far (p := ⟨gb120, _, none⟩) NB119_120.out _).trans (hHeld.2.2.1)))), ((cell_far (p := ⟨gb120, _, none⟩) NB119_120.out _).trans (((cell_far (p := ⟨gb120, _, none⟩) NB119_120.out _).trans (hHeld.2.2.2))))⟩ (fun hHeld => ?_)
    clear hK K
    refine done_ (done_of HT_.out (by kernel_rfl)) ?_
    try go_wp2
    refine bodyPost_ret (results_cell_row rfl _ _ gb120 24 #[.int .i64 t131, .int .i64 t132] (0, 0) _ rfl (by (with_reducible repeat (first | refine blk_drewN ?_ _ | refine blk_drew ?_ | refine blk_alloc ?_ _)); refine blk_put (cs := #[.int .i64 t131, .int .i64 0]) ?_ 1 _ rfl; (with_reducible repeat (first | refine blk_drewN ?_ _ | refine blk_drew ?_ | refine blk_alloc ?_ _)); refine blk_put (cs := #[.int .i64 0, .int .i64 0]) ?_ 0 _ rfl; (with_reducible repeat (first | refine blk_drewN ?_ _ | refine blk_drew ?_ | refine blk_alloc ?_ _)); exact BK120.out) Try.underlying24 rfl (by kernel_rfl)) rfl ?_
    exact ⟨by first | rfl | (simp [errW_none, errW_some] <;> rfl) | (simp [*, errW_none, errW_some] <;> rfl), Y3 HB GE118 GE119 GE120⟩

end Go.Proofs.Ytlipfemjlicbbaa.PFnExactRangeCmp
