/- Written by this session's own driver (wip/dprint.py): the functions that the law FnExactValWiden reaches, as Lean functions, each with its contract. -/
import Derived.Test.YtnmccgjdnceheaaPFnExactValWidenx0
import Derived.Test.YtnmccgjdnceheaaPFnExactValWidenx2
import Derived.Test.YtnmccgjdnceheaaPFnExactValWidenx3
import Derived.Test.YtnmccgjdnceheaaPFnExactValWidenx4
import Derived.Test.YtnmccgjdnceheaaPFnExactValWidenx5
import Derived.Test.YtnmccgjdnceheaaSv
namespace Go.Proofs.Ytnmccgjdnceheaa.PFnExactValWiden
open Go.RowKit Go.Proofs.YtnmccgjdnceheaaV.PrintWords Go.Proofs.YtnmccgjdnceheaaV.PrintLast Go.Proofs.YtnmccgjdnceheaaV.PrintMore Go.Proofs.YtnmccgjdnceheaaSv
attribute [local go_sem] max2_int min2_int max_two min_two max_three min_three max_four min_four   -- for this text's walks alone
set_option linter.unusedVariables false
set_option linter.unusedSimpArgs false

attribute [local go_sem high] eqA86
/-! ### spec_ValMake: function 73 -/
def spec_ValMake.j0 : Nat → Bool → Int → Int → Int → Int → Option (Int × Int × Int × Int)
 | 0, _, _, _, _, _ => none
 | k + 1, x19, x127000, x127001, x128000, x128001 => if x19 = true then ((spec_l10None.f).bind fun bt133 => (some (bt133.1, bt133.2.1, bt133.2.2.1, bt133.2.2.2))) else (if x128000 = 0 then ((spec_RangeHas.f x127000 x127001 x128001).bind fun t137 => (if t137 = true then ((spec_l10One.f x128001).bind fun bt138 => (some (bt138.1, bt138.2.1, bt138.2.2.1, bt138.2.2.2))) else ((spec_l10None.f).bind fun bt142 => (some (bt142.1, bt142.2.1, bt142.2.2.1, bt142.2.2.2))))) else ((spec_l1Mod.f (wrap64 (x128001 - x127000)) x128000).bind fun t146 => ((spec_l1Mod.f (wrap64 (x127001 - x128001)) x128000).bind fun t147 => (if (wrap64 (x127000 + t146)) > (wrap64 (x127001 - t147)) then ((spec_l10None.f).bind fun bt148 => (some (bt148.1, bt148.2.1, bt148.2.2.1, bt148.2.2.2))) else (if (wrap64 (x127000 + t146)) = (wrap64 (x127001 - t147)) then ((spec_l10One.f (wrap64 (x127000 + t146))).bind fun bt152 => (some (bt152.1, bt152.2.1, bt152.2.2.1, bt152.2.2.2))) else (some (wrap64 (x127000 + t146), wrap64 (x127001 - t147), x128000, x128001)))))))
def spec_ValMake.f (k : Nat) (a0_0 : Int) (a0_1 : Int) (a1_0 : Int) (a1_1 : Int) : Option (Int × Int × Int × Int) := (spec_RangeOk.f a0_0 a0_1).bind fun t129 => (if t129 = true then ((spec_RestOk.f a1_0 a1_1).bind fun t130 => (if t130 = true then ((spec_l8None.f).bind fun bt131 => (spec_ValMake.j0 k (a0_0 == bt131.1 && (a0_1 == bt131.2)) a0_0 a0_1 a1_0 a1_1)) else (spec_ValMake.j0 k true a0_0 a0_1 a1_0 a1_1))) else (spec_ValMake.j0 k true a0_0 a0_1 a1_0 a1_1))
theorem spec_ValMake.mono_l : ∀ k, (∀ y0 y1 y2 y3 y4, LeO (spec_ValMake.j0 k y0 y1 y2 y3 y4) (spec_ValMake.j0 (k + 1) y0 y1 y2 y3 y4))
 | 0 => fun _ _ _ _ _ r h => by simp [spec_ValMake.j0] at h
 | k + 1 => by
  have ih0 := spec_ValMake.mono_l k
  ·intro y0 y1 y2 y3 y4
   unfold spec_ValMake.j0
   repeat' first
   | (with_reducible exact ih0 _ _ _ _ _)
   | (with_reducible exact LeO.refl _)
   | (with_reducible exact LeO.none _)
   | (with_reducible refine LeO.ite ?_ ?_)
   | (with_reducible refine LeO.bind ?_ (fun _ => ?_))
   | exact ih0 _ _ _ _ _
   | exact LeO.none _
   | refine LeO.ite ?_ ?_
   | refine LeO.bind ?_ (fun _ => ?_)
theorem spec_ValMake.mono : ∀ a0 a1 a2 a3 k, LeO (spec_ValMake.f k a0 a1 a2 a3) (spec_ValMake.f (k + 1) a0 a1 a2 a3) := by
 intro a0 a1 a2 a3 k
 have ih0 := spec_ValMake.mono_l k
 unfold spec_ValMake.f
 repeat' first
   | (with_reducible exact ih0 _ _ _ _ _)
   | (with_reducible exact LeO.refl _)
   | (with_reducible exact LeO.none _)
   | (with_reducible refine LeO.ite ?_ ?_)
   | (with_reducible refine LeO.bind ?_ (fun _ => ?_))
   | exact ih0 _ _ _ _ _
   | exact LeO.none _
   | refine LeO.ite ?_ ?_
   | refine LeO.bind ?_ (fun _ => ?_)
def spec_ValMake.T1 : Bool × List (List Nat × List Nat) := (true, [([], []), ([0], [0]), ([1], [1]), ([2, 1], [2]), ([3], [3]), ([4, 3, 3], [3, 4]), ([5, 3], [3, 5]), ([3, 6], [3, 6]), ([7, 5], [7]), ([8], [8]), ([8, 8], [8]), ([9, 10, 8], [8, 9, 10]), ([8, 11], [8, 11])])
def spec_ValMake.B1 : List Nat := [0, 1, 3, 7, 15, 31, 63, 127, 255, 511, 511, 2047, 4095]
theorem spec_ValMake.tab1 : rtab .any (opsOf Try.f73 1) = spec_ValMake.T1 := by kernel_rfl
theorem spec_ValMake.bits1 : waitsOk spec_ValMake.T1.2 spec_ValMake.B1 = true := by kernel_rfl
def spec_ValMake.T7 : Bool × List (List Nat × List Nat) := (true, [([], []), ([0], [0]), ([], []), ([2], [2]), ([], []), ([4], [4]), ([3, 5], [3, 5]), ([], []), ([7], [7]), ([6, 8], [6, 8]), ([1, 9], [1, 9]), ([10, 9, 0, 1, 2, 3, 4, 5, 6, 7, 8, 9, 10], [10])])
def spec_ValMake.B7 : List Nat := [0, 1, 0, 4, 0, 16, 60, 0, 128, 508, 1023, 2047]
theorem spec_ValMake.tab7 : rtab .any (opsOf Try.f73 7) = spec_ValMake.T7 := by kernel_rfl
theorem spec_ValMake.bits7 : waitsOk spec_ValMake.T7.2 spec_ValMake.B7 = true := by kernel_rfl
def spec_ValMake.T8 : Bool × List (List Nat × List Nat) := (true, [([], []), ([0], [0]), ([], []), ([2], [2]), ([], []), ([4], [4]), ([3, 5], [3, 5]), ([], []), ([7], [7]), ([6, 8], [6, 8]), ([1, 9], [1, 9]), ([10, 9, 0, 1, 2, 3, 4, 5, 6, 7, 8, 9, 10], [10])])
def spec_ValMake.B8 : List Nat := [0, 1, 0, 4, 0, 16, 60, 0, 128, 508, 1023, 2047]
theorem spec_ValMake.tab8 : rtab .any (opsOf Try.f73 8) = spec_ValMake.T8 := by kernel_rfl
theorem spec_ValMake.bits8 : waitsOk spec_ValMake.T8.2 spec_ValMake.B8 = true := by kernel_rfl
set_option maxHeartbeats 8000000 in
set_option maxRecDepth 100000 in
theorem spec_ValMake.calls (k : Nat) (a0_0 : Int) (a0_1 : Int) (a1_0 : Int) (a1_1 : Int) (r1 : Int) (r2 : Int) (r3 : Int) (r4 : Int) (w : World) (h : spec_ValMake.f k a0_0 a0_1 a1_0 a1_1 = some (r1, r2, r3, r4)) :
  Calls Try.prog 73 #[.agg #[.int .i64 a0_0, .int .i64 a0_1], .agg #[.int .i64 a1_0, .int .i64 a1_1]] w fun e w' => e = .returned (.agg #[.int .i64 r1, .int .i64 r2, .int .i64 r3, .int .i64 r4]) ∧ Below w.heap.size w w' := by
 have hu86 := Try.underlying86
 have hu90 := Try.underlying90
 have hu25 := Try.underlying25
 have HB := am (Below.refl w.heap.size w)
 have H : ((spec_RangeOk.f a0_0 a0_1).bind fun t129 => (if t129 = true then ((spec_RestOk.f a1_0 a1_1).bind fun t130 => (if t130 = true then ((spec_l8None.f).bind fun bt131 => (spec_ValMake.j0 k (a0_0 == bt131.1 && (a0_1 == bt131.2)) a0_0 a0_1 a1_0 a1_1)) else (spec_ValMake.j0 k true a0_0 a0_1 a1_0 a1_1))) else (spec_ValMake.j0 k true a0_0 a0_1 a1_0 a1_1))) = some (r1, r2, r3, r4) := h
 clear h
 have HC3 := am H
 clear H
 go_enter Try.func73, Try.ntmps73
 go_upto_region 1 with (first | ((with_reducible refine gate_dst (N := 2) rfl ?_); refine box_event ?hg (N := 2) ?hd (cs := #[.int .i64 a0_0, .int .i64 a0_1]) (t := 86) ?hr ?_; (case hd => rfl); (case hg => rfl); (case hr => first | (go_simp; done) | (go_simp; rfl)); intro gb126 hg w4 hbox hb; have n0_ := am (below_step (Y0 HB) hb); have n1_ := am (hbox); have n2_ := am ((by rw [hg]; exact (below_size (Y0 HB)) : w.heap.size ≤ gb126)); have n3_ := am ((by rw [hg]; exact (below_size (Y0 HB)) : w.heap.size ≤ gb126)); clear HB; have HB := n0_; have BK126 := n1_; have GW126 := n2_; have GE126 := n3_; clear n0_ n1_ n2_ n3_; clear hb hbox hg) | ((with_reducible refine gate_dst (N := 3) rfl ?_); refine box_event ?hg (N := 3) ?hd (cs := #[.int .i64 a1_0, .int .i64 a1_1]) (t := 90) ?hr ?_; (case hd => rfl); (case hg => rfl); (case hr => first | (go_simp; done) | (go_simp; rfl)); intro gb127 hg w5 hbox hb; have n0_ := am (blk_below (g := gb126) (o := b2 a0_0 a0_1 86) (Z BK126) hb); have n1_ := am (below_step (Y1 HB GE126) hb); have n2_ := am (hbox); have n3_ := am ((by rw [hg]; exact (below_size (Y1 HB GE126)) : w.heap.size ≤ gb127)); have n4_ := am ((by rw [hg]; exact (below_size (Y1 HB GE126)) : w.heap.size ≤ gb127)); have n5_ := am ((nl (o := b2 a0_0 a0_1 86) hg (Z BK126) : gb126 ≠ gb127)); have n6_ := am ((ng (o := b2 a0_0 a0_1 86) hg (Z BK126) : gb127 ≠ gb126)); clear BK126; clear HB; have BK126 := n0_; have HB := n1_; have BK127 := n2_; have GW127 := n3_; have GE127 := n4_; have NB126_127 := n5_; have NB127_126 := n6_; clear n0_ n1_ n2_ n3_ n4_ n5_ n6_; clear hb hbox hg) | ((with_reducible refine gate_dst (N := 4) rfl ?_); refine box_event ?hg (N := 4) ?hd (cs := #[.int .i64 0, .int .i64 0, .int .i64 0, .int .i64 0]) (t := 25) ?hr ?_; (case hd => rfl); (case hg => rfl); (case hr => first | (go_simp; done) | (go_simp; rfl)); intro gb128 hg w6 hbox hb; have n0_ := am (blk_below (g := gb126) (o := b2 a0_0 a0_1 86) (Z BK126) hb); have n1_ := am (blk_below (g := gb127) (o := b2 a1_0 a1_1 90) (Z BK127) hb); have n2_ := am (below_step (Y2 HB GE126 GE127) hb); have n3_ := am (hbox); have n4_ := am ((by rw [hg]; exact (below_size (Y2 HB GE126 GE127)) : w.heap.size ≤ gb128)); have n5_ := am ((by rw [hg]; exact (below_size (Y2 HB GE126 GE127)) : w.heap.size ≤ gb128)); have n6_ := am ((nl (o := b2 a0_0 a0_1 86) hg (Z BK126) : gb126 ≠ gb128)); have n7_ := am ((ng (o := b2 a0_0 a0_1 86) hg (Z BK126) : gb128 ≠ gb126)); have n8_ := am ((nl (o := b2 a1_0 a1_1 90) hg (Z BK127) : gb127 ≠ gb128)); have n9_ := am ((ng (o := b2 a1_0 a1_1 90) hg (Z BK127) : gb128 ≠ gb127)); clear BK126; clear BK127; clear HB; have BK126 := n0_; have BK127 := n1_; have HB := n2_; have BK128 := n3_; have GW128 := n4_; have GE128 := n5_; have NB126_128 := n6_; have NB128_126 := n7_; have NB127_128 := n8_; have NB128_127 := n9_; clear n0_ n1_ n2_ n3_ n4_ n5_ n6_ n7_ n8_ n9_; clear hb hbox hg))
 (try simp only [Act.put, List.setIfInBounds_toArray, List.set_cons_zero, List.set_cons_succ])
 go_cut [19] (fun v19 wc => ∃ (kq : Nat) (x19_2 : Bool), v19 = .bool x19_2 ∧ Aside0 (spec_ValMake.j0 kq x19_2 a0_0 a0_1 a1_0 a1_1 = some (r1, r2, r3, r4)) ∧ Aside0 (kq ≤ k) ∧ Aside0 (wc.heap[gb126]? = some (.cells #[.int .i64 a0_0, .int .i64 a0_1] 86 (0, 0))) ∧ Aside0 (wc.heap[gb127]? = some (.cells #[.int .i64 a1_0, .int .i64 a1_1] 90 (0, 0))) ∧ Aside0 (wc.heap[gb128]? = some (.cells #[.int .i64 0, .int .i64 0, .int .i64 0, .int .i64 0] 25 (0, 0))) ∧ Aside0 (Below w.heap.size w wc))
 case first =>
  have H := HC3.out
  clear HC3
  replace H := Option.bind_eq_some_iff.mp H
  obtain ⟨t129, A70, H⟩ := H
  replace H : (if t129 = true then ((spec_RestOk.f a1_0 a1_1).bind fun t130 => (if t130 = true then ((spec_l8None.f).bind fun bt131 => (spec_ValMake.j0 k (a0_0 == bt131.1 && (a0_1 == bt131.2)) a0_0 a0_1 a1_0 a1_1)) else (spec_ValMake.j0 k true a0_0 a0_1 a1_0 a1_1))) else (spec_ValMake.j0 k true a0_0 a0_1 a1_0 a1_1)) = some (r1, r2, r3, r4) := H
  have A7 := am A70
  clear A70
  by_cases c8 : t129 = true
  ·subst c8
   have H1 : ((spec_RestOk.f a1_0 a1_1).bind fun t130 => (if t130 = true then ((spec_l8None.f).bind fun bt131 => (spec_ValMake.j0 k (a0_0 == bt131.1 && (a0_1 == bt131.2)) a0_0 a0_1 a1_0 a1_1)) else (spec_ValMake.j0 k true a0_0 a0_1 a1_0 a1_1))) = some (r1, r2, r3, r4) := by rw [if_pos rfl] at H; exact H
   clear H
   have H := H1
   clear H1
   replace H := Option.bind_eq_some_iff.mp H
   obtain ⟨t130, A90, H⟩ := H
   replace H : (if t130 = true then ((spec_l8None.f).bind fun bt131 => (spec_ValMake.j0 k (a0_0 == bt131.1 && (a0_1 == bt131.2)) a0_0 a0_1 a1_0 a1_1)) else (spec_ValMake.j0 k true a0_0 a0_1 a1_0 a1_1)) = some (r1, r2, r3, r4) := H
   have A9 := am A90
   clear A90
   by_cases c10 : t130 = true
   ·subst c10
    have H1 : ((spec_l8None.f).bind fun bt131 => (spec_ValMake.j0 k (a0_0 == bt131.1 && (a0_1 == bt131.2)) a0_0 a0_1 a1_0 a1_1)) = some (r1, r2, r3, r4) := by rw [if_pos rfl] at H; exact H
    clear H
    have H := H1
    clear H1
    replace H := Option.bind_eq_some_iff.mp H
    obtain ⟨⟨t131, t132⟩, A110, H⟩ := H
    replace H : (spec_ValMake.j0 k (a0_0 == t131 && (a0_1 == t132)) a0_0 a0_1 a1_0 a1_1) = some (r1, r2, r3, r4) := H
    have A11 := am A110
    clear A110
    have H' := am H
    clear H
    try go_wp2
    have n0_ := am (blk_drew BK126.out)
    have n1_ := am (blk_drew BK127.out)
    have n2_ := am (blk_drew BK128.out)
    have n3_ := am (below_drew1 HB.out)
    clear BK126
    clear BK127
    clear BK128
    clear HB
    have BK126 := n0_
    have BK127 := n1_
    have BK128 := n2_
    have HB := n3_
    clear n0_ n1_ n2_ n3_
    refine start_ (n := 13) (S := fun w' => w'.cell? ⟨gb126, 0, none⟩ = some (.int .i64 a0_0) ∧ w'.cell? ⟨gb126, 1, none⟩ = some (.int .i64 a0_1) ∧ w'.cell? ⟨gb127, 0, none⟩ = some (.int .i64 a1_0) ∧ w'.cell? ⟨gb127, 1, none⟩ = some (.int .i64 a1_1)) (ds := []) #[F, F, F, F, F, F, F, F, F, F, F, F, F] (by kernel_rfl) rfl rfl ⟨bc BK126 0, bc BK126 1, bc BK127 0, bc BK127 1⟩ (fun hHeld => ?_); refine with_tabW spec_ValMake.tab1 spec_ValMake.bits1 (fun HT_ HW_ => ?_)
    generalize w6.drew = w12 at BK126 BK127 BK128 HB hHeld ⊢
    refine take_ (i := 0) (N := some 7) (v := ?_) (a' := ?_) #[T, F, F, F, F, F, F, F, F, F, F, F, F] rfl rfl (take_ofW HT_.out HW_.out (by kernel_rfl)) (fun _ _ _ h => h) (Or.inl ⟨by rfl, ?_⟩) hHeld ?_ ?_
    rotate_left
    ·rintro w' ⟨s0, s1, s2, s3⟩
     go_simp
     with_reducible rfl
    rotate_left
    ·exact pz
    refine one_ (i := 1) (N := some 8) #[T, T, F, F, F, F, F, F, F, F, F, F, F] rfl rfl (one_of HT_.out (by kernel_rfl)) (by decide) (fun K hK => ?_)
    refine goes_ Try.func117 (by kernel_rfl) rfl #[.agg #[.int .i64 a0_0, .int .i64 a0_1]] (by rfl) rfl rfl mz ?_
    with_reducible refine (spec_RangeOk.calls a0_0 a0_1 true _ A7.out).mono ?_
    rintro e w13 ⟨rfl, hb⟩
    refine ⟨_, rfl, ?_⟩
    have n0_ := am (blk_below (g := gb126) (o := b2 a0_0 a0_1 86) (Z BK126) hb)
    have n1_ := am (blk_below (g := gb127) (o := b2 a1_0 a1_1 90) (Z BK127) hb)
    have n2_ := am (blk_below (g := gb128) (o := b4 0 0 0 0 25) (Z BK128) hb)
    have n3_ := am (below_step (Y3 HB GE126 GE127 GE128) hb)
    clear BK126
    clear BK127
    clear BK128
    clear HB
    have BK126 := n0_
    have BK127 := n1_
    have BK128 := n2_
    have HB := n3_
    clear n0_ n1_ n2_ n3_
    (try clear hb)
    (try clear hb2)
    (try clear hk)
    (try clear hi)
    refine hK.out _ _ ⟨bc BK126 0, bc BK126 1, bc BK127 0, bc BK127 1⟩ (fun hHeld => ?_)
    clear hK K
    refine norm_ (a' := ?_) ?_ ?_
    rotate_left
    ·show Act.put _ (some 8) _ = _
     simp only [Act.put, List.setIfInBounds_toArray, List.set_cons_zero, List.set_cons_succ, i64_w, i32_w]
     rfl
    refine pure_ (i := 2) (N := some 9) (v := ?_) (a' := ?_) #[T, T, T, F, F, F, F, F, F, F, F, F, F] rfl rfl (any_of HT_.out (by kernel_rfl)) (fun _ _ _ h => h) (Or.inl ⟨by rfl, ?_⟩) ?_ ?_
    rotate_left
    ·exact gz
    rotate_left
    ·exact pz
    refine pure_ (i := 3) (N := some 10) (v := ?_) (a' := ?_) #[T, T, T, T, F, F, F, F, F, F, F, F, F] rfl rfl (any_of HT_.out (by kernel_rfl)) (fun _ _ _ h => h) (Or.inl ⟨by rfl, ?_⟩) ?_ ?_
    rotate_left
    ·exact gz
    rotate_left
    ·exact pz
    refine take_ (i := 4) (N := some 11) (v := ?_) (a' := ?_) #[T, T, T, T, T, F, F, F, F, F, F, F, F] rfl rfl (take_ofW HT_.out HW_.out (by kernel_rfl)) (fun _ _ _ h => h) (Or.inl ⟨by rfl, ?_⟩) hHeld ?_ ?_
    rotate_left
    ·rintro w' ⟨s0, s1, s2, s3⟩
     go_simp
     with_reducible rfl
    rotate_left
    ·exact pz
    refine one_ (i := 5) (N := some 12) #[T, T, T, T, T, T, F, F, F, F, F, F, F] rfl rfl (one_of HT_.out (by kernel_rfl)) (by decide) (fun K hK => ?_)
    refine goes_ Try.func118 (by kernel_rfl) rfl #[.agg #[.int .i64 a1_0, .int .i64 a1_1]] (by rfl) rfl rfl mz ?_
    with_reducible refine (spec_RestOk.calls a1_0 a1_1 true _ A9.out).mono ?_
    rintro e w14 ⟨rfl, hb⟩
    refine ⟨_, rfl, ?_⟩
    have n0_ := am (blk_below (g := gb126) (o := b2 a0_0 a0_1 86) (Z BK126) hb)
    have n1_ := am (blk_below (g := gb127) (o := b2 a1_0 a1_1 90) (Z BK127) hb)
    have n2_ := am (blk_below (g := gb128) (o := b4 0 0 0 0 25) (Z BK128) hb)
    have n3_ := am (below_step (Y3 HB GE126 GE127 GE128) hb)
    clear BK126
    clear BK127
    clear BK128
    clear HB
    have BK126 := n0_
    have BK127 := n1_
    have BK128 := n2_
    have HB := n3_
    clear n0_ n1_ n2_ n3_
    (try clear hb)
    (try clear hb2)
    (try clear hk)
    (try clear hi)
    refine hK.out _ _ ⟨bc BK126 0, bc BK126 1, bc BK127 0, bc BK127 1⟩ (fun hHeld => ?_)
    clear hK K
    refine norm_ (a' := ?_) ?_ ?_
    rotate_left
    ·show Act.put _ (some 12) _ = _
     simp only [Act.put, List.setIfInBounds_toArray, List.set_cons_zero, List.set_cons_succ, i64_w, i32_w]
     rfl
    refine pure_ (i := 6) (N := some 13) (v := ?_) (a' := ?_) #[T, T, T, T, T, T, T, F, F, F, F, F, F] rfl rfl (any_of HT_.out (by kernel_rfl)) (fun _ _ _ h => h) (Or.inl ⟨by rfl, ?_⟩) ?_ ?_
    rotate_left
    ·exact gz
    rotate_left
    ·exact pz
    refine pure_ (i := 7) (N := some 14) (v := ?_) (a' := ?_) #[T, T, T, T, T, T, T, T, F, F, F, F, F] rfl rfl (any_of HT_.out (by kernel_rfl)) (fun _ _ _ h => h) (Or.inl ⟨by rfl, ?_⟩) ?_ ?_
    rotate_left
    ·exact gz
    rotate_left
    ·exact pz
    refine pure_ (i := 8) (N := some 15) (v := ?_) (a' := ?_) #[T, T, T, T, T, T, T, T, T, F, F, F, F] rfl rfl (any_of HT_.out (by kernel_rfl)) (fun _ _ _ h => h) (Or.inl ⟨by rfl, ?_⟩) ?_ ?_
    rotate_left
    ·exact gz
    rotate_left
    ·exact pz
    refine take_ (i := 9) (N := some 16) (v := ?_) (a' := ?_) #[T, T, T, T, T, T, T, T, T, T, F, F, F] rfl rfl (take_ofW HT_.out HW_.out (by kernel_rfl)) (fun _ _ _ h => h) (Or.inl ⟨by rfl, ?_⟩) hHeld ?_ ?_
    rotate_left
    ·rintro w' ⟨s0, s1, s2, s3⟩
     go_simp
     with_reducible rfl
    rotate_left
    ·exact pz
    refine one_ (i := 10) (N := some 17) #[T, T, T, T, T, T, T, T, T, T, T, F, F] rfl rfl (one_of HT_.out (by kernel_rfl)) (by decide) (fun K hK => ?_)
    refine goes_ Try.func123 (by kernel_rfl) rfl #[] (by rfl) rfl rfl mz ?_
    with_reducible refine (spec_l8None.calls  t131 t132 _ A11.out).mono ?_
    rintro e w15 ⟨rfl, hb⟩
    refine ⟨_, rfl, ?_⟩
    have n0_ := am (blk_below (g := gb126) (o := b2 a0_0 a0_1 86) (Z BK126) hb)
    have n1_ := am (blk_below (g := gb127) (o := b2 a1_0 a1_1 90) (Z BK127) hb)
    have n2_ := am (blk_below (g := gb128) (o := b4 0 0 0 0 25) (Z BK128) hb)
    have n3_ := am (below_step (Y3 HB GE126 GE127 GE128) hb)
    clear BK126
    clear BK127
    clear BK128
    clear HB
    have BK126 := n0_
    have BK127 := n1_
    have BK128 := n2_
    have HB := n3_
    clear n0_ n1_ n2_ n3_
    (try clear hb)
    (try clear hb2)
    (try clear hk)
    (try clear hi)
    refine hK.out _ _ ⟨bc BK126 0, bc BK126 1, bc BK127 0, bc BK127 1⟩ (fun hHeld => ?_)
    clear hK K
    refine norm_ (a' := ?_) ?_ ?_
    rotate_left
    ·show Act.put _ (some 17) _ = _
     simp only [Act.put, List.setIfInBounds_toArray, List.set_cons_zero, List.set_cons_succ, i64_w, i32_w]
     rfl
    refine pure_ (i := 11) (N := some 18) (v := ?_) (a' := ?_) #[T, T, T, T, T, T, T, T, T, T, T, T, F] rfl rfl (any_of HT_.out (by kernel_rfl)) (fun _ _ _ h => h) (Or.inl ⟨by rfl, ?_⟩) ?_ ?_
    rotate_left
    ·exact gz
    rotate_left
    ·exact pz
    refine pure_ (i := 12) (N := some 19) (v := ?_) (a' := ?_) #[T, T, T, T, T, T, T, T, T, T, T, T, T] rfl rfl (any_of HT_.out (by kernel_rfl)) (fun _ _ _ h => h) (Or.inl ⟨by rfl, ?_⟩) ?_ ?_
    rotate_left
    ·exact gz
    rotate_left
    ·exact pz
    refine done_ (done_of HT_.out (by kernel_rfl)) ?_
    try go_wp2
    go_meet
    case rel => exact ⟨_, ((a0_0 == t131 && (a0_1 == t132))), (by first | rfl | (simp; done) | (simp [*]; done)), H', ⟨by first | omega | exact Nat.le_refl _⟩, ⟨Z BK126⟩, ⟨Z BK127⟩, ⟨Z BK128⟩, ⟨Y3 HB GE126 GE127 GE128⟩⟩
   ·replace c10 := Bool.eq_false_iff.mpr c10
    subst c10
    have H1 : (spec_ValMake.j0 k true a0_0 a0_1 a1_0 a1_1) = some (r1, r2, r3, r4) := by rw [if_neg (show ¬ (false = true) by decide)] at H; exact H
    clear H
    have H := H1
    clear H1
    have H' := am H
    clear H
    try go_wp2
    have n0_ := am (blk_drew BK126.out)
    have n1_ := am (blk_drew BK127.out)
    have n2_ := am (blk_drew BK128.out)
    have n3_ := am (below_drew1 HB.out)
    clear BK126
    clear BK127
    clear BK128
    clear HB
    have BK126 := n0_
    have BK127 := n1_
    have BK128 := n2_
    have HB := n3_
    clear n0_ n1_ n2_ n3_
    refine start_ (n := 13) (S := fun w' => w'.cell? ⟨gb126, 0, none⟩ = some (.int .i64 a0_0) ∧ w'.cell? ⟨gb126, 1, none⟩ = some (.int .i64 a0_1) ∧ w'.cell? ⟨gb127, 0, none⟩ = some (.int .i64 a1_0) ∧ w'.cell? ⟨gb127, 1, none⟩ = some (.int .i64 a1_1)) (ds := []) #[F, F, F, F, F, F, F, F, F, F, F, F, F] (by kernel_rfl) rfl rfl ⟨bc BK126 0, bc BK126 1, bc BK127 0, bc BK127 1⟩ (fun hHeld => ?_); refine with_tabW spec_ValMake.tab1 spec_ValMake.bits1 (fun HT_ HW_ => ?_)
    generalize w6.drew = w16 at BK126 BK127 BK128 HB hHeld ⊢
    refine take_ (i := 0) (N := some 7) (v := ?_) (a' := ?_) #[T, F, F, F, F, F, F, F, F, F, F, F, F] rfl rfl (take_ofW HT_.out HW_.out (by kernel_rfl)) (fun _ _ _ h => h) (Or.inl ⟨by rfl, ?_⟩) hHeld ?_ ?_
    rotate_left
    ·rintro w' ⟨s0, s1, s2, s3⟩
     go_simp
     with_reducible rfl
    rotate_left
    ·exact pz
    refine one_ (i := 1) (N := some 8) #[T, T, F, F, F, F, F, F, F, F, F, F, F] rfl rfl (one_of HT_.out (by kernel_rfl)) (by decide) (fun K hK => ?_)
    refine goes_ Try.func117 (by kernel_rfl) rfl #[.agg #[.int .i64 a0_0, .int .i64 a0_1]] (by rfl) rfl rfl mz ?_
    with_reducible refine (spec_RangeOk.calls a0_0 a0_1 true _ A7.out).mono ?_
    rintro e w17 ⟨rfl, hb⟩
    refine ⟨_, rfl, ?_⟩
    have n0_ := am (blk_below (g := gb126) (o := b2 a0_0 a0_1 86) (Z BK126) hb)
    have n1_ := am (blk_below (g := gb127) (o := b2 a1_0 a1_1 90) (Z BK127) hb)
    have n2_ := am (blk_below (g := gb128) (o := b4 0 0 0 0 25) (Z BK128) hb)
    have n3_ := am (below_step (Y3 HB GE126 GE127 GE128) hb)
    clear BK126
    clear BK127
    clear BK128
    clear HB
    have BK126 := n0_
    have BK127 := n1_
    have BK128 := n2_
    have HB := n3_
    clear n0_ n1_ n2_ n3_
    (try clear hb)
    (try clear hb2)
    (try clear hk)
    (try clear hi)
    refine hK.out _ _ ⟨bc BK126 0, bc BK126 1, bc BK127 0, bc BK127 1⟩ (fun hHeld => ?_)
    clear hK K
    refine norm_ (a' := ?_) ?_ ?_
    rotate_left
    ·show Act.put _ (some 8) _ = _
     simp only [Act.put, List.setIfInBounds_toArray, List.set_cons_zero, List.set_cons_succ, i64_w, i32_w]
     rfl
    refine pure_ (i := 2) (N := some 9) (v := ?_) (a' := ?_) #[T, T, T, F, F, F, F, F, F, F, F, F, F] rfl rfl (any_of HT_.out (by kernel_rfl)) (fun _ _ _ h => h) (Or.inl ⟨by rfl, ?_⟩) ?_ ?_
    rotate_left
    ·exact gz
    rotate_left
    ·exact pz
    refine pure_ (i := 3) (N := some 10) (v := ?_) (a' := ?_) #[T, T, T, T, F, F, F, F, F, F, F, F, F] rfl rfl (any_of HT_.out (by kernel_rfl)) (fun _ _ _ h => h) (Or.inl ⟨by rfl, ?_⟩) ?_ ?_
    rotate_left
    ·exact gz
    rotate_left
    ·exact pz
    refine take_ (i := 4) (N := some 11) (v := ?_) (a' := ?_) #[T, T, T, T, T, F, F, F, F, F, F, F, F] rfl rfl (take_ofW HT_.out HW_.out (by kernel_rfl)) (fun _ _ _ h => h) (Or.inl ⟨by rfl, ?_⟩) hHeld ?_ ?_
    rotate_left
    ·rintro w' ⟨s0, s1, s2, s3⟩
     go_simp
     with_reducible rfl
    rotate_left
    ·exact pz
    refine one_ (i := 5) (N := some 12) #[T, T, T, T, T, T, F, F, F, F, F, F, F] rfl rfl (one_of HT_.out (by kernel_rfl)) (by decide) (fun K hK => ?_)
    refine goes_ Try.func118 (by kernel_rfl) rfl #[.agg #[.int .i64 a1_0, .int .i64 a1_1]] (by rfl) rfl rfl mz ?_
    with_reducible refine (spec_RestOk.calls a1_0 a1_1 false _ A9.out).mono ?_
    rintro e w18 ⟨rfl, hb⟩
    refine ⟨_, rfl, ?_⟩
    have n0_ := am (blk_below (g := gb126) (o := b2 a0_0 a0_1 86) (Z BK126) hb)
    have n1_ := am (blk_below (g := gb127) (o := b2 a1_0 a1_1 90) (Z BK127) hb)
    have n2_ := am (blk_below (g := gb128) (o := b4 0 0 0 0 25) (Z BK128) hb)
    have n3_ := am (below_step (Y3 HB GE126 GE127 GE128) hb)
    clear BK126
    clear BK127
    clear BK128
    clear HB
    have BK126 := n0_
    have BK127 := n1_
    have BK128 := n2_
    have HB := n3_
    clear n0_ n1_ n2_ n3_
    (try clear hb)
    (try clear hb2)
    (try clear hk)
    (try clear hi)
    refine hK.out _ _ ⟨bc BK126 0, bc BK126 1, bc BK127 0, bc BK127 1⟩ (fun hHeld => ?_)
    clear hK K
    refine norm_ (a' := ?_) ?_ ?_
    rotate_left
    ·show Act.put _ (some 12) _ = _
     simp only [Act.put, List.setIfInBounds_toArray, List.set_cons_zero, List.set_cons_succ, i64_w, i32_w]
     rfl
    refine pure_ (i := 6) (N := some 13) (v := ?_) (a' := ?_) #[T, T, T, T, T, T, T, F, F, F, F, F, F] rfl rfl (any_of HT_.out (by kernel_rfl)) (fun _ _ _ h => h) (Or.inl ⟨by rfl, ?_⟩) ?_ ?_
    rotate_left
    ·exact gz
    rotate_left
    ·exact pz
    refine pure_ (i := 7) (N := some 14) (v := ?_) (a' := ?_) #[T, T, T, T, T, T, T, T, F, F, F, F, F] rfl rfl (any_of HT_.out (by kernel_rfl)) (fun _ _ _ h => h) (Or.inl ⟨by rfl, ?_⟩) ?_ ?_
    rotate_left
    ·exact gz
    rotate_left
    ·exact pz
    refine pure_ (i := 8) (N := some 15) (v := ?_) (a' := ?_) #[T, T, T, T, T, T, T, T, T, F, F, F, F] rfl rfl (any_of HT_.out (by kernel_rfl)) (fun _ _ _ h => h) (Or.inl ⟨by rfl, ?_⟩) ?_ ?_
    rotate_left
    ·exact gz
    rotate_left
    ·exact pz
    refine pure_ (i := 9) (N := some 16) (v := undef) (a' := ?_) #[T, T, T, T, T, T, T, T, T, T, F, F, F] rfl rfl (any_of HT_.out (by kernel_rfl)) (fun _ _ _ h => h) (Or.inr ⟨by rfl, rfl⟩) ?_ ?_
    rotate_left
    ·exact pz
    refine pure_ (i := 10) (N := some 17) (v := undef) (a' := ?_) #[T, T, T, T, T, T, T, T, T, T, T, F, F] rfl rfl (any_of HT_.out (by kernel_rfl)) (fun _ _ _ h => h) (Or.inr ⟨by rfl, rfl⟩) ?_ ?_
    rotate_left
    ·exact pz
    refine pure_ (i := 11) (N := some 18) (v := undef) (a' := ?_) #[T, T, T, T, T, T, T, T, T, T, T, T, F] rfl rfl (any_of HT_.out (by kernel_rfl)) (fun _ _ _ h => h) (Or.inr ⟨by rfl, rfl⟩) ?_ ?_
    rotate_left
    ·exact pz
    refine pure_ (i := 12) (N := some 19) (v := ?_) (a' := ?_) #[T, T, T, T, T, T, T, T, T, T, T, T, T] rfl rfl (any_of HT_.out (by kernel_rfl)) (fun _ _ _ h => h) (Or.inl ⟨by rfl, ?_⟩) ?_ ?_
    rotate_left
    ·exact gz
    rotate_left
    ·exact pz
    refine done_ (done_of HT_.out (by kernel_rfl)) ?_
    try go_wp2
    go_meet
    case rel => exact ⟨_, (true), (by first | rfl | (simp; done) | (simp [*]; done)), H', ⟨by first | omega | exact Nat.le_refl _⟩, ⟨Z BK126⟩, ⟨Z BK127⟩, ⟨Z BK128⟩, ⟨Y3 HB GE126 GE127 GE128⟩⟩
  ·replace c8 := Bool.eq_false_iff.mpr c8
   subst c8
   have H1 : (spec_ValMake.j0 k true a0_0 a0_1 a1_0 a1_1) = some (r1, r2, r3, r4) := by rw [if_neg (show ¬ (false = true) by decide)] at H; exact H
   clear H
   have H := H1
   clear H1
   have H' := am H
   clear H
   try go_wp2
   have n0_ := am (blk_drew BK126.out)
   have n1_ := am (blk_drew BK127.out)
   have n2_ := am (blk_drew BK128.out)
   have n3_ := am (below_drew1 HB.out)
   clear BK126
   clear BK127
   clear BK128
   clear HB
   have BK126 := n0_
   have BK127 := n1_
   have BK128 := n2_
   have HB := n3_
   clear n0_ n1_ n2_ n3_
   refine start_ (n := 13) (S := fun w' => w'.cell? ⟨gb126, 0, none⟩ = some (.int .i64 a0_0) ∧ w'.cell? ⟨gb126, 1, none⟩ = some (.int .i64 a0_1)) (ds := []) #[F, F, F, F, F, F, F, F, F, F, F, F, F] (by kernel_rfl) rfl rfl ⟨bc BK126 0, bc BK126 1⟩ (fun hHeld => ?_); refine with_tabW spec_ValMake.tab1 spec_ValMake.bits1 (fun HT_ HW_ => ?_)
   generalize w6.drew = w19 at BK126 BK127 BK128 HB hHeld ⊢
   refine take_ (i := 0) (N := some 7) (v := ?_) (a' := ?_) #[T, F, F, F, F, F, F, F, F, F, F, F, F] rfl rfl (take_ofW HT_.out HW_.out (by kernel_rfl)) (fun _ _ _ h => h) (Or.inl ⟨by rfl, ?_⟩) hHeld ?_ ?_
   rotate_left
   ·rintro w' ⟨s0, s1⟩
    go_simp
    with_reducible rfl
   rotate_left
   ·exact pz
   refine one_ (i := 1) (N := some 8) #[T, T, F, F, F, F, F, F, F, F, F, F, F] rfl rfl (one_of HT_.out (by kernel_rfl)) (by decide) (fun K hK => ?_)
   refine goes_ Try.func117 (by kernel_rfl) rfl #[.agg #[.int .i64 a0_0, .int .i64 a0_1]] (by rfl) rfl rfl mz ?_
   with_reducible refine (spec_RangeOk.calls a0_0 a0_1 false _ A7.out).mono ?_
   rintro e w20 ⟨rfl, hb⟩
   refine ⟨_, rfl, ?_⟩
   have n0_ := am (blk_below (g := gb126) (o := b2 a0_0 a0_1 86) (Z BK126) hb)
   have n1_ := am (blk_below (g := gb127) (o := b2 a1_0 a1_1 90) (Z BK127) hb)
   have n2_ := am (blk_below (g := gb128) (o := b4 0 0 0 0 25) (Z BK128) hb)
   have n3_ := am (below_step (Y3 HB GE126 GE127 GE128) hb)
   clear BK126
   clear BK127
   clear BK128
   clear HB
   have BK126 := n0_
   have BK127 := n1_
   have BK128 := n2_
   have HB := n3_
   clear n0_ n1_ n2_ n3_
   (try clear hb)
   (try clear hb2)
   (try clear hk)
   (try clear hi)
   refine hK.out _ _ ⟨bc BK126 0, bc BK126 1⟩ (fun hHeld => ?_)
   clear hK K
   refine norm_ (a' := ?_) ?_ ?_
   rotate_left
   ·show Act.put _ (some 8) _ = _
    simp only [Act.put, List.setIfInBounds_toArray, List.set_cons_zero, List.set_cons_succ, i64_w, i32_w]
    rfl
   refine pure_ (i := 2) (N := some 9) (v := ?_) (a' := ?_) #[T, T, T, F, F, F, F, F, F, F, F, F, F] rfl rfl (any_of HT_.out (by kernel_rfl)) (fun _ _ _ h => h) (Or.inl ⟨by rfl, ?_⟩) ?_ ?_
   rotate_left
   ·exact gz
   rotate_left
   ·exact pz
   refine pure_ (i := 3) (N := some 10) (v := ?_) (a' := ?_) #[T, T, T, T, F, F, F, F, F, F, F, F, F] rfl rfl (any_of HT_.out (by kernel_rfl)) (fun _ _ _ h => h) (Or.inl ⟨by rfl, ?_⟩) ?_ ?_
   rotate_left
   ·exact gz
   rotate_left
   ·exact pz
   refine pure_ (i := 4) (N := some 11) (v := undef) (a' := ?_) #[T, T, T, T, T, F, F, F, F, F, F, F, F] rfl rfl (any_of HT_.out (by kernel_rfl)) (fun _ _ _ h => h) (Or.inr ⟨by rfl, rfl⟩) ?_ ?_
   rotate_left
   ·exact pz
   refine pure_ (i := 5) (N := some 12) (v := undef) (a' := ?_) #[T, T, T, T, T, T, F, F, F, F, F, F, F] rfl rfl (any_of HT_.out (by kernel_rfl)) (fun _ _ _ h => h) (Or.inr ⟨by rfl, rfl⟩) ?_ ?_
   rotate_left
   ·exact pz
   refine pure_ (i := 6) (N := some 13) (v := undef) (a' := ?_) #[T, T, T, T, T, T, T, F, F, F, F, F, F] rfl rfl (any_of HT_.out (by kernel_rfl)) (fun _ _ _ h => h) (Or.inr ⟨by rfl, rfl⟩) ?_ ?_
   rotate_left
   ·exact pz
   refine pure_ (i := 7) (N := some 14) (v := ?_) (a' := ?_) #[T, T, T, T, T, T, T, T, F, F, F, F, F] rfl rfl (any_of HT_.out (by kernel_rfl)) (fun _ _ _ h => h) (Or.inl ⟨by rfl, ?_⟩) ?_ ?_
   rotate_left
   ·exact gz
   rotate_left
   ·exact pz
   refine pure_ (i := 8) (N := some 15) (v := ?_) (a' := ?_) #[T, T, T, T, T, T, T, T, T, F, F, F, F] rfl rfl (any_of HT_.out (by kernel_rfl)) (fun _ _ _ h => h) (Or.inl ⟨by rfl, ?_⟩) ?_ ?_
   rotate_left
   ·exact gz
   rotate_left
   ·exact pz
   refine pure_ (i := 9) (N := some 16) (v := undef) (a' := ?_) #[T, T, T, T, T, T, T, T, T, T, F, F, F] rfl rfl (any_of HT_.out (by kernel_rfl)) (fun _ _ _ h => h) (Or.inr ⟨by rfl, rfl⟩) ?_ ?_
   rotate_left
   ·exact pz
   refine pure_ (i := 10) (N := some 17) (v := undef) (a' := ?_) #[T, T, T, T, T, T, T, T, T, T, T, F, F] rfl rfl (any_of HT_.out (by kernel_rfl)) (fun _ _ _ h => h) (Or.inr ⟨by rfl, rfl⟩) ?_ ?_
   rotate_left
   ·exact pz
   refine pure_ (i := 11) (N := some 18) (v := undef) (a' := ?_) #[T, T, T, T, T, T, T, T, T, T, T, T, F] rfl rfl (any_of HT_.out (by kernel_rfl)) (fun _ _ _ h => h) (Or.inr ⟨by rfl, rfl⟩) ?_ ?_
   rotate_left
   ·exact pz
   refine pure_ (i := 12) (N := some 19) (v := ?_) (a' := ?_) #[T, T, T, T, T, T, T, T, T, T, T, T, T] rfl rfl (any_of HT_.out (by kernel_rfl)) (fun _ _ _ h => h) (Or.inl ⟨by rfl, ?_⟩) ?_ ?_
   rotate_left
   ·exact gz
   rotate_left
   ·exact pz
   refine done_ (done_of HT_.out (by kernel_rfl)) ?_
   try go_wp2
   go_meet
   case rel => exact ⟨_, (true), (by first | rfl | (simp; done) | (simp [*]; done)), H', ⟨by first | omega | exact Nat.le_refl _⟩, ⟨Z BK126⟩, ⟨Z BK127⟩, ⟨Z BK128⟩, ⟨Y3 HB GE126 GE127 GE128⟩⟩
 case rest =>
  clear HC3
  try clear c1
  try clear p2
  try clear c7
  try clear c8
  try clear c10
  try clear c11
  try clear c12
  obtain ⟨kq, x19_2, rfl, HA, HJ2, BK126, BK127, BK128, HB⟩ := hcut
  cases kq with
  | zero => exact absurd HA.out (by simp [spec_ValMake.j0])
  | succ kj2 =>
   have H := HA.out
   clear HA
   simp only [spec_ValMake.j0] at H
   by_cases c21 : x19_2 = true
   ·subst c21
    have H1 : ((spec_l10None.f).bind fun bt133 => (some (bt133.1, bt133.2.1, bt133.2.2.1, bt133.2.2.2))) = some (r1, r2, r3, r4) := by rw [if_pos rfl] at H; exact H
    clear H
    have H := H1
    clear H1
    replace H := Option.bind_eq_some_iff.mp H
    obtain ⟨⟨t133, t134, t135, t136⟩, A220, H⟩ := H
    replace H : (some (t133, t134, t135, t136)) = some (r1, r2, r3, r4) := H
    have A22 := am A220
    clear A220
    simp only [Option.some.injEq, Prod.mk.injEq] at H
    obtain ⟨rfl, rfl, rfl, rfl⟩ := H
    go_wp2_with (first | ((with_reducible refine gate_callee (f := 58) rfl ?_); refine goesL_ (some 20) rfl rfl Try.func58 (by kernel_rfl) rfl #[] rfl mz ?_; (with_reducible refine (spec_l10None.calls  t133 t134 t135 t136 _ A22.out).mono ?_); rintro e w23 ⟨rfl, hb⟩; refine ⟨_, rfl, ?_⟩; have n0_ := am (blk_below (g := gb126) (o := b2 a0_0 a0_1 86) (Z BK126) hb); have n1_ := am (blk_below (g := gb127) (o := b2 a1_0 a1_1 90) (Z BK127) hb); have n2_ := am (blk_below (g := gb128) (o := b4 0 0 0 0 25) (Z BK128) hb); have n3_ := am (below_step (Y3 HB GE126 GE127 GE128) hb); clear BK126; clear BK127; clear BK128; clear HB; have BK126 := n0_; have BK127 := n1_; have BK128 := n2_; have HB := n3_; clear n0_ n1_ n2_ n3_; (try clear hb); (try clear hb2); (try clear hk); (try clear hi); have hnb24 := NB128_126.out; have hnc24 := NB126_128.out; have hnb25 := NB128_127.out; have hnc25 := NB127_128.out; have hcz26_0 : w23.cell? ⟨gb128, 0, none⟩ = some (.int .i64 0) := bc BK128 0; have hcz26_1 : w23.cell? ⟨gb128, 1, none⟩ = some (.int .i64 0) := bc BK128 1; have hcz26_2 : w23.cell? ⟨gb128, 2, none⟩ = some (.int .i64 0) := bc BK128 2; have hcz26_3 : w23.cell? ⟨gb128, 3, none⟩ = some (.int .i64 0) := bc BK128 3; have hfz26_0 := blk_frozen BK128.out 0; have hfz26_1 := blk_frozen BK128.out 1; have hfz26_2 := blk_frozen BK128.out 2; have hfz26_3 := blk_frozen BK128.out 3))
    refine bodyPost_ret (results_cell_row rfl _ _ gb128 25 #[.int .i64 t133, .int .i64 t134, .int .i64 t135, .int .i64 t136] (0, 0) _ rfl (by (with_reducible repeat (first | refine blk_drewN ?_ _ | refine blk_drew ?_ | refine blk_alloc ?_ _)); refine blk_put (cs := #[.int .i64 t133, .int .i64 t134, .int .i64 t135, .int .i64 0]) ?_ 3 _ rfl; (with_reducible repeat (first | refine blk_drewN ?_ _ | refine blk_drew ?_ | refine blk_alloc ?_ _)); refine blk_put (cs := #[.int .i64 t133, .int .i64 t134, .int .i64 0, .int .i64 0]) ?_ 2 _ rfl; (with_reducible repeat (first | refine blk_drewN ?_ _ | refine blk_drew ?_ | refine blk_alloc ?_ _)); refine blk_put (cs := #[.int .i64 t133, .int .i64 0, .int .i64 0, .int .i64 0]) ?_ 1 _ rfl; (with_reducible repeat (first | refine blk_drewN ?_ _ | refine blk_drew ?_ | refine blk_alloc ?_ _)); refine blk_put (cs := #[.int .i64 0, .int .i64 0, .int .i64 0, .int .i64 0]) ?_ 0 _ rfl; (with_reducible repeat (first | refine blk_drewN ?_ _ | refine blk_drew ?_ | refine blk_alloc ?_ _)); exact BK128.out) Try.underlying25 rfl (by kernel_rfl)) rfl ?_
    exact ⟨by first | rfl | (simp [errW_none, errW_some] <;> rfl) | (simp [*, errW_none, errW_some] <;> rfl), Y3 HB GE126 GE127 GE128⟩
   ·replace c21 := Bool.eq_false_iff.mpr c21
    subst c21
    have H1 : (if a1_0 = 0 then ((spec_RangeHas.f a0_0 a0_1 a1_1).bind fun t137 => (if t137 = true then ((spec_l10One.f a1_1).bind fun bt138 => (some (bt138.1, bt138.2.1, bt138.2.2.1, bt138.2.2.2))) else ((spec_l10None.f).bind fun bt142 => (some (bt142.1, bt142.2.1, bt142.2.2.1, bt142.2.2.2))))) else ((spec_l1Mod.f (wrap64 (a1_1 - a0_0)) a1_0).bind fun t146 => ((spec_l1Mod.f (wrap64 (a0_1 - a1_1)) a1_0).bind fun t147 => (if (wrap64 (a0_0 + t146)) > (wrap64 (a0_1 - t147)) then ((spec_l10None.f).bind fun bt148 => (some (bt148.1, bt148.2.1, bt148.2.2.1, bt148.2.2.2))) else (if (wrap64 (a0_0 + t146)) = (wrap64 (a0_1 - t147)) then ((spec_l10One.f (wrap64 (a0_0 + t146))).bind fun bt152 => (some (bt152.1, bt152.2.1, bt152.2.2.1, bt152.2.2.2))) else (some (wrap64 (a0_0 + t146), wrap64 (a0_1 - t147), a1_0, a1_1))))))) = some (r1, r2, r3, r4) := by rw [if_neg (show ¬ (false = true) by decide)] at H; exact H
    clear H
    have H := H1
    clear H1
    by_cases c27 : a1_0 = 0
    ·rw [if_pos c27] at H
     have c27b0 : (a1_0 == 0) = true := beq_iff_eq.mpr c27
     have c27b1 : (a1_0 != 0) = false := bne_eq_false_iff_eq.mpr c27
     clear c27
     replace H := Option.bind_eq_some_iff.mp H
     obtain ⟨t137, A280, H⟩ := H
     replace H : (if t137 = true then ((spec_l10One.f a1_1).bind fun bt138 => (some (bt138.1, bt138.2.1, bt138.2.2.1, bt138.2.2.2))) else ((spec_l10None.f).bind fun bt142 => (some (bt142.1, bt142.2.1, bt142.2.2.1, bt142.2.2.2)))) = some (r1, r2, r3, r4) := H
     have A28 := am A280
     clear A280
     by_cases c29 : t137 = true
     ·subst c29
      have H1 : ((spec_l10One.f a1_1).bind fun bt138 => (some (bt138.1, bt138.2.1, bt138.2.2.1, bt138.2.2.2))) = some (r1, r2, r3, r4) := by rw [if_pos rfl] at H; exact H
      clear H
      have H := H1
      clear H1
      replace H := Option.bind_eq_some_iff.mp H
      obtain ⟨⟨t138, t139, t140, t141⟩, A300, H⟩ := H
      replace H : (some (t138, t139, t140, t141)) = some (r1, r2, r3, r4) := H
      have A30 := am A300
      clear A300
      simp only [Option.some.injEq, Prod.mk.injEq] at H
      obtain ⟨rfl, rfl, rfl, rfl⟩ := H
      have hnb31 := NB127_126.out
      have hnc31 := NB126_127.out
      have hnb32 := NB127_128.out
      have hnc32 := NB128_127.out
      have hcz33_0 : wc.cell? ⟨gb127, 0, none⟩ = some (.int .i64 a1_0) := bc BK127 0
      have hcz33_1 : wc.cell? ⟨gb127, 1, none⟩ = some (.int .i64 a1_1) := bc BK127 1
      have hfz33_0 := blk_frozen BK127.out 0
      have hfz33_1 := blk_frozen BK127.out 1
      have hnb34 := NB126_128.out
      have hnc34 := NB128_126.out
      have hcz35_0 : wc.cell? ⟨gb126, 0, none⟩ = some (.int .i64 a0_0) := bc BK126 0
      have hcz35_1 : wc.cell? ⟨gb126, 1, none⟩ = some (.int .i64 a0_1) := bc BK126 1
      have hfz35_0 := blk_frozen BK126.out 0
      have hfz35_1 := blk_frozen BK126.out 1
      go_wp2_with (first | ((with_reducible refine gate_callee (f := 59) rfl ?_); refine goesL_ (some 27) rfl rfl Try.func59 (by kernel_rfl) rfl #[.agg #[.int .i64 a0_0, .int .i64 a0_1], .int .i64 a1_1] rfl mz ?_; (with_reducible refine (spec_RangeHas.calls a0_0 a0_1 a1_1 true _ A28.out).mono ?_); rintro e w36 ⟨rfl, hb⟩; refine ⟨_, rfl, ?_⟩; have n0_ := am (blk_below (g := gb126) (o := b2 a0_0 a0_1 86) (Z BK126) hb); have n1_ := am (blk_below (g := gb127) (o := b2 a1_0 a1_1 90) (Z BK127) hb); have n2_ := am (blk_below (g := gb128) (o := b4 0 0 0 0 25) (Z BK128) hb); have n3_ := am (below_step (Y3 HB GE126 GE127 GE128) hb); clear BK126; clear BK127; clear BK128; clear HB; have BK126 := n0_; have BK127 := n1_; have BK128 := n2_; have HB := n3_; clear n0_ n1_ n2_ n3_; (try clear hb); (try clear hb2); (try clear hk); (try clear hi); have hcz37_0 : w36.cell? ⟨gb127, 0, none⟩ = some (.int .i64 a1_0) := bc BK127 0; have hcz37_1 : w36.cell? ⟨gb127, 1, none⟩ = some (.int .i64 a1_1) := bc BK127 1; have hfz37_0 := blk_frozen BK127.out 0; have hfz37_1 := blk_frozen BK127.out 1) | ((with_reducible refine gate_callee (f := 125) rfl ?_); refine goesL_ (some 30) rfl rfl Try.func125 (by kernel_rfl) rfl #[.int .i64 a1_1] rfl mz ?_; (with_reducible refine (spec_l10One.calls a1_1 t138 t139 t140 t141 _ A30.out).mono ?_); rintro e w38 ⟨rfl, hb⟩; refine ⟨_, rfl, ?_⟩; have n0_ := am (blk_below (g := gb126) (o := b2 a0_0 a0_1 86) (Z BK126) hb); have n1_ := am (blk_below (g := gb127) (o := b2 a1_0 a1_1 90) (Z BK127) hb); have n2_ := am (blk_below (g := gb128) (o := b4 0 0 0 0 25) (Z BK128) hb); have n3_ := am (below_step (Y3 HB GE126 GE127 GE128) hb); clear BK126; clear BK127; clear BK128; clear HB; have BK126 := n0_; have BK127 := n1_; have BK128 := n2_; have HB := n3_; clear n0_ n1_ n2_ n3_; (try clear hb); (try clear hb2); (try clear hk); (try clear hi); have hcz39_0 : w38.cell? ⟨gb128, 0, none⟩ = some (.int .i64 0) := bc BK128 0; have hcz39_1 : w38.cell? ⟨gb128, 1, none⟩ = some (.int .i64 0) := bc BK128 1; have hcz39_2 : w38.cell? ⟨gb128, 2, none⟩ = some (.int .i64 0) := bc BK128 2; have hcz39_3 : w38.cell? ⟨gb128, 3, none⟩ = some (.int .i64 0) := bc BK128 3; have hfz39_0 := blk_frozen BK128.out 0; have hfz39_1 := blk_frozen BK128.out 1; have hfz39_2 := blk_frozen BK128.out 2; have hfz39_3 := blk_frozen BK128.out 3))
      refine bodyPost_ret (results_cell_row rfl _ _ gb128 25 #[.int .i64 t138, .int .i64 t139, .int .i64 t140, .int .i64 t141] (0, 0) _ rfl (by (with_reducible repeat (first | refine blk_drewN ?_ _ | refine blk_drew ?_ | refine blk_alloc ?_ _)); refine blk_put (cs := #[.int .i64 t138, .int .i64 t139, .int .i64 t140, .int .i64 0]) ?_ 3 _ rfl; (with_reducible repeat (first | refine blk_drewN ?_ _ | refine blk_drew ?_ | refine blk_alloc ?_ _)); refine blk_put (cs := #[.int .i64 t138, .int .i64 t139, .int .i64 0, .int .i64 0]) ?_ 2 _ rfl; (with_reducible repeat (first | refine blk_drewN ?_ _ | refine blk_drew ?_ | refine blk_alloc ?_ _)); refine blk_put (cs := #[.int .i64 t138, .int .i64 0, .int .i64 0, .int .i64 0]) ?_ 1 _ rfl; (with_reducible repeat (first | refine blk_drewN ?_ _ | refine blk_drew ?_ | refine blk_alloc ?_ _)); refine blk_put (cs := #[.int .i64 0, .int .i64 0, .int .i64 0, .int .i64 0]) ?_ 0 _ rfl; (with_reducible repeat (first | refine blk_drewN ?_ _ | refine blk_drew ?_ | refine blk_alloc ?_ _)); exact BK128.out) Try.underlying25 rfl (by kernel_rfl)) rfl ?_
      exact ⟨by first | rfl | (simp [errW_none, errW_some] <;> rfl) | (simp [*, errW_none, errW_some] <;> rfl), Y3 HB GE126 GE127 GE128⟩
     ·replace c29 := Bool.eq_false_iff.mpr c29
      subst c29
      have H1 : ((spec_l10None.f).bind fun bt142 => (some (bt142.1, bt142.2.1, bt142.2.2.1, bt142.2.2.2))) = some (r1, r2, r3, r4) := by rw [if_neg (show ¬ (false = true) by decide)] at H; exact H
      clear H
      have H := H1
      clear H1
      replace H := Option.bind_eq_some_iff.mp H
      obtain ⟨⟨t142, t143, t144, t145⟩, A400, H⟩ := H
      replace H : (some (t142, t143, t144, t145)) = some (r1, r2, r3, r4) := H
      have A40 := am A400
      clear A400
      simp only [Option.some.injEq, Prod.mk.injEq] at H
      obtain ⟨rfl, rfl, rfl, rfl⟩ := H
      have hnb41 := NB127_126.out
      have hnc41 := NB126_127.out
      have hnb42 := NB127_128.out
      have hnc42 := NB128_127.out
      have hcz43_0 : wc.cell? ⟨gb127, 0, none⟩ = some (.int .i64 a1_0) := bc BK127 0
      have hcz43_1 : wc.cell? ⟨gb127, 1, none⟩ = some (.int .i64 a1_1) := bc BK127 1
      have hfz43_0 := blk_frozen BK127.out 0
      have hfz43_1 := blk_frozen BK127.out 1
      have hnb44 := NB126_128.out
      have hnc44 := NB128_126.out
      have hcz45_0 : wc.cell? ⟨gb126, 0, none⟩ = some (.int .i64 a0_0) := bc BK126 0
      have hcz45_1 : wc.cell? ⟨gb126, 1, none⟩ = some (.int .i64 a0_1) := bc BK126 1
      have hfz45_0 := blk_frozen BK126.out 0
      have hfz45_1 := blk_frozen BK126.out 1
      go_wp2_with (first | ((with_reducible refine gate_callee (f := 59) rfl ?_); refine goesL_ (some 27) rfl rfl Try.func59 (by kernel_rfl) rfl #[.agg #[.int .i64 a0_0, .int .i64 a0_1], .int .i64 a1_1] rfl mz ?_; (with_reducible refine (spec_RangeHas.calls a0_0 a0_1 a1_1 false _ A28.out).mono ?_); rintro e w46 ⟨rfl, hb⟩; refine ⟨_, rfl, ?_⟩; have n0_ := am (blk_below (g := gb126) (o := b2 a0_0 a0_1 86) (Z BK126) hb); have n1_ := am (blk_below (g := gb127) (o := b2 a1_0 a1_1 90) (Z BK127) hb); have n2_ := am (blk_below (g := gb128) (o := b4 0 0 0 0 25) (Z BK128) hb); have n3_ := am (below_step (Y3 HB GE126 GE127 GE128) hb); clear BK126; clear BK127; clear BK128; clear HB; have BK126 := n0_; have BK127 := n1_; have BK128 := n2_; have HB := n3_; clear n0_ n1_ n2_ n3_; (try clear hb); (try clear hb2); (try clear hk); (try clear hi)) | ((with_reducible refine gate_callee (f := 58) rfl ?_); refine goesL_ (some 31) rfl rfl Try.func58 (by kernel_rfl) rfl #[] rfl mz ?_; (with_reducible refine (spec_l10None.calls  t142 t143 t144 t145 _ A40.out).mono ?_); rintro e w47 ⟨rfl, hb⟩; refine ⟨_, rfl, ?_⟩; have n0_ := am (blk_below (g := gb126) (o := b2 a0_0 a0_1 86) (Z BK126) hb); have n1_ := am (blk_below (g := gb127) (o := b2 a1_0 a1_1 90) (Z BK127) hb); have n2_ := am (blk_below (g := gb128) (o := b4 0 0 0 0 25) (Z BK128) hb); have n3_ := am (below_step (Y3 HB GE126 GE127 GE128) hb); clear BK126; clear BK127; clear BK128; clear HB; have BK126 := n0_; have BK127 := n1_; have BK128 := n2_; have HB := n3_; clear n0_ n1_ n2_ n3_; (try clear hb); (try clear hb2); (try clear hk); (try clear hi); have hcz48_0 : w47.cell? ⟨gb128, 0, none⟩ = some (.int .i64 0) := bc BK128 0; have hcz48_1 : w47.cell? ⟨gb128, 1, none⟩ = some (.int .i64 0) := bc BK128 1; have hcz48_2 : w47.cell? ⟨gb128, 2, none⟩ = some (.int .i64 0) := bc BK128 2; have hcz48_3 : w47.cell? ⟨gb128, 3, none⟩ = some (.int .i64 0) := bc BK128 3; have hfz48_0 := blk_frozen BK128.out 0; have hfz48_1 := blk_frozen BK128.out 1; have hfz48_2 := blk_frozen BK128.out 2; have hfz48_3 := blk_frozen BK128.out 3))
      refine bodyPost_ret (results_cell_row rfl _ _ gb128 25 #[.int .i64 t142, .int .i64 t143, .int .i64 t144, .int .i64 t145] (0, 0) _ rfl (by (with_reducible repeat (first | refine blk_drewN ?_ _ | refine blk_drew ?_ | refine blk_alloc ?_ _)); refine blk_put (cs := #[.int .i64 t142, .int .i64 t143, .int .i64 t144, .int .i64 0]) ?_ 3 _ rfl; (with_reducible repeat (first | refine blk_drewN ?_ _ | refine blk_drew ?_ | refine blk_alloc ?_ _)); refine blk_put (cs := #[.int .i64 t142, .int .i64 t143, .int .i64 0, .int .i64 0]) ?_ 2 _ rfl; (with_reducible repeat (first | refine blk_drewN ?_ _ | refine blk_drew ?_ | refine blk_alloc ?_ _)); refine blk_put (cs := #[.int .i64 t142, .int .i64 0, .int .i64 0, .int .i64 0]) ?_ 1 _ rfl; (with_reducible repeat (first | refine blk_drewN ?_ _ | refine blk_drew ?_ | refine blk_alloc ?_ _)); refine blk_put (cs := #[.int .i64 0, .int .i64 0, .int .i64 0, .int .i64 0]) ?_ 0 _ rfl; (with_reducible repeat (first | refine blk_drewN ?_ _ | refine blk_drew ?_ | refine blk_alloc ?_ _)); exact BK128.out) Try.underlying25 rfl (by kernel_rfl)) rfl ?_
      exact ⟨by first | rfl | (simp [errW_none, errW_some] <;> rfl) | (simp [*, errW_none, errW_some] <;> rfl), Y3 HB GE126 GE127 GE128⟩
    ·rw [if_neg c27] at H
     have c27b0 : (a1_0 == 0) = false := beq_eq_false_iff_ne.mpr c27
     have c27b1 : (a1_0 != 0) = true := bne_iff_ne.mpr c27
     replace H := Option.bind_eq_some_iff.mp H
     obtain ⟨t146, A490, H⟩ := H
     replace H : ((spec_l1Mod.f (wrap64 (a0_1 - a1_1)) a1_0).bind fun t147 => (if (wrap64 (a0_0 + t146)) > (wrap64 (a0_1 - t147)) then ((spec_l10None.f).bind fun bt148 => (some (bt148.1, bt148.2.1, bt148.2.2.1, bt148.2.2.2))) else (if (wrap64 (a0_0 + t146)) = (wrap64 (a0_1 - t147)) then ((spec_l10One.f (wrap64 (a0_0 + t146))).bind fun bt152 => (some (bt152.1, bt152.2.1, bt152.2.2.1, bt152.2.2.2))) else (some (wrap64 (a0_0 + t146), wrap64 (a0_1 - t147), a1_0, a1_1))))) = some (r1, r2, r3, r4) := H
     have A49 := am A490
     clear A490
     replace H := Option.bind_eq_some_iff.mp H
     obtain ⟨t147, A500, H⟩ := H
     replace H : (if (wrap64 (a0_0 + t146)) > (wrap64 (a0_1 - t147)) then ((spec_l10None.f).bind fun bt148 => (some (bt148.1, bt148.2.1, bt148.2.2.1, bt148.2.2.2))) else (if (wrap64 (a0_0 + t146)) = (wrap64 (a0_1 - t147)) then ((spec_l10One.f (wrap64 (a0_0 + t146))).bind fun bt152 => (some (bt152.1, bt152.2.1, bt152.2.2.1, bt152.2.2.2))) else (some (wrap64 (a0_0 + t146), wrap64 (a0_1 - t147), a1_0, a1_1)))) = some (r1, r2, r3, r4) := H
     have A50 := am A500
     clear A500
     by_cases c51 : (wrap64 (a0_0 + t146)) > (wrap64 (a0_1 - t147))
     ·rw [if_pos c51] at H
      have c51b0 : decide ((wrap64 (a0_1 - t147)) < (wrap64 (a0_0 + t146))) = true := decide_eq_true c51
      clear c51
      replace H := Option.bind_eq_some_iff.mp H
      obtain ⟨⟨t148, t149, t150, t151⟩, A520, H⟩ := H
      replace H : (some (t148, t149, t150, t151)) = some (r1, r2, r3, r4) := H
      have A52 := am A520
      clear A520
      simp only [Option.some.injEq, Prod.mk.injEq] at H
      obtain ⟨rfl, rfl, rfl, rfl⟩ := H
      have hnb53 := NB127_126.out
      have hnc53 := NB126_127.out
      have hnb54 := NB127_128.out
      have hnc54 := NB128_127.out
      have hcz55_0 : wc.cell? ⟨gb127, 0, none⟩ = some (.int .i64 a1_0) := bc BK127 0
      have hcz55_1 : wc.cell? ⟨gb127, 1, none⟩ = some (.int .i64 a1_1) := bc BK127 1
      have hfz55_0 := blk_frozen BK127.out 0
      have hfz55_1 := blk_frozen BK127.out 1
      try go_wp2
      have n0_ := am (blk_drew BK126.out)
      have n1_ := am (blk_drew BK127.out)
      have n2_ := am (blk_drew BK128.out)
      have n3_ := am (below_drew1 HB.out)
      clear BK126
      clear BK127
      clear BK128
      clear HB
      have BK126 := n0_
      have BK127 := n1_
      have BK128 := n2_
      have HB := n3_
      clear n0_ n1_ n2_ n3_
      refine start_ (n := 12) (S := fun w' => w'.cell? ⟨gb126, 0, none⟩ = some (.int .i64 a0_0) ∧ w'.cell? ⟨gb126, 1, none⟩ = some (.int .i64 a0_1) ∧ w'.cell? ⟨gb127, 0, none⟩ = some (.int .i64 a1_0) ∧ w'.cell? ⟨gb127, 1, none⟩ = some (.int .i64 a1_1)) (ds := []) #[F, F, F, F, F, F, F, F, F, F, F, F] (by kernel_rfl) rfl rfl ⟨bc BK126 0, bc BK126 1, bc BK127 0, bc BK127 1⟩ (fun hHeld => ?_); refine with_tabW spec_ValMake.tab7 spec_ValMake.bits7 (fun HT_ HW_ => ?_)
      generalize wc.drew = w56 at BK126 BK127 BK128 HB hHeld ⊢
      refine pure_ (i := 0) (N := some 32) (v := ?_) (a' := ?_) #[T, F, F, F, F, F, F, F, F, F, F, F] rfl rfl (any_of HT_.out (by kernel_rfl)) (fun _ _ _ h => h) (Or.inl ⟨by rfl, ?_⟩) ?_ ?_
      rotate_left
      ·exact gz
      rotate_left
      ·exact pz
      refine pure_ (i := 2) (N := some 34) (v := ?_) (a' := ?_) #[T, F, T, F, F, F, F, F, F, F, F, F] rfl rfl (any_of HT_.out (by kernel_rfl)) (fun _ _ _ h => h) (Or.inl ⟨by rfl, ?_⟩) ?_ ?_
      rotate_left
      ·exact gz
      rotate_left
      ·exact pz
      refine pure_ (i := 4) (N := some 36) (v := ?_) (a' := ?_) #[T, F, T, F, T, F, F, F, F, F, F, F] rfl rfl (any_of HT_.out (by kernel_rfl)) (fun _ _ _ h => h) (Or.inl ⟨by rfl, ?_⟩) ?_ ?_
      rotate_left
      ·exact gz
      rotate_left
      ·exact pz
      refine pure_ (i := 7) (N := some 39) (v := ?_) (a' := ?_) #[T, F, T, F, T, F, F, T, F, F, F, F] rfl rfl (any_of HT_.out (by kernel_rfl)) (fun _ _ _ h => h) (Or.inl ⟨by rfl, ?_⟩) ?_ ?_
      rotate_left
      ·exact gz
      rotate_left
      ·exact pz
      refine take_ (i := 1) (N := some 33) (v := ?_) (a' := ?_) #[T, T, T, F, T, F, F, T, F, F, F, F] rfl rfl (take_ofW HT_.out HW_.out (by kernel_rfl)) (fun _ _ _ h => h) (Or.inl ⟨by rfl, ?_⟩) hHeld ?_ ?_
      rotate_left
      ·rintro w' ⟨s0, s1, s2, s3⟩
       go_simp
       with_reducible rfl
      rotate_left
      ·exact pz
      refine take_ (i := 3) (N := some 35) (v := ?_) (a' := ?_) #[T, T, T, T, T, F, F, T, F, F, F, F] rfl rfl (take_ofW HT_.out HW_.out (by kernel_rfl)) (fun _ _ _ h => h) (Or.inl ⟨by rfl, ?_⟩) hHeld ?_ ?_
      rotate_left
      ·rintro w' ⟨s0, s1, s2, s3⟩
       go_simp
       with_reducible rfl
      rotate_left
      ·exact pz
      refine take_ (i := 5) (N := some 37) (v := ?_) (a' := ?_) #[T, T, T, T, T, T, F, T, F, F, F, F] rfl rfl (take_ofW HT_.out HW_.out (by kernel_rfl)) (fun _ _ _ h => h) (Or.inl ⟨by rfl, ?_⟩) hHeld ?_ ?_
      rotate_left
      ·rintro w' ⟨s0, s1, s2, s3⟩
       go_simp
       with_reducible rfl
      rotate_left
      ·exact pz
      refine pure_ (i := 6) (N := some 38) (v := ?_) (a' := ?_) #[T, T, T, T, T, T, T, T, F, F, F, F] rfl rfl (any_of HT_.out (by kernel_rfl)) (fun _ _ _ h => h) (Or.inl ⟨by rfl, ?_⟩) ?_ ?_
      rotate_left
      ·exact gz
      rotate_left
      ·exact pz
      refine take_ (i := 8) (N := some 40) (v := ?_) (a' := ?_) #[T, T, T, T, T, T, T, T, T, F, F, F] rfl rfl (take_ofW HT_.out HW_.out (by kernel_rfl)) (fun _ _ _ h => h) (Or.inl ⟨by rfl, ?_⟩) hHeld ?_ ?_
      rotate_left
      ·rintro w' ⟨s0, s1, s2, s3⟩
       go_simp
       with_reducible rfl
      rotate_left
      ·exact pz
      refine one_ (i := 9) (N := some 41) #[T, T, T, T, T, T, T, T, T, T, F, F] rfl rfl (one_of HT_.out (by kernel_rfl)) (by decide) (fun K hK => ?_)
      refine goes_ Try.func119 (by kernel_rfl) rfl #[.int .i64 (wrap64 (a1_1 - a0_0)), .int .i64 a1_0] (by rfl) rfl rfl mz ?_
      with_reducible refine (spec_l1Mod.calls (wrap64 (a1_1 - a0_0)) a1_0 t146 _ A49.out).mono ?_
      rintro e w' ⟨rfl, ⟨nd, rfl⟩⟩
      refine ⟨_, rfl, ?_⟩
      refine hK.out _ _ ⟨bc BK126 0, bc BK126 1, bc BK127 0, bc BK127 1⟩ (fun hHeld => ?_)
      clear hK K
      refine norm_ (a' := ?_) ?_ ?_
      rotate_left
      ·show Act.put _ (some 41) _ = _
       simp only [Act.put, List.setIfInBounds_toArray, List.set_cons_zero, List.set_cons_succ, i64_w, i32_w]
       rfl
      refine pure_ (i := 10) (N := some 42) (v := ?_) (a' := ?_) #[T, T, T, T, T, T, T, T, T, T, T, F] rfl rfl (any_of HT_.out (by kernel_rfl)) (fun _ _ _ h => h) (Or.inl ⟨by rfl, ?_⟩) ?_ ?_
      rotate_left
      ·exact gz
      rotate_left
      ·exact pz
      refine pure_ (i := 11) (N := some 5) (v := ?_) (a' := ?_) #[T, T, T, T, T, T, T, T, T, T, T, T] rfl rfl (any_of HT_.out (by kernel_rfl)) (fun _ _ _ h => h) (Or.inl ⟨by rfl, ?_⟩) ?_ ?_
      rotate_left
      ·exact gz
      rotate_left
      ·exact pz
      refine done_ (done_of HT_.out (by kernel_rfl)) ?_
      try go_wp2
      (try (rw [drewN_self w56]; generalize hq_ : World.drewN w56 _ = w56; have n0_ : Aside0 (w56.heap[gb126]? = some (.cells #[.int .i64 a0_0, .int .i64 a0_1] 86 (0, 0))) := ⟨by rw [← hq_]; exact (Z BK126)⟩; have n1_ : Aside0 (w56.heap[gb127]? = some (.cells #[.int .i64 a1_0, .int .i64 a1_1] 90 (0, 0))) := ⟨by rw [← hq_]; exact (Z BK127)⟩; have n2_ : Aside0 (w56.heap[gb128]? = some (.cells #[.int .i64 0, .int .i64 0, .int .i64 0, .int .i64 0] 25 (0, 0))) := ⟨by rw [← hq_]; exact (Z BK128)⟩; have n3_ : Aside0 (Below w.heap.size w w56) := ⟨by rw [← hq_]; exact (Y3 HB GE126 GE127 GE128)⟩; clear BK126 BK127 BK128 HB hq_; have BK126 := n0_; have BK127 := n1_; have BK128 := n2_; have HB := n3_; clear n0_ n1_ n2_ n3_))
      have n0_ := am (blk_drew BK126.out)
      have n1_ := am (blk_drew BK127.out)
      have n2_ := am (blk_drew BK128.out)
      have n3_ := am (below_drew1 HB.out)
      clear BK126
      clear BK127
      clear BK128
      clear HB
      have BK126 := n0_
      have BK127 := n1_
      have BK128 := n2_
      have HB := n3_
      clear n0_ n1_ n2_ n3_
      refine start_ (n := 12) (S := fun w' => w'.cell? ⟨gb126, 0, none⟩ = some (.int .i64 a0_0) ∧ w'.cell? ⟨gb126, 1, none⟩ = some (.int .i64 a0_1) ∧ w'.cell? ⟨gb127, 0, none⟩ = some (.int .i64 a1_0) ∧ w'.cell? ⟨gb127, 1, none⟩ = some (.int .i64 a1_1)) (ds := []) #[F, F, F, F, F, F, F, F, F, F, F, F] (by kernel_rfl) rfl rfl ⟨bc BK126 0, bc BK126 1, bc BK127 0, bc BK127 1⟩ (fun hHeld => ?_); refine with_tabW spec_ValMake.tab8 spec_ValMake.bits8 (fun HT_ HW_ => ?_)
      generalize w56.drew = w57 at BK126 BK127 BK128 HB hHeld ⊢
      refine pure_ (i := 0) (N := some 43) (v := ?_) (a' := ?_) #[T, F, F, F, F, F, F, F, F, F, F, F] rfl rfl (any_of HT_.out (by kernel_rfl)) (fun _ _ _ h => h) (Or.inl ⟨by rfl, ?_⟩) ?_ ?_
      rotate_left
      ·exact gz
      rotate_left
      ·exact pz
      refine pure_ (i := 2) (N := some 45) (v := ?_) (a' := ?_) #[T, F, T, F, F, F, F, F, F, F, F, F] rfl rfl (any_of HT_.out (by kernel_rfl)) (fun _ _ _ h => h) (Or.inl ⟨by rfl, ?_⟩) ?_ ?_
      rotate_left
      ·exact gz
      rotate_left
      ·exact pz
      refine pure_ (i := 4) (N := some 47) (v := ?_) (a' := ?_) #[T, F, T, F, T, F, F, F, F, F, F, F] rfl rfl (any_of HT_.out (by kernel_rfl)) (fun _ _ _ h => h) (Or.inl ⟨by rfl, ?_⟩) ?_ ?_
      rotate_left
      ·exact gz
      rotate_left
      ·exact pz
      refine pure_ (i := 7) (N := some 50) (v := ?_) (a' := ?_) #[T, F, T, F, T, F, F, T, F, F, F, F] rfl rfl (any_of HT_.out (by kernel_rfl)) (fun _ _ _ h => h) (Or.inl ⟨by rfl, ?_⟩) ?_ ?_
      rotate_left
      ·exact gz
      rotate_left
      ·exact pz
      refine take_ (i := 1) (N := some 44) (v := ?_) (a' := ?_) #[T, T, T, F, T, F, F, T, F, F, F, F] rfl rfl (take_ofW HT_.out HW_.out (by kernel_rfl)) (fun _ _ _ h => h) (Or.inl ⟨by rfl, ?_⟩) hHeld ?_ ?_
      rotate_left
      ·rintro w' ⟨s0, s1, s2, s3⟩
       go_simp
       with_reducible rfl
      rotate_left
      ·exact pz
      refine take_ (i := 3) (N := some 46) (v := ?_) (a' := ?_) #[T, T, T, T, T, F, F, T, F, F, F, F] rfl rfl (take_ofW HT_.out HW_.out (by kernel_rfl)) (fun _ _ _ h => h) (Or.inl ⟨by rfl, ?_⟩) hHeld ?_ ?_
      rotate_left
      ·rintro w' ⟨s0, s1, s2, s3⟩
       go_simp
       with_reducible rfl
      rotate_left
      ·exact pz
      refine take_ (i := 5) (N := some 48) (v := ?_) (a' := ?_) #[T, T, T, T, T, T, F, T, F, F, F, F] rfl rfl (take_ofW HT_.out HW_.out (by kernel_rfl)) (fun _ _ _ h => h) (Or.inl ⟨by rfl, ?_⟩) hHeld ?_ ?_
      rotate_left
      ·rintro w' ⟨s0, s1, s2, s3⟩
       go_simp
       with_reducible rfl
      rotate_left
      ·exact pz
      refine pure_ (i := 6) (N := some 49) (v := ?_) (a' := ?_) #[T, T, T, T, T, T, T, T, F, F, F, F] rfl rfl (any_of HT_.out (by kernel_rfl)) (fun _ _ _ h => h) (Or.inl ⟨by rfl, ?_⟩) ?_ ?_
      rotate_left
      ·exact gz
      rotate_left
      ·exact pz
      refine take_ (i := 8) (N := some 51) (v := ?_) (a' := ?_) #[T, T, T, T, T, T, T, T, T, F, F, F] rfl rfl (take_ofW HT_.out HW_.out (by kernel_rfl)) (fun _ _ _ h => h) (Or.inl ⟨by rfl, ?_⟩) hHeld ?_ ?_
      rotate_left
      ·rintro w' ⟨s0, s1, s2, s3⟩
       go_simp
       with_reducible rfl
      rotate_left
      ·exact pz
      refine one_ (i := 9) (N := some 52) #[T, T, T, T, T, T, T, T, T, T, F, F] rfl rfl (one_of HT_.out (by kernel_rfl)) (by decide) (fun K hK => ?_)
      refine goes_ Try.func119 (by kernel_rfl) rfl #[.int .i64 (wrap64 (a0_1 - a1_1)), .int .i64 a1_0] (by rfl) rfl rfl mz ?_
      with_reducible refine (spec_l1Mod.calls (wrap64 (a0_1 - a1_1)) a1_0 t147 _ A50.out).mono ?_
      rintro e w' ⟨rfl, ⟨nd, rfl⟩⟩
      refine ⟨_, rfl, ?_⟩
      refine hK.out _ _ ⟨bc BK126 0, bc BK126 1, bc BK127 0, bc BK127 1⟩ (fun hHeld => ?_)
      clear hK K
      refine norm_ (a' := ?_) ?_ ?_
      rotate_left
      ·show Act.put _ (some 52) _ = _
       simp only [Act.put, List.setIfInBounds_toArray, List.set_cons_zero, List.set_cons_succ, i64_w, i32_w]
       rfl
      refine pure_ (i := 10) (N := some 53) (v := ?_) (a' := ?_) #[T, T, T, T, T, T, T, T, T, T, T, F] rfl rfl (any_of HT_.out (by kernel_rfl)) (fun _ _ _ h => h) (Or.inl ⟨by rfl, ?_⟩) ?_ ?_
      rotate_left
      ·exact gz
      rotate_left
      ·exact pz
      refine pure_ (i := 11) (N := some 6) (v := ?_) (a' := ?_) #[T, T, T, T, T, T, T, T, T, T, T, T] rfl rfl (any_of HT_.out (by kernel_rfl)) (fun _ _ _ h => h) (Or.inl ⟨by rfl, ?_⟩) ?_ ?_
      rotate_left
      ·exact gz
      rotate_left
      ·exact pz
      refine done_ (done_of HT_.out (by kernel_rfl)) ?_
      try go_wp2_with (first | ((with_reducible refine gate_callee (f := 58) rfl ?_); refine goesL_ (some 57) rfl rfl Try.func58 (by kernel_rfl) rfl #[] rfl mz ?_; (with_reducible refine (spec_l10None.calls  t148 t149 t150 t151 _ A52.out).mono ?_); rintro e w58 ⟨rfl, hb⟩; refine ⟨_, rfl, ?_⟩; have n0_ := am (blk_below (g := gb126) (o := b2 a0_0 a0_1 86) (Z BK126) hb); have n1_ := am (blk_below (g := gb127) (o := b2 a1_0 a1_1 90) (Z BK127) hb); have n2_ := am (blk_below (g := gb128) (o := b4 0 0 0 0 25) (Z BK128) hb); have n3_ := am (below_step (Y3 HB GE126 GE127 GE128) hb); clear BK126; clear BK127; clear BK128; clear HB; have BK126 := n0_; have BK127 := n1_; have BK128 := n2_; have HB := n3_; clear n0_ n1_ n2_ n3_; (try clear hb); (try clear hb2); (try clear hk); (try clear hi); have hnb59 := NB128_126.out; have hnc59 := NB126_128.out; have hcz60_0 : w58.cell? ⟨gb128, 0, none⟩ = some (.int .i64 0) := bc BK128 0; have hcz60_1 : w58.cell? ⟨gb128, 1, none⟩ = some (.int .i64 0) := bc BK128 1; have hcz60_2 : w58.cell? ⟨gb128, 2, none⟩ = some (.int .i64 0) := bc BK128 2; have hcz60_3 : w58.cell? ⟨gb128, 3, none⟩ = some (.int .i64 0) := bc BK128 3; have hfz60_0 := blk_frozen BK128.out 0; have hfz60_1 := blk_frozen BK128.out 1; have hfz60_2 := blk_frozen BK128.out 2; have hfz60_3 := blk_frozen BK128.out 3))
      refine bodyPost_ret (results_cell_row rfl _ _ gb128 25 #[.int .i64 t148, .int .i64 t149, .int .i64 t150, .int .i64 t151] (0, 0) _ rfl (by (with_reducible repeat (first | refine blk_drewN ?_ _ | refine blk_drew ?_ | refine blk_alloc ?_ _)); refine blk_put (cs := #[.int .i64 t148, .int .i64 t149, .int .i64 t150, .int .i64 0]) ?_ 3 _ rfl; (with_reducible repeat (first | refine blk_drewN ?_ _ | refine blk_drew ?_ | refine blk_alloc ?_ _)); refine blk_put (cs := #[.int .i64 t148, .int .i64 t149, .int .i64 0, .int .i64 0]) ?_ 2 _ rfl; (with_reducible repeat (first | refine blk_drewN ?_ _ | refine blk_drew ?_ | refine blk_alloc ?_ _)); refine blk_put (cs := #[.int .i64 t148, .int .i64 0, .int .i64 0, .int .i64 0]) ?_ 1 _ rfl; (with_reducible repeat (first | refine blk_drewN ?_ _ | refine blk_drew ?_ | refine blk_alloc ?_ _)); refine blk_put (cs := #[.int .i64 0, .int .i64 0, .int .i64 0, .int .i64 0]) ?_ 0 _ rfl; (with_reducible repeat (first | refine blk_drewN ?_ _ | refine blk_drew ?_ | refine blk_alloc ?_ _)); exact BK128.out) Try.underlying25 rfl (by kernel_rfl)) rfl ?_
      exact ⟨by first | rfl | (simp [errW_none, errW_some] <;> rfl) | (simp [*, errW_none, errW_some] <;> rfl), Y3 HB GE126 GE127 GE128⟩
     ·rw [if_neg c51] at H
      have c51b0 : decide ((wrap64 (a0_1 - t147)) < (wrap64 (a0_0 + t146))) = false := decide_eq_false c51
      clear c51
      by_cases c61 : (wrap64 (a0_0 + t146)) = (wrap64 (a0_1 - t147))
      ·rw [if_pos c61] at H
       have c61b0 : ((wrap64 (a0_0 + t146)) == (wrap64 (a0_1 - t147))) = true := beq_iff_eq.mpr c61
       have c61b1 : ((wrap64 (a0_0 + t146)) != (wrap64 (a0_1 - t147))) = false := bne_eq_false_iff_eq.mpr c61
       clear c61
       replace H := Option.bind_eq_some_iff.mp H
       obtain ⟨⟨t152, t153, t154, t155⟩, A620, H⟩ := H
       replace H : (some (t152, t153, t154, t155)) = some (r1, r2, r3, r4) := H
       have A62 := am A620
       clear A620
       simp only [Option.some.injEq, Prod.mk.injEq] at H
       obtain ⟨rfl, rfl, rfl, rfl⟩ := H
       have hnb63 := NB127_126.out
       have hnc63 := NB126_127.out
       have hnb64 := NB127_128.out
       have hnc64 := NB128_127.out
       have hcz65_0 : wc.cell? ⟨gb127, 0, none⟩ = some (.int .i64 a1_0) := bc BK127 0
       have hcz65_1 : wc.cell? ⟨gb127, 1, none⟩ = some (.int .i64 a1_1) := bc BK127 1
       have hfz65_0 := blk_frozen BK127.out 0
       have hfz65_1 := blk_frozen BK127.out 1
       try go_wp2
       have n0_ := am (blk_drew BK126.out)
       have n1_ := am (blk_drew BK127.out)
       have n2_ := am (blk_drew BK128.out)
       have n3_ := am (below_drew1 HB.out)
       clear BK126
       clear BK127
       clear BK128
       clear HB
       have BK126 := n0_
       have BK127 := n1_
       have BK128 := n2_
       have HB := n3_
       clear n0_ n1_ n2_ n3_
       refine start_ (n := 12) (S := fun w' => w'.cell? ⟨gb126, 0, none⟩ = some (.int .i64 a0_0) ∧ w'.cell? ⟨gb126, 1, none⟩ = some (.int .i64 a0_1) ∧ w'.cell? ⟨gb127, 0, none⟩ = some (.int .i64 a1_0) ∧ w'.cell? ⟨gb127, 1, none⟩ = some (.int .i64 a1_1)) (ds := []) #[F, F, F, F, F, F, F, F, F, F, F, F] (by kernel_rfl) rfl rfl ⟨bc BK126 0, bc BK126 1, bc BK127 0, bc BK127 1⟩ (fun hHeld => ?_); refine with_tabW spec_ValMake.tab7 spec_ValMake.bits7 (fun HT_ HW_ => ?_)
       generalize wc.drew = w66 at BK126 BK127 BK128 HB hHeld ⊢
       refine pure_ (i := 0) (N := some 32) (v := ?_) (a' := ?_) #[T, F, F, F, F, F, F, F, F, F, F, F] rfl rfl (any_of HT_.out (by kernel_rfl)) (fun _ _ _ h => h) (Or.inl ⟨by rfl, ?_⟩) ?_ ?_
       rotate_left
       ·exact gz
       rotate_left
       ·exact pz
       refine pure_ (i := 2) (N := some 34) (v := ?_) (a' := ?_) #[T, F, T, F, F, F, F, F, F, F, F, F] rfl rfl (any_of HT_.out (by kernel_rfl)) (fun _ _ _ h => h) (Or.inl ⟨by rfl, ?_⟩) ?_ ?_
       rotate_left
       ·exact gz
       rotate_left
       ·exact pz
       refine pure_ (i := 4) (N := some 36) (v := ?_) (a' := ?_) #[T, F, T, F, T, F, F, F, F, F, F, F] rfl rfl (any_of HT_.out (by kernel_rfl)) (fun _ _ _ h => h) (Or.inl ⟨by rfl, ?_⟩) ?_ ?_
       rotate_left
       ·exact gz
       rotate_left
       ·exact pz
       refine pure_ (i := 7) (N := some 39) (v := ?_) (a' := ?_) #[T, F, T, F, T, F, F, T, F, F, F, F] rfl rfl (any_of HT_.out (by kernel_rfl)) (fun _ _ _ h => h) (Or.inl ⟨by rfl, ?_⟩) ?_ ?_
       rotate_left
       ·exact gz
       rotate_left
       ·exact pz
       refine take_ (i := 1) (N := some 33) (v := ?_) (a' := ?_) #[T, T, T, F, T, F, F, T, F, F, F, F] rfl rfl (take_ofW HT_.out HW_.out (by kernel_rfl)) (fun _ _ _ h => h) (Or.inl ⟨by rfl, ?_⟩) hHeld ?_ ?_
       rotate_left
       ·rintro w' ⟨s0, s1, s2, s3⟩
        go_simp
        with_reducible rfl
       rotate_left
       ·exact pz
       refine take_ (i := 3) (N := some 35) (v := ?_) (a' := ?_) #[T, T, T, T, T, F, F, T, F, F, F, F] rfl rfl (take_ofW HT_.out HW_.out (by kernel_rfl)) (fun _ _ _ h => h) (Or.inl ⟨by rfl, ?_⟩) hHeld ?_ ?_
       rotate_left
       ·rintro w' ⟨s0, s1, s2, s3⟩
        go_simp
        with_reducible rfl
       rotate_left
       ·exact pz
       refine take_ (i := 5) (N := some 37) (v := ?_) (a' := ?_) #[T, T, T, T, T, T, F, T, F, F, F, F] rfl rfl (take_ofW HT_.out HW_.out (by kernel_rfl)) (fun _ _ _ h => h) (Or.inl ⟨by rfl, ?_⟩) hHeld ?_ ?_
       rotate_left
       ·rintro w' ⟨s0, s1, s2, s3⟩
        go_simp
        with_reducible rfl
       rotate_left
       ·exact pz
       refine pure_ (i := 6) (N := some 38) (v := ?_) (a' := ?_) #[T, T, T, T, T, T, T, T, F, F, F, F] rfl rfl (any_of HT_.out (by kernel_rfl)) (fun _ _ _ h => h) (Or.inl ⟨by rfl, ?_⟩) ?_ ?_
       rotate_left
       ·exact gz
       rotate_left
       ·exact pz
       refine take_ (i := 8) (N := some 40) (v := ?_) (a' := ?_) #[T, T, T, T, T, T, T, T, T, F, F, F] rfl rfl (take_ofW HT_.out HW_.out (by kernel_rfl)) (fun _ _ _ h => h) (Or.inl ⟨by rfl, ?_⟩) hHeld ?_ ?_
       rotate_left
       ·rintro w' ⟨s0, s1, s2, s3⟩
        go_simp
        with_reducible rfl
       rotate_left
       ·exact pz
       refine one_ (i := 9) (N := some 41) #[T, T, T, T, T, T, T, T, T, T, F, F] rfl rfl (one_of HT_.out (by kernel_rfl)) (by decide) (fun K hK => ?_)
       refine goes_ Try.func119 (by kernel_rfl) rfl #[.int .i64 (wrap64 (a1_1 - a0_0)), .int .i64 a1_0] (by rfl) rfl rfl mz ?_
       with_reducible refine (spec_l1Mod.calls (wrap64 (a1_1 - a0_0)) a1_0 t146 _ A49.out).mono ?_
       rintro e w' ⟨rfl, ⟨nd, rfl⟩⟩
       refine ⟨_, rfl, ?_⟩
       refine hK.out _ _ ⟨bc BK126 0, bc BK126 1, bc BK127 0, bc BK127 1⟩ (fun hHeld => ?_)
       clear hK K
       refine norm_ (a' := ?_) ?_ ?_
       rotate_left
       ·show Act.put _ (some 41) _ = _
        simp only [Act.put, List.setIfInBounds_toArray, List.set_cons_zero, List.set_cons_succ, i64_w, i32_w]
        rfl
       refine pure_ (i := 10) (N := some 42) (v := ?_) (a' := ?_) #[T, T, T, T, T, T, T, T, T, T, T, F] rfl rfl (any_of HT_.out (by kernel_rfl)) (fun _ _ _ h => h) (Or.inl ⟨by rfl, ?_⟩) ?_ ?_
       rotate_left
       ·exact gz
       rotate_left
       ·exact pz
       refine pure_ (i := 11) (N := some 5) (v := ?_) (a' := ?_) #[T, T, T, T, T, T, T, T, T, T, T, T] rfl rfl (any_of HT_.out (by kernel_rfl)) (fun _ _ _ h => h) (Or.inl ⟨by rfl, ?_⟩) ?_ ?_
       rotate_left
       ·exact gz
       rotate_left
       ·exact pz
       refine done_ (done_of HT_.out (by kernel_rfl)) ?_
       try go_wp2
       (try (rw [drewN_self w66]; generalize hq_ : World.drewN w66 _ = w66; have n0_ : Aside0 (w66.heap[gb126]? = some (.cells #[.int .i64 a0_0, .int .i64 a0_1] 86 (0, 0))) := ⟨by rw [← hq_]; exact (Z BK126)⟩; have n1_ : Aside0 (w66.heap[gb127]? = some (.cells #[.int .i64 a1_0, .int .i64 a1_1] 90 (0, 0))) := ⟨by rw [← hq_]; exact (Z BK127)⟩; have n2_ : Aside0 (w66.heap[gb128]? = some (.cells #[.int .i64 0, .int .i64 0, .int .i64 0, .int .i64 0] 25 (0, 0))) := ⟨by rw [← hq_]; exact (Z BK128)⟩; have n3_ : Aside0 (Below w.heap.size w w66) := ⟨by rw [← hq_]; exact (Y3 HB GE126 GE127 GE128)⟩; clear BK126 BK127 BK128 HB hq_; have BK126 := n0_; have BK127 := n1_; have BK128 := n2_; have HB := n3_; clear n0_ n1_ n2_ n3_))
       have n0_ := am (blk_drew BK126.out)
       have n1_ := am (blk_drew BK127.out)
       have n2_ := am (blk_drew BK128.out)
       have n3_ := am (below_drew1 HB.out)
       clear BK126
       clear BK127
       clear BK128
       clear HB
       have BK126 := n0_
       have BK127 := n1_
       have BK128 := n2_
       have HB := n3_
       clear n0_ n1_ n2_ n3_
       refine start_ (n := 12) (S := fun w' => w'.cell? ⟨gb126, 0, none⟩ = some (.int .i64 a0_0) ∧ w'.cell? ⟨gb126, 1, none⟩ = some (.int .i64 a0_1) ∧ w'.cell? ⟨gb127, 0, none⟩ = some (.int .i64 a1_0) ∧ w'.cell? ⟨gb127, 1, none⟩ = some (.int .i64 a1_1)) (ds := []) #[F, F, F, F, F, F, F, F, F, F, F, F] (by kernel_rfl) rfl rfl ⟨bc BK126 0, bc BK126 1, bc BK127 0, bc BK127 1⟩ (fun hHeld => ?_); refine with_tabW spec_ValMake.tab8 spec_ValMake.bits8 (fun HT_ HW_ => ?_)
       generalize w66.drew = w67 at BK126 BK127 BK128 HB hHeld ⊢
       refine pure_ (i := 0) (N := some 43) (v := ?_) (a' := ?_) #[T, F, F, F, F, F, F, F, F, F, F, F] rfl rfl (any_of HT_.out (by kernel_rfl)) (fun _ _ _ h => h) (Or.inl ⟨by rfl, ?_⟩) ?_ ?_
       rotate_left
       ·exact gz
       rotate_left
       ·exact pz
       refine pure_ (i := 2) (N := some 45) (v := ?_) (a' := ?_) #[T, F, T, F, F, F, F, F, F, F, F, F] rfl rfl (any_of HT_.out (by kernel_rfl)) (fun _ _ _ h => h) (Or.inl ⟨by rfl, ?_⟩) ?_ ?_
       rotate_left
       ·exact gz
       rotate_left
       ·exact pz
       refine pure_ (i := 4) (N := some 47) (v := ?_) (a' := ?_) #[T, F, T, F, T, F, F, F, F, F, F, F] rfl rfl (any_of HT_.out (by kernel_rfl)) (fun _ _ _ h => h) (Or.inl ⟨by rfl, ?_⟩) ?_ ?_
       rotate_left
       ·exact gz
       rotate_left
       ·exact pz
       refine pure_ (i := 7) (N := some 50) (v := ?_) (a' := ?_) #[T, F, T, F, T, F, F, T, F, F, F, F] rfl rfl (any_of HT_.out (by kernel_rfl)) (fun _ _ _ h => h) (Or.inl ⟨by rfl, ?_⟩) ?_ ?_
       rotate_left
       ·exact gz
       rotate_left
       ·exact pz
       refine take_ (i := 1) (N := some 44) (v := ?_) (a' := ?_) #[T, T, T, F, T, F, F, T, F, F, F, F] rfl rfl (take_ofW HT_.out HW_.out (by kernel_rfl)) (fun _ _ _ h => h) (Or.inl ⟨by rfl, ?_⟩) hHeld ?_ ?_
       rotate_left
       ·rintro w' ⟨s0, s1, s2, s3⟩
        go_simp
        with_reducible rfl
       rotate_left
       ·exact pz
       refine take_ (i := 3) (N := some 46) (v := ?_) (a' := ?_) #[T, T, T, T, T, F, F, T, F, F, F, F] rfl rfl (take_ofW HT_.out HW_.out (by kernel_rfl)) (fun _ _ _ h => h) (Or.inl ⟨by rfl, ?_⟩) hHeld ?_ ?_
       rotate_left
       ·rintro w' ⟨s0, s1, s2, s3⟩
        go_simp
        with_reducible rfl
       rotate_left
       ·exact pz
       refine take_ (i := 5) (N := some 48) (v := ?_) (a' := ?_) #[T, T, T, T, T, T, F, T, F, F, F, F] rfl rfl (take_ofW HT_.out HW_.out (by kernel_rfl)) (fun _ _ _ h => h) (Or.inl ⟨by rfl, ?_⟩) hHeld ?_ ?_
       rotate_left
       ·rintro w' ⟨s0, s1, s2, s3⟩
        go_simp
        with_reducible rfl
       rotate_left
       ·exact pz
       refine pure_ (i := 6) (N := some 49) (v := ?_) (a' := ?_) #[T, T, T, T, T, T, T, T, F, F, F, F] rfl rfl (any_of HT_.out (by kernel_rfl)) (fun _ _ _ h => h) (Or.inl ⟨by rfl, ?_⟩) ?_ ?_
       rotate_left
       ·exact gz
       rotate_left
       ·exact pz
       refine take_ (i := 8) (N := some 51) (v := ?_) (a' := ?_) #[T, T, T, T, T, T, T, T, T, F, F, F] rfl rfl (take_ofW HT_.out HW_.out (by kernel_rfl)) (fun _ _ _ h => h) (Or.inl ⟨by rfl, ?_⟩) hHeld ?_ ?_
       rotate_left
       ·rintro w' ⟨s0, s1, s2, s3⟩
        go_simp
        with_reducible rfl
       rotate_left
       ·exact pz
       refine one_ (i := 9) (N := some 52) #[T, T, T, T, T, T, T, T, T, T, F, F] rfl rfl (one_of HT_.out (by kernel_rfl)) (by decide) (fun K hK => ?_)
       refine goes_ Try.func119 (by kernel_rfl) rfl #[.int .i64 (wrap64 (a0_1 - a1_1)), .int .i64 a1_0] (by rfl) rfl rfl mz ?_
       with_reducible refine (spec_l1Mod.calls (wrap64 (a0_1 - a1_1)) a1_0 t147 _ A50.out).mono ?_
       rintro e w' ⟨rfl, ⟨nd, rfl⟩⟩
       refine ⟨_, rfl, ?_⟩
       refine hK.out _ _ ⟨bc BK126 0, bc BK126 1, bc BK127 0, bc BK127 1⟩ (fun hHeld => ?_)
       clear hK K
       refine norm_ (a' := ?_) ?_ ?_
       rotate_left
       ·show Act.put _ (some 52) _ = _
        simp only [Act.put, List.setIfInBounds_toArray, List.set_cons_zero, List.set_cons_succ, i64_w, i32_w]
        rfl
       refine pure_ (i := 10) (N := some 53) (v := ?_) (a' := ?_) #[T, T, T, T, T, T, T, T, T, T, T, F] rfl rfl (any_of HT_.out (by kernel_rfl)) (fun _ _ _ h => h) (Or.inl ⟨by rfl, ?_⟩) ?_ ?_
       rotate_left
       ·exact gz
       rotate_left
       ·exact pz
       refine pure_ (i := 11) (N := some 6) (v := ?_) (a' := ?_) #[T, T, T, T, T, T, T, T, T, T, T, T] rfl rfl (any_of HT_.out (by kernel_rfl)) (fun _ _ _ h => h) (Or.inl ⟨by rfl, ?_⟩) ?_ ?_
       rotate_left
       ·exact gz
       rotate_left
       ·exact pz
       refine done_ (done_of HT_.out (by kernel_rfl)) ?_
       try go_wp2_with (first | ((with_reducible refine gate_callee (f := 125) rfl ?_); refine goesL_ (some 62) rfl rfl Try.func125 (by kernel_rfl) rfl #[.int .i64 (wrap64 (a0_0 + t146))] rfl mz ?_; (with_reducible refine (spec_l10One.calls (wrap64 (a0_0 + t146)) t152 t153 t154 t155 _ A62.out).mono ?_); rintro e w68 ⟨rfl, hb⟩; refine ⟨_, rfl, ?_⟩; have n0_ := am (blk_below (g := gb126) (o := b2 a0_0 a0_1 86) (Z BK126) hb); have n1_ := am (blk_below (g := gb127) (o := b2 a1_0 a1_1 90) (Z BK127) hb); have n2_ := am (blk_below (g := gb128) (o := b4 0 0 0 0 25) (Z BK128) hb); have n3_ := am (below_step (Y3 HB GE126 GE127 GE128) hb); clear BK126; clear BK127; clear BK128; clear HB; have BK126 := n0_; have BK127 := n1_; have BK128 := n2_; have HB := n3_; clear n0_ n1_ n2_ n3_; (try clear hb); (try clear hb2); (try clear hk); (try clear hi); have hnb69 := NB128_126.out; have hnc69 := NB126_128.out; have hcz70_0 : w68.cell? ⟨gb128, 0, none⟩ = some (.int .i64 0) := bc BK128 0; have hcz70_1 : w68.cell? ⟨gb128, 1, none⟩ = some (.int .i64 0) := bc BK128 1; have hcz70_2 : w68.cell? ⟨gb128, 2, none⟩ = some (.int .i64 0) := bc BK128 2; have hcz70_3 : w68.cell? ⟨gb128, 3, none⟩ = some (.int .i64 0) := bc BK128 3; have hfz70_0 := blk_frozen BK128.out 0; have hfz70_1 := blk_frozen BK128.out 1; have hfz70_2 := blk_frozen BK128.out 2; have hfz70_3 := blk_frozen BK128.out 3))
       refine bodyPost_ret (results_cell_row rfl _ _ gb128 25 #[.int .i64 t152, .int .i64 t153, .int .i64 t154, .int .i64 t155] (0, 0) _ rfl (by (with_reducible repeat (first | refine blk_drewN ?_ _ | refine blk_drew ?_ | refine blk_alloc ?_ _)); refine blk_put (cs := #[.int .i64 t152, .int .i64 t153, .int .i64 t154, .int .i64 0]) ?_ 3 _ rfl; (with_reducible repeat (first | refine blk_drewN ?_ _ | refine blk_drew ?_ | refine blk_alloc ?_ _)); refine blk_put (cs := #[.int .i64 t152, .int .i64 t153, .int .i64 0, .int .i64 0]) ?_ 2 _ rfl; (with_reducible repeat (first | refine blk_drewN ?_ _ | refine blk_drew ?_ | refine blk_alloc ?_ _)); refine blk_put (cs := #[.int .i64 t152, .int .i64 0, .int .i64 0, .int .i64 0]) ?_ 1 _ rfl; (with_reducible repeat (first | refine blk_drewN ?_ _ | refine blk_drew ?_ | refine blk_alloc ?_ _)); refine blk_put (cs := #[.int .i64 0, .int .i64 0, .int .i64 0, .int .i64 0]) ?_ 0 _ rfl; (with_reducible repeat (first | refine blk_drewN ?_ _ | refine blk_drew ?_ | refine blk_alloc ?_ _)); exact BK128.out) Try.underlying25 rfl (by kernel_rfl)) rfl ?_
       exact ⟨by first | rfl | (simp [errW_none, errW_some] <;> rfl) | (simp [*, errW_none, errW_some] <;> rfl), Y3 HB GE126 GE127 GE128⟩
      ·rw [if_neg c61] at H
       have c61b0 : ((wrap64 (a0_0 + t146)) == (wrap64 (a0_1 - t147))) = false := beq_eq_false_iff_ne.mpr c61
       have c61b1 : ((wrap64 (a0_0 + t146)) != (wrap64 (a0_1 - t147))) = true := bne_iff_ne.mpr c61
       simp only [Option.some.injEq, Prod.mk.injEq] at H
       obtain ⟨rfl, rfl, rfl, rfl⟩ := H
       have hnb71 := NB127_126.out
       have hnc71 := NB126_127.out
       have hnb72 := NB127_128.out
       have hnc72 := NB128_127.out
       have hcz73_0 : wc.cell? ⟨gb127, 0, none⟩ = some (.int .i64 a1_0) := bc BK127 0
       have hcz73_1 : wc.cell? ⟨gb127, 1, none⟩ = some (.int .i64 a1_1) := bc BK127 1
       have hfz73_0 := blk_frozen BK127.out 0
       have hfz73_1 := blk_frozen BK127.out 1
       try go_wp2
       have n0_ := am (blk_drew BK126.out)
       have n1_ := am (blk_drew BK127.out)
       have n2_ := am (blk_drew BK128.out)
       have n3_ := am (below_drew1 HB.out)
       clear BK126
       clear BK127
       clear BK128
       clear HB
       have BK126 := n0_
       have BK127 := n1_
       have BK128 := n2_
       have HB := n3_
       clear n0_ n1_ n2_ n3_
       refine start_ (n := 12) (S := fun w' => w'.cell? ⟨gb126, 0, none⟩ = some (.int .i64 a0_0) ∧ w'.cell? ⟨gb126, 1, none⟩ = some (.int .i64 a0_1) ∧ w'.cell? ⟨gb127, 0, none⟩ = some (.int .i64 a1_0) ∧ w'.cell? ⟨gb127, 1, none⟩ = some (.int .i64 a1_1)) (ds := []) #[F, F, F, F, F, F, F, F, F, F, F, F] (by kernel_rfl) rfl rfl ⟨bc BK126 0, bc BK126 1, bc BK127 0, bc BK127 1⟩ (fun hHeld => ?_); refine with_tabW spec_ValMake.tab7 spec_ValMake.bits7 (fun HT_ HW_ => ?_)
       generalize wc.drew = w74 at BK126 BK127 BK128 HB hHeld ⊢
       refine pure_ (i := 0) (N := some 32) (v := ?_) (a' := ?_) #[T, F, F, F, F, F, F, F, F, F, F, F] rfl rfl (any_of HT_.out (by kernel_rfl)) (fun _ _ _ h => h) (Or.inl ⟨by rfl, ?_⟩) ?_ ?_
       rotate_left
       ·exact gz
       rotate_left
       ·exact pz
       refine pure_ (i := 2) (N := some 34) (v := ?_) (a' := ?_) #[T, F, T, F, F, F, F, F, F, F, F, F] rfl rfl (any_of HT_.out (by kernel_rfl)) (fun _ _ _ h => h) (Or.inl ⟨by rfl, ?_⟩) ?_ ?_
       rotate_left
       ·exact gz
       rotate_left
       ·exact pz
       refine pure_ (i := 4) (N := some 36) (v := ?_) (a' := ?_) #[T, F, T, F, T, F, F, F, F, F, F, F] rfl rfl (any_of HT_.out (by kernel_rfl)) (fun _ _ _ h => h) (Or.inl ⟨by rfl, ?_⟩) ?_ ?_
       rotate_left
       ·exact gz
       rotate_left
       ·exact pz
       refine pure_ (i := 7) (N := some 39) (v := ?_) (a' := ?_) #[T, F, T, F, T, F, F, T, F, F, F, F] rfl rfl (any_of HT_.out (by kernel_rfl)) (fun _ _ _ h => h) (Or.inl ⟨by rfl, ?_⟩) ?_ ?_
       rotate_left
       ·exact gz
       rotate_left
       ·exact pz
       refine take_ (i := 1) (N := some 33) (v := ?_) (a' := ?_) #[T, T, T, F, T, F, F, T, F, F, F, F] rfl rfl (take_ofW HT_.out HW_.out (by kernel_rfl)) (fun _ _ _ h => h) (Or.inl ⟨by rfl, ?_⟩) hHeld ?_ ?_
       rotate_left
       ·rintro w' ⟨s0, s1, s2, s3⟩
        go_simp
        with_reducible rfl
       rotate_left
       ·exact pz
       refine take_ (i := 3) (N := some 35) (v := ?_) (a' := ?_) #[T, T, T, T, T, F, F, T, F, F, F, F] rfl rfl (take_ofW HT_.out HW_.out (by kernel_rfl)) (fun _ _ _ h => h) (Or.inl ⟨by rfl, ?_⟩) hHeld ?_ ?_
       rotate_left
       ·rintro w' ⟨s0, s1, s2, s3⟩
        go_simp
        with_reducible rfl
       rotate_left
       ·exact pz
       refine take_ (i := 5) (N := some 37) (v := ?_) (a' := ?_) #[T, T, T, T, T, T, F, T, F, F, F, F] rfl rfl (take_ofW HT_.out HW_.out (by kernel_rfl)) (fun _ _ _ h => h) (Or.inl ⟨by rfl, ?_⟩) hHeld ?_ ?_
       rotate_left
       ·rintro w' ⟨s0, s1, s2, s3⟩
        go_simp
        with_reducible rfl
       rotate_left
       ·exact pz
       refine pure_ (i := 6) (N := some 38) (v := ?_) (a' := ?_) #[T, T, T, T, T, T, T, T, F, F, F, F] rfl rfl (any_of HT_.out (by kernel_rfl)) (fun _ _ _ h => h) (Or.inl ⟨by rfl, ?_⟩) ?_ ?_
       rotate_left
       ·exact gz
       rotate_left
       ·exact pz
       refine take_ (i := 8) (N := some 40) (v := ?_) (a' := ?_) #[T, T, T, T, T, T, T, T, T, F, F, F] rfl rfl (take_ofW HT_.out HW_.out (by kernel_rfl)) (fun _ _ _ h => h) (Or.inl ⟨by rfl, ?_⟩) hHeld ?_ ?_
       rotate_left
       ·rintro w' ⟨s0, s1, s2, s3⟩
        go_simp
        with_reducible rfl
       rotate_left
       ·exact pz
       refine one_ (i := 9) (N := some 41) #[T, T, T, T, T, T, T, T, T, T, F, F] rfl rfl (one_of HT_.out (by kernel_rfl)) (by decide) (fun K hK => ?_)
       refine goes_ Try.func119 (by kernel_rfl) rfl #[.int .i64 (wrap64 (a1_1 - a0_0)), .int .i64 a1_0] (by rfl) rfl rfl mz ?_
       with_reducible refine (spec_l1Mod.calls (wrap64 (a1_1 - a0_0)) a1_0 t146 _ A49.out).mono ?_
       rintro e w' ⟨rfl, ⟨nd, rfl⟩⟩
       refine ⟨_, rfl, ?_⟩
       refine hK.out _ _ ⟨bc BK126 0, bc BK126 1, bc BK127 0, bc BK127 1⟩ (fun hHeld => ?_)
       clear hK K
       refine norm_ (a' := ?_) ?_ ?_
       rotate_left
       ·show Act.put _ (some 41) _ = _
        simp only [Act.put, List.setIfInBounds_toArray, List.set_cons_zero, List.set_cons_succ, i64_w, i32_w]
        rfl
       refine pure_ (i := 10) (N := some 42) (v := ?_) (a' := ?_) #[T, T, T, T, T, T, T, T, T, T, T, F] rfl rfl (any_of HT_.out (by kernel_rfl)) (fun _ _ _ h => h) (Or.inl ⟨by rfl, ?_⟩) ?_ ?_
       rotate_left
       ·exact gz
       rotate_left
       ·exact pz
       refine pure_ (i := 11) (N := some 5) (v := ?_) (a' := ?_) #[T, T, T, T, T, T, T, T, T, T, T, T] rfl rfl (any_of HT_.out (by kernel_rfl)) (fun _ _ _ h => h) (Or.inl ⟨by rfl, ?_⟩) ?_ ?_
       rotate_left
       ·exact gz
       rotate_left
       ·exact pz
       refine done_ (done_of HT_.out (by kernel_rfl)) ?_
       try go_wp2
       (try (rw [drewN_self w74]; generalize hq_ : World.drewN w74 _ = w74; have n0_ : Aside0 (w74.heap[gb126]? = some (.cells #[.int .i64 a0_0, .int .i64 a0_1] 86 (0, 0))) := ⟨by rw [← hq_]; exact (Z BK126)⟩; have n1_ : Aside0 (w74.heap[gb127]? = some (.cells #[.int .i64 a1_0, .int .i64 a1_1] 90 (0, 0))) := ⟨by rw [← hq_]; exact (Z BK127)⟩; have n2_ : Aside0 (w74.heap[gb128]? = some (.cells #[.int .i64 0, .int .i64 0, .int .i64 0, .int .i64 0] 25 (0, 0))) := ⟨by rw [← hq_]; exact (Z BK128)⟩; have n3_ : Aside0 (Below w.heap.size w w74) := ⟨by rw [← hq_]; exact (Y3 HB GE126 GE127 GE128)⟩; clear BK126 BK127 BK128 HB hq_; have BK126 := n0_; have BK127 := n1_; have BK128 := n2_; have HB := n3_; clear n0_ n1_ n2_ n3_))
       have n0_ := am (blk_drew BK126.out)
       have n1_ := am (blk_drew BK127.out)
       have n2_ := am (blk_drew BK128.out)
       have n3_ := am (below_drew1 HB.out)
       clear BK126
       clear BK127
       clear BK128
       clear HB
       have BK126 := n0_
       have BK127 := n1_
       have BK128 := n2_
       have HB := n3_
       clear n0_ n1_ n2_ n3_
       refine start_ (n := 12) (S := fun w' => w'.cell? ⟨gb126, 0, none⟩ = some (.int .i64 a0_0) ∧ w'.cell? ⟨gb126, 1, none⟩ = some (.int .i64 a0_1) ∧ w'.cell? ⟨gb127, 0, none⟩ = some (.int .i64 a1_0) ∧ w'.cell? ⟨gb127, 1, none⟩ = some (.int .i64 a1_1)) (ds := []) #[F, F, F, F, F, F, F, F, F, F, F, F] (by kernel_rfl) rfl rfl ⟨bc BK126 0, bc BK126 1, bc BK127 0, bc BK127 1⟩ (fun hHeld => ?_); refine with_tabW spec_ValMake.tab8 spec_ValMake.bits8 (fun HT_ HW_ => ?_)
       generalize w74.drew = w75 at BK126 BK127 BK128 HB hHeld ⊢
       refine pure_ (i := 0) (N := some 43) (v := ?_) (a' := ?_) #[T, F, F, F, F, F, F, F, F, F, F, F] rfl rfl (any_of HT_.out (by kernel_rfl)) (fun _ _ _ h => h) (Or.inl ⟨by rfl, ?_⟩) ?_ ?_
       rotate_left
       ·exact gz
       rotate_left
       ·exact pz
       refine pure_ (i := 2) (N := some 45) (v := ?_) (a' := ?_) #[T, F, T, F, F, F, F, F, F, F, F, F] rfl rfl (any_of HT_.out (by kernel_rfl)) (fun _ _ _ h => h) (Or.inl ⟨by rfl, ?_⟩) ?_ ?_
       rotate_left
       ·exact gz
       rotate_left
       ·exact pz
       refine pure_ (i := 4) (N := some 47) (v := ?_) (a' := ?_) #[T, F, T, F, T, F, F, F, F, F, F, F] rfl rfl (any_of HT_.out (by kernel_rfl)) (fun _ _ _ h => h) (Or.inl ⟨by rfl, ?_⟩) ?_ ?_
       rotate_left
       ·exact gz
       rotate_left
       ·exact pz
       refine pure_ (i := 7) (N := some 50) (v := ?_) (a' := ?_) #[T, F, T, F, T, F, F, T, F, F, F, F] rfl rfl (any_of HT_.out (by kernel_rfl)) (fun _ _ _ h => h) (Or.inl ⟨by rfl, ?_⟩) ?_ ?_
       rotate_left
       ·exact gz
       rotate_left
       ·exact pz
       refine take_ (i := 1) (N := some 44) (v := ?_) (a' := ?_) #[T, T, T, F, T, F, F, T, F, F, F, F] rfl rfl (take_ofW HT_.out HW_.out (by kernel_rfl)) (fun _ _ _ h => h) (Or.inl ⟨by rfl, ?_⟩) hHeld ?_ ?_
       rotate_left
       ·rintro w' ⟨s0, s1, s2, s3⟩
        go_simp
        with_reducible rfl
       rotate_left
       ·exact pz
       refine take_ (i := 3) (N := some 46) (v := ?_) (a' := ?_) #[T, T, T, T, T, F, F, T, F, F, F, F] rfl rfl (take_ofW HT_.out HW_.out (by kernel_rfl)) (fun _ _ _ h => h) (Or.inl ⟨by rfl, ?_⟩) hHeld ?_ ?_
       rotate_left
       ·rintro w' ⟨s0, s1, s2, s3⟩
        go_simp
        with_reducible rfl
       rotate_left
       ·exact pz
       refine take_ (i := 5) (N := some 48) (v := ?_) (a' := ?_) #[T, T, T, T, T, T, F, T, F, F, F, F] rfl rfl (take_ofW HT_.out HW_.out (by kernel_rfl)) (fun _ _ _ h => h) (Or.inl ⟨by rfl, ?_⟩) hHeld ?_ ?_
       rotate_left
       ·rintro w' ⟨s0, s1, s2, s3⟩
        go_simp
        with_reducible rfl
       rotate_left
       ·exact pz
       refine pure_ (i := 6) (N := some 49) (v := ?_) (a' := ?_) #[T, T, T, T, T, T, T, T, F, F, F, F] rfl rfl (any_of HT_.out (by kernel_rfl)) (fun _ _ _ h => h) (Or.inl ⟨by rfl, ?_⟩) ?_ ?_
       rotate_left
       ·exact gz
       rotate_left
       ·exact pz
       refine take_ (i := 8) (N := some 51) (v := ?_) (a' := ?_) #[T, T, T, T, T, T, T, T, T, F, F, F] rfl rfl (take_ofW HT_.out HW_.out (by kernel_rfl)) (fun _ _ _ h => h) (Or.inl ⟨by rfl, ?_⟩) hHeld ?_ ?_
       rotate_left
       ·rintro w' ⟨s0, s1, s2, s3⟩
        go_simp
        with_reducible rfl
       rotate_left
       ·exact pz
       refine one_ (i := 9) (N := some 52) #[T, T, T, T, T, T, T, T, T, T, F, F] rfl rfl (one_of HT_.out (by kernel_rfl)) (by decide) (fun K hK => ?_)
       refine goes_ Try.func119 (by kernel_rfl) rfl #[.int .i64 (wrap64 (a0_1 - a1_1)), .int .i64 a1_0] (by rfl) rfl rfl mz ?_
       with_reducible refine (spec_l1Mod.calls (wrap64 (a0_1 - a1_1)) a1_0 t147 _ A50.out).mono ?_
       rintro e w' ⟨rfl, ⟨nd, rfl⟩⟩
       refine ⟨_, rfl, ?_⟩
       refine hK.out _ _ ⟨bc BK126 0, bc BK126 1, bc BK127 0, bc BK127 1⟩ (fun hHeld => ?_)
       clear hK K
       refine norm_ (a' := ?_) ?_ ?_
       rotate_left
       ·show Act.put _ (some 52) _ = _
        simp only [Act.put, List.setIfInBounds_toArray, List.set_cons_zero, List.set_cons_succ, i64_w, i32_w]
        rfl
       refine pure_ (i := 10) (N := some 53) (v := ?_) (a' := ?_) #[T, T, T, T, T, T, T, T, T, T, T, F] rfl rfl (any_of HT_.out (by kernel_rfl)) (fun _ _ _ h => h) (Or.inl ⟨by rfl, ?_⟩) ?_ ?_
       rotate_left
       ·exact gz
       rotate_left
       ·exact pz
       refine pure_ (i := 11) (N := some 6) (v := ?_) (a' := ?_) #[T, T, T, T, T, T, T, T, T, T, T, T] rfl rfl (any_of HT_.out (by kernel_rfl)) (fun _ _ _ h => h) (Or.inl ⟨by rfl, ?_⟩) ?_ ?_
       rotate_left
       ·exact gz
       rotate_left
       ·exact pz
       refine done_ (done_of HT_.out (by kernel_rfl)) ?_
       have hcz76_0 : w75.cell? ⟨gb127, 0, none⟩ = some (.int .i64 a1_0) := bc BK127 0
       have hcz76_1 : w75.cell? ⟨gb127, 1, none⟩ = some (.int .i64 a1_1) := bc BK127 1
       have hfz76_0 := blk_frozen BK127.out 0
       have hfz76_1 := blk_frozen BK127.out 1
       have hnb77 := NB128_126.out
       have hnc77 := NB126_128.out
       have hcz78_0 : w75.cell? ⟨gb128, 0, none⟩ = some (.int .i64 0) := bc BK128 0
       have hcz78_1 : w75.cell? ⟨gb128, 1, none⟩ = some (.int .i64 0) := bc BK128 1
       have hcz78_2 : w75.cell? ⟨gb128, 2, none⟩ = some (.int .i64 0) := bc BK128 2
       have hcz78_3 : w75.cell? ⟨gb128, 3, none⟩ = some (.int .i64 0) := bc BK128 3
       have hfz78_0 := blk_frozen BK128.out 0
       have hfz78_1 := blk_frozen BK128.out 1
       have hfz78_2 := blk_frozen BK128.out 2
       have hfz78_3 := blk_frozen BK128.out 3
       try go_wp2
       refine bodyPost_ret (results_cell_row rfl _ _ gb128 25 #[.int .i64 (wrap64 (a0_0 + t146)), .int .i64 (wrap64 (a0_1 - t147)), .int .i64 a1_0, .int .i64 a1_1] (0, 0) _ rfl (by (with_reducible repeat (first | refine blk_drewN ?_ _ | refine blk_drew ?_ | refine blk_alloc ?_ _)); refine blk_put (cs := #[.int .i64 (wrap64 (a0_0 + t146)), .int .i64 (wrap64 (a0_1 - t147)), .int .i64 a1_0, .int .i64 0]) ?_ 3 _ rfl; (with_reducible repeat (first | refine blk_drewN ?_ _ | refine blk_drew ?_ | refine blk_alloc ?_ _)); refine blk_put (cs := #[.int .i64 (wrap64 (a0_0 + t146)), .int .i64 (wrap64 (a0_1 - t147)), .int .i64 0, .int .i64 0]) ?_ 2 _ rfl; (with_reducible repeat (first | refine blk_drewN ?_ _ | refine blk_drew ?_ | refine blk_alloc ?_ _)); refine blk_put (cs := #[.int .i64 (wrap64 (a0_0 + t146)), .int .i64 0, .int .i64 0, .int .i64 0]) ?_ 1 _ rfl; (with_reducible repeat (first | refine blk_drewN ?_ _ | refine blk_drew ?_ | refine blk_alloc ?_ _)); refine blk_put (cs := #[.int .i64 0, .int .i64 0, .int .i64 0, .int .i64 0]) ?_ 0 _ rfl; (with_reducible repeat (first | refine blk_drewN ?_ _ | refine blk_drew ?_ | refine blk_alloc ?_ _)); exact BK128.out) Try.underlying25 rfl (by kernel_rfl)) rfl ?_
       exact ⟨by first | rfl | (simp [errW_none, errW_some] <;> rfl) | (simp [*, errW_none, errW_some] <;> rfl), Y3 HB GE126 GE127 GE128⟩

end Go.Proofs.Ytnmccgjdnceheaa.PFnExactValWiden
