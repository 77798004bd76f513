/- Written by this session's own driver (wip/dprint.py): the functions that the law FnExactRangeDo reaches, as Lean functions, each with its contract. -/
import Derived.Test.YthbkakcchgnhpaaPFnExactRangeDox0
import Derived.Test.YthbkakcchgnhpaaPFnExactRangeDox1
import Derived.Test.YthbkakcchgnhpaaPFnExactRangeDox2
import Derived.Test.YthbkakcchgnhpaaPFnExactRangeDox3
import Derived.Test.YthbkakcchgnhpaaSv
namespace Go.Proofs.Ythbkakcchgnhpaa.PFnExactRangeDo
open Go.RowKit Go.Proofs.YthbkakcchgnhpaaV.PrintWords Go.Proofs.YthbkakcchgnhpaaV.PrintLast Go.Proofs.YthbkakcchgnhpaaV.PrintMore Go.Proofs.YthbkakcchgnhpaaSv
attribute [local go_sem] max2_int min2_int max_two min_two max_three min_three max_four min_four   -- for this text's walks alone
set_option linter.unusedVariables false
set_option linter.unusedSimpArgs false

attribute [local go_sem high] eqA24
/-! ### spec_RangeMeet: function 41 -/
attribute [local go_sem] Go.Proofs.YthbkakcchgnhpaaSet.isSome_setCell
def spec_RangeMeet.j0 : Nat → Bool → Int → Int → Int → Int → Option (Int × Int)
 | 0, _, _, _, _, _ => none
 | k + 1, x22, x130000, x130001, x131000, x131001 => if x22 = true then ((spec_l8None.f).bind fun bt138 => (some (bt138.1, bt138.2))) else ((spec_l8Max.f x130000 x131000).bind fun t140 => ((spec_l8Min.f x130001 x131001).bind fun t141 => ((spec_l8Cut.f t140 t141).bind fun bt142 => (some (bt142.1, bt142.2)))))
def spec_RangeMeet.f (k : Nat) (a0_0 : Int) (a0_1 : Int) (a1_0 : Int) (a1_1 : Int) : Option (Int × Int) := (spec_RangeOk.f a0_0 a0_1).bind fun t132 => (if t132 = true then ((spec_RangeOk.f a1_0 a1_1).bind fun t133 => (if t133 = true then ((spec_l8None.f).bind fun bt134 => (if (a0_0 == bt134.1 && (a0_1 == bt134.2)) = true then (spec_RangeMeet.j0 k true a0_0 a0_1 a1_0 a1_1) else ((spec_l8None.f).bind fun bt136 => (spec_RangeMeet.j0 k (a1_0 == bt136.1 && (a1_1 == bt136.2)) a0_0 a0_1 a1_0 a1_1)))) else (spec_RangeMeet.j0 k true a0_0 a0_1 a1_0 a1_1))) else (spec_RangeMeet.j0 k true a0_0 a0_1 a1_0 a1_1))
theorem spec_RangeMeet.mono_l : ∀ k, (∀ y0 y1 y2 y3 y4, LeO (spec_RangeMeet.j0 k y0 y1 y2 y3 y4) (spec_RangeMeet.j0 (k + 1) y0 y1 y2 y3 y4))
 | 0 => fun _ _ _ _ _ r h => by simp [spec_RangeMeet.j0] at h
 | k + 1 => by
  have ih0 := spec_RangeMeet.mono_l k
  ·intro y0 y1 y2 y3 y4
   unfold spec_RangeMeet.j0
   repeat' first
   | (with_reducible exact ih0 _ _ _ _ _)
   | (with_reducible exact LeO.refl _)
   | (with_reducible exact LeO.none _)
   | (with_reducible refine LeO.ite ?_ ?_)
   | (with_reducible refine LeO.bind ?_ (fun _ => ?_))
   | exact ih0 _ _ _ _ _
   | exact LeO.none _
   | refine LeO.ite ?_ ?_
   | refine LeO.bind ?_ (fun _ => ?_)
theorem spec_RangeMeet.mono : ∀ a0 a1 a2 a3 k, LeO (spec_RangeMeet.f k a0 a1 a2 a3) (spec_RangeMeet.f (k + 1) a0 a1 a2 a3) := by
 intro a0 a1 a2 a3 k
 have ih0 := spec_RangeMeet.mono_l k
 unfold spec_RangeMeet.f
 repeat' first
   | (with_reducible exact ih0 _ _ _ _ _)
   | (with_reducible exact LeO.refl _)
   | (with_reducible exact LeO.none _)
   | (with_reducible refine LeO.ite ?_ ?_)
   | (with_reducible refine LeO.bind ?_ (fun _ => ?_))
   | exact ih0 _ _ _ _ _
   | exact LeO.none _
   | refine LeO.ite ?_ ?_
   | refine LeO.bind ?_ (fun _ => ?_)
def spec_RangeMeet.T1 : Bool × List (List Nat × List Nat) := (true, [([], []), ([0], [0]), ([1], [1]), ([2, 1], [2]), ([3], [3]), ([4, 3, 3], [3, 4]), ([5, 3], [3, 5]), ([3, 6], [3, 6]), ([7, 5], [7]), ([8], [8]), ([8, 8], [8]), ([9, 10, 8], [8, 9, 10]), ([8, 11], [8, 11]), ([12, 10], [12]), ([13], [13]), ([13, 13], [13]), ([14, 15, 13], [13, 14, 15]), ([13, 16], [13, 16])])
def spec_RangeMeet.B1 : List Nat := [0, 1, 3, 7, 15, 31, 63, 127, 255, 511, 511, 2047, 4095, 8191, 16383, 16383, 65535, 131071]
theorem spec_RangeMeet.tab1 : rtab .any (opsOf Try.f41 1) = spec_RangeMeet.T1 := by kernel_rfl
theorem spec_RangeMeet.bits1 : waitsOk spec_RangeMeet.T1.2 spec_RangeMeet.B1 = true := by kernel_rfl
def spec_RangeMeet.T3 : Bool × List (List Nat × List Nat) := (true, [([], []), ([0], [0]), ([], []), ([2], [2]), ([1, 3], [1, 3]), ([], []), ([5], [5]), ([], []), ([7], [7]), ([6, 8, 4], [6, 8]), ([4, 9, 9], [4, 9]), ([10, 10, 0, 1, 2, 3, 4, 5, 6, 7, 8, 9, 10], [10])])
def spec_RangeMeet.B3 : List Nat := [0, 1, 0, 4, 15, 0, 32, 0, 128, 511, 1023, 2047]
theorem spec_RangeMeet.tab3 : rtab .any (opsOf Try.f41 3) = spec_RangeMeet.T3 := by kernel_rfl
theorem spec_RangeMeet.bits3 : waitsOk spec_RangeMeet.T3.2 spec_RangeMeet.B3 = true := by kernel_rfl
set_option maxHeartbeats 8000000 in
set_option maxRecDepth 100000 in
theorem spec_RangeMeet.calls (k : Nat) (a0_0 : Int) (a0_1 : Int) (a1_0 : Int) (a1_1 : Int) (r1 : Int) (r2 : Int) (w : World) (h : spec_RangeMeet.f k a0_0 a0_1 a1_0 a1_1 = some (r1, r2)) :
  Calls Try.prog 41 #[.agg #[.int .i64 a0_0, .int .i64 a0_1], .agg #[.int .i64 a1_0, .int .i64 a1_1]] w fun e w' => e = .returned (.agg #[.int .i64 r1, .int .i64 r2]) ∧ Below w.heap.size w w' := by
 have hu24 := Try.underlying24
 have HB := am (Below.refl w.heap.size w)
 have H : ((spec_RangeOk.f a0_0 a0_1).bind fun t132 => (if t132 = true then ((spec_RangeOk.f a1_0 a1_1).bind fun t133 => (if t133 = true then ((spec_l8None.f).bind fun bt134 => (if (a0_0 == bt134.1 && (a0_1 == bt134.2)) = true then (spec_RangeMeet.j0 k true a0_0 a0_1 a1_0 a1_1) else ((spec_l8None.f).bind fun bt136 => (spec_RangeMeet.j0 k (a1_0 == bt136.1 && (a1_1 == bt136.2)) a0_0 a0_1 a1_0 a1_1)))) else (spec_RangeMeet.j0 k true a0_0 a0_1 a1_0 a1_1))) else (spec_RangeMeet.j0 k true a0_0 a0_1 a1_0 a1_1))) = some (r1, r2) := h
 clear h
 have HC3 := am H
 clear H
 go_enter Try.func41, Try.ntmps41
 go_upto_region 1 with (first | ((with_reducible refine gate_dst (N := 2) rfl ?_); refine bx 2 #[.int .i64 a0_0, .int .i64 a0_1] 24 ?_; intro gb129 hg w4 hbox hb; have BK129 := am (hbox); have GW129 := am (bs hg (Y0 HB)); have GE129 := am (bs hg (Y0 HB)); replace HB := am (below_step (Y0 HB) hb); clear hb hbox hg) | ((with_reducible refine gate_dst (N := 3) rfl ?_); refine bx 3 #[.int .i64 a1_0, .int .i64 a1_1] 24 ?_; intro gb130 hg w5 hbox hb; have BK130 := am (hbox); have GW130 := am (bs hg (Y1 HB GE129)); have GE130 := am (bs hg (Y1 HB GE129)); obtain ⟨NB129_130,NB130_129⟩ := ne_ hg BK129; replace BK129 := bb BK129 hb; replace HB := am (below_step (Y1 HB GE129) hb); clear hb hbox hg) | ((with_reducible refine gate_dst (N := 4) rfl ?_); refine bx 4 #[.int .i64 0, .int .i64 0] 24 ?_; intro gb131 hg w6 hbox hb; have BK131 := am (hbox); have GW131 := am (bs hg (Y2 HB GE129 GE130)); have GE131 := am (bs hg (Y2 HB GE129 GE130)); obtain ⟨NB129_131,NB131_129⟩ := ne_ hg BK129; obtain ⟨NB130_131,NB131_130⟩ := ne_ hg BK130; replace BK129 := bb BK129 hb; replace BK130 := bb BK130 hb; replace HB := am (below_step (Y2 HB GE129 GE130) hb); clear hb hbox hg))
 (try simp only [Act.put, List.setIfInBounds_toArray, List.set_cons_zero, List.set_cons_succ])
 go_cut [22] (fun v22 wc => ∃ (kq : Nat) (x22_2 : Bool), v22 = .bool x22_2 ∧ Aside0 (spec_RangeMeet.j0 kq x22_2 a0_0 a0_1 a1_0 a1_1 = some (r1, r2)) ∧ Aside0 (kq ≤ k) ∧ Aside0 (wc.heap[gb129]? = some (.cells #[.int .i64 a0_0, .int .i64 a0_1] 24 (0, 0))) ∧ Aside0 (wc.heap[gb130]? = some (.cells #[.int .i64 a1_0, .int .i64 a1_1] 24 (0, 0))) ∧ Aside0 (wc.heap[gb131]? = some (.cells #[.int .i64 0, .int .i64 0] 24 (0, 0))) ∧ Aside0 (Below w.heap.size w wc))
 case first =>
  have H := HC3.out
  clear HC3
  replace H := Option.bind_eq_some_iff.mp H
  obtain ⟨t132, A70, H⟩ := H
  try dsimp only at H
  have A7 := am A70
  clear A70
  by_cases c8 : t132 = true
  rotate_left
  ·replace c8 := Bool.eq_false_iff.mpr c8
   subst c8
   rw [if_neg (show ¬ (false = true) by decide)] at H
   have H' := am H
   clear H
   try go_wp2
   replace BK129 := am (blk_drew BK129.out)
   replace BK130 := am (blk_drew BK130.out)
   replace BK131 := am (blk_drew BK131.out)
   replace HB := am (below_drew1 HB.out)
   refine start_ (n := 18) (S := fun w' => w'.cell? ⟨gb129, 0, none⟩ = some (.int .i64 a0_0) ∧ w'.cell? ⟨gb129, 1, none⟩ = some (.int .i64 a0_1)) (ds := []) (lb 18 0) (by kernel_rfl) rfl rfl ⟨bc BK129 0, bc BK129 1⟩ (fun hHeld => ?_); refine with_tabW spec_RangeMeet.tab1 spec_RangeMeet.bits1 (fun HT_ HW_ => ?_)
   generalize w6.drew = w26 at BK129 BK130 BK131 HB hHeld ⊢
   refine take_ (i := 0) (N := some 5) (v := ?_) (a' := ?_) (lb 18 1) rfl rfl (take_ofW HT_.out HW_.out (by kernel_rfl)) (fun _ _ _ h => h) (Or.inl ⟨by rfl, ?_⟩) hHeld ?_ ?_
   rotate_left
   ·rintro w' ⟨s0, s1⟩
    go_simp
    with_reducible rfl
   rotate_left
   ·exact pz
   refine one_ (i := 1) (N := some 6) (lb 18 3) rfl rfl (one_of HT_.out (by kernel_rfl)) (by decide) (fun K hK => ?_)
   refine goes_ Try.func24 (by kernel_rfl) rfl #[.agg #[.int .i64 a0_0, .int .i64 a0_1]] (by rfl) rfl rfl mz ?_
   with_reducible refine (spec_RangeOk.calls a0_0 a0_1 false _ A7.out).mono ?_
   rintro e w27 ⟨rfl, hb⟩
   refine ⟨_, rfl, ?_⟩
   replace BK129 := bb BK129 hb
   replace BK130 := bb BK130 hb
   replace BK131 := bb BK131 hb
   replace HB := am (below_step (Y3 HB GE129 GE130 GE131) hb)
   (try clear hb)
   (try clear hb2)
   (try clear hk)
   (try clear hi)
   refine hK.out _ _ ⟨bc BK129 0, bc BK129 1⟩ (fun hHeld => ?_)
   clear hK K
   refine norm_ (a' := ?_) ?_ ?_
   rotate_left
   ·show Act.put _ (some 6) _ = _
    simp only [Act.put, List.setIfInBounds_toArray, List.set_cons_zero, List.set_cons_succ, i64_w, i32_w]
    rfl
   refine pj 2 (some 7) (lb 18 7) ?_
   refine pj 3 (some 8) (lb 18 15) ?_
   refine pu 4 (some 9) (lb 18 31) ?_
   refine pu 5 (some 10) (lb 18 63) ?_
   refine pu 6 (some 11) (lb 18 127) ?_
   refine pj 7 (some 12) (lb 18 255) ?_
   refine pj 8 (some 13) (lb 18 511) ?_
   refine pu 9 (some 14) (lb 18 1023) ?_
   refine pu 10 (some 15) (lb 18 2047) ?_
   refine pu 11 (some 16) (lb 18 4095) ?_
   refine pj 12 (some 17) (lb 18 8191) ?_
   refine pj 13 (some 18) (lb 18 16383) ?_
   refine pu 14 (some 19) (lb 18 32767) ?_
   refine pu 15 (some 20) (lb 18 65535) ?_
   refine pu 16 (some 21) (lb 18 131071) ?_
   refine pj 17 (some 22) (lb 18 262143) ?_
   refine done_ (done_of HT_.out (by kernel_rfl)) ?_
   try go_wp2
   go_meet
   case rel => exact ⟨_, (true), ey, H', ⟨by first | omega | exact Nat.le_refl _⟩, ⟨Z BK129⟩, ⟨Z BK130⟩, ⟨Z BK131⟩, ⟨Y3 HB GE129 GE130 GE131⟩⟩
  subst c8
  rw [if_pos rfl] at H
  replace H := Option.bind_eq_some_iff.mp H
  obtain ⟨t133, A90, H⟩ := H
  try dsimp only at H
  have A9 := am A90
  clear A90
  by_cases c10 : t133 = true
  rotate_left
  ·replace c10 := Bool.eq_false_iff.mpr c10
   subst c10
   rw [if_neg (show ¬ (false = true) by decide)] at H
   have H' := am H
   clear H
   try go_wp2
   replace BK129 := am (blk_drew BK129.out)
   replace BK130 := am (blk_drew BK130.out)
   replace BK131 := am (blk_drew BK131.out)
   replace HB := am (below_drew1 HB.out)
   refine start_ (n := 18) (S := fun w' => w'.cell? ⟨gb129, 0, none⟩ = some (.int .i64 a0_0) ∧ w'.cell? ⟨gb129, 1, none⟩ = some (.int .i64 a0_1) ∧ w'.cell? ⟨gb130, 0, none⟩ = some (.int .i64 a1_0) ∧ w'.cell? ⟨gb130, 1, none⟩ = some (.int .i64 a1_1)) (ds := []) (lb 18 0) (by kernel_rfl) rfl rfl ⟨bc BK129 0, bc BK129 1, bc BK130 0, bc BK130 1⟩ (fun hHeld => ?_); refine with_tabW spec_RangeMeet.tab1 spec_RangeMeet.bits1 (fun HT_ HW_ => ?_)
   generalize w6.drew = w23 at BK129 BK130 BK131 HB hHeld ⊢
   refine take_ (i := 0) (N := some 5) (v := ?_) (a' := ?_) (lb 18 1) rfl rfl (take_ofW HT_.out HW_.out (by kernel_rfl)) (fun _ _ _ h => h) (Or.inl ⟨by rfl, ?_⟩) hHeld ?_ ?_
   rotate_left
   ·rintro w' ⟨s0, s1, s2, s3⟩
    go_simp
    with_reducible rfl
   rotate_left
   ·exact pz
   refine one_ (i := 1) (N := some 6) (lb 18 3) rfl rfl (one_of HT_.out (by kernel_rfl)) (by decide) (fun K hK => ?_)
   refine goes_ Try.func24 (by kernel_rfl) rfl #[.agg #[.int .i64 a0_0, .int .i64 a0_1]] (by rfl) rfl rfl mz ?_
   with_reducible refine (spec_RangeOk.calls a0_0 a0_1 true _ A7.out).mono ?_
   rintro e w24 ⟨rfl, hb⟩
   refine ⟨_, rfl, ?_⟩
   replace BK129 := bb BK129 hb
   replace BK130 := bb BK130 hb
   replace BK131 := bb BK131 hb
   replace HB := am (below_step (Y3 HB GE129 GE130 GE131) hb)
   (try clear hb)
   (try clear hb2)
   (try clear hk)
   (try clear hi)
   refine hK.out _ _ ⟨bc BK129 0, bc BK129 1, bc BK130 0, bc BK130 1⟩ (fun hHeld => ?_)
   clear hK K
   refine norm_ (a' := ?_) ?_ ?_
   rotate_left
   ·show Act.put _ (some 6) _ = _
    simp only [Act.put, List.setIfInBounds_toArray, List.set_cons_zero, List.set_cons_succ, i64_w, i32_w]
    rfl
   refine pj 2 (some 7) (lb 18 7) ?_
   refine pj 3 (some 8) (lb 18 15) ?_
   refine take_ (i := 4) (N := some 9) (v := ?_) (a' := ?_) (lb 18 31) rfl rfl (take_ofW HT_.out HW_.out (by kernel_rfl)) (fun _ _ _ h => h) (Or.inl ⟨by rfl, ?_⟩) hHeld ?_ ?_
   rotate_left
   ·rintro w' ⟨s0, s1, s2, s3⟩
    go_simp
    with_reducible rfl
   rotate_left
   ·exact pz
   refine one_ (i := 5) (N := some 10) (lb 18 63) rfl rfl (one_of HT_.out (by kernel_rfl)) (by decide) (fun K hK => ?_)
   refine goes_ Try.func24 (by kernel_rfl) rfl #[.agg #[.int .i64 a1_0, .int .i64 a1_1]] (by rfl) rfl rfl mz ?_
   with_reducible refine (spec_RangeOk.calls a1_0 a1_1 false _ A9.out).mono ?_
   rintro e w25 ⟨rfl, hb⟩
   refine ⟨_, rfl, ?_⟩
   replace BK129 := bb BK129 hb
   replace BK130 := bb BK130 hb
   replace BK131 := bb BK131 hb
   replace HB := am (below_step (Y3 HB GE129 GE130 GE131) hb)
   (try clear hb)
   (try clear hb2)
   (try clear hk)
   (try clear hi)
   refine hK.out _ _ ⟨bc BK129 0, bc BK129 1, bc BK130 0, bc BK130 1⟩ (fun hHeld => ?_)
   clear hK K
   refine norm_ (a' := ?_) ?_ ?_
   rotate_left
   ·show Act.put _ (some 10) _ = _
    simp only [Act.put, List.setIfInBounds_toArray, List.set_cons_zero, List.set_cons_succ, i64_w, i32_w]
    rfl
   refine pj 6 (some 11) (lb 18 127) ?_
   refine pj 7 (some 12) (lb 18 255) ?_
   refine pj 8 (some 13) (lb 18 511) ?_
   refine pu 9 (some 14) (lb 18 1023) ?_
   refine pu 10 (some 15) (lb 18 2047) ?_
   refine pu 11 (some 16) (lb 18 4095) ?_
   refine pj 12 (some 17) (lb 18 8191) ?_
   refine pj 13 (some 18) (lb 18 16383) ?_
   refine pu 14 (some 19) (lb 18 32767) ?_
   refine pu 15 (some 20) (lb 18 65535) ?_
   refine pu 16 (some 21) (lb 18 131071) ?_
   refine pj 17 (some 22) (lb 18 262143) ?_
   refine done_ (done_of HT_.out (by kernel_rfl)) ?_
   try go_wp2
   go_meet
   case rel => exact ⟨_, (true), ey, H', ⟨by first | omega | exact Nat.le_refl _⟩, ⟨Z BK129⟩, ⟨Z BK130⟩, ⟨Z BK131⟩, ⟨Y3 HB GE129 GE130 GE131⟩⟩
  subst c10
  rw [if_pos rfl] at H
  replace H := Option.bind_eq_some_iff.mp H
  obtain ⟨⟨t134, t135⟩, A110, H⟩ := H
  try dsimp only at H
  have A11 := am A110
  clear A110
  by_cases c12 : (a0_0 == t134 && (a0_1 == t135)) = true
  ·rw [if_pos c12] at H
   have c12b0 : (a0_0 == t134 && (a0_1 == t135)) = true := c12
   (try (have c12b1 : decide (a0_0 = t134 && (a0_1 == t135)) = true := by simpa using c12))
   (try (have c12b2 : (a0_0 == t134 && (a0_1 == t135)) = true := by simpa using c12))
   clear c12
   (first | rw [c12b0] | (simp only [i64_w, i32_w]; rw [c12b0]) | skip)
   have H' := am H
   clear H
   try go_wp2
   replace BK129 := am (blk_drew BK129.out)
   replace BK130 := am (blk_drew BK130.out)
   replace BK131 := am (blk_drew BK131.out)
   replace HB := am (below_drew1 HB.out)
   refine start_ (n := 18) (S := fun w' => w'.cell? ⟨gb129, 0, none⟩ = some (.int .i64 a0_0) ∧ w'.cell? ⟨gb129, 1, none⟩ = some (.int .i64 a0_1) ∧ w'.cell? ⟨gb130, 0, none⟩ = some (.int .i64 a1_0) ∧ w'.cell? ⟨gb130, 1, none⟩ = some (.int .i64 a1_1)) (ds := []) (lb 18 0) (by kernel_rfl) rfl rfl ⟨bc BK129 0, bc BK129 1, bc BK130 0, bc BK130 1⟩ (fun hHeld => ?_); refine with_tabW spec_RangeMeet.tab1 spec_RangeMeet.bits1 (fun HT_ HW_ => ?_)
   generalize w6.drew = w13 at BK129 BK130 BK131 HB hHeld ⊢
   refine take_ (i := 0) (N := some 5) (v := ?_) (a' := ?_) (lb 18 1) rfl rfl (take_ofW HT_.out HW_.out (by kernel_rfl)) (fun _ _ _ h => h) (Or.inl ⟨by rfl, ?_⟩) hHeld ?_ ?_
   rotate_left
   ·rintro w' ⟨s0, s1, s2, s3⟩
    go_simp
    with_reducible rfl
   rotate_left
   ·exact pz
   refine one_ (i := 1) (N := some 6) (lb 18 3) rfl rfl (one_of HT_.out (by kernel_rfl)) (by decide) (fun K hK => ?_)
   refine goes_ Try.func24 (by kernel_rfl) rfl #[.agg #[.int .i64 a0_0, .int .i64 a0_1]] (by rfl) rfl rfl mz ?_
   with_reducible refine (spec_RangeOk.calls a0_0 a0_1 true _ A7.out).mono ?_
   rintro e w14 ⟨rfl, hb⟩
   refine ⟨_, rfl, ?_⟩
   replace BK129 := bb BK129 hb
   replace BK130 := bb BK130 hb
   replace BK131 := bb BK131 hb
   replace HB := am (below_step (Y3 HB GE129 GE130 GE131) hb)
   (try clear hb)
   (try clear hb2)
   (try clear hk)
   (try clear hi)
   refine hK.out _ _ ⟨bc BK129 0, bc BK129 1, bc BK130 0, bc BK130 1⟩ (fun hHeld => ?_)
   clear hK K
   refine norm_ (a' := ?_) ?_ ?_
   rotate_left
   ·show Act.put _ (some 6) _ = _
    simp only [Act.put, List.setIfInBounds_toArray, List.set_cons_zero, List.set_cons_succ, i64_w, i32_w]
    rfl
   refine pj 2 (some 7) (lb 18 7) ?_
   refine pj 3 (some 8) (lb 18 15) ?_
   refine take_ (i := 4) (N := some 9) (v := ?_) (a' := ?_) (lb 18 31) rfl rfl (take_ofW HT_.out HW_.out (by kernel_rfl)) (fun _ _ _ h => h) (Or.inl ⟨by rfl, ?_⟩) hHeld ?_ ?_
   rotate_left
   ·rintro w' ⟨s0, s1, s2, s3⟩
    go_simp
    with_reducible rfl
   rotate_left
   ·exact pz
   refine one_ (i := 5) (N := some 10) (lb 18 63) rfl rfl (one_of HT_.out (by kernel_rfl)) (by decide) (fun K hK => ?_)
   refine goes_ Try.func24 (by kernel_rfl) rfl #[.agg #[.int .i64 a1_0, .int .i64 a1_1]] (by rfl) rfl rfl mz ?_
   with_reducible refine (spec_RangeOk.calls a1_0 a1_1 true _ A9.out).mono ?_
   rintro e w15 ⟨rfl, hb⟩
   refine ⟨_, rfl, ?_⟩
   replace BK129 := bb BK129 hb
   replace BK130 := bb BK130 hb
   replace BK131 := bb BK131 hb
   replace HB := am (below_step (Y3 HB GE129 GE130 GE131) hb)
   (try clear hb)
   (try clear hb2)
   (try clear hk)
   (try clear hi)
   refine hK.out _ _ ⟨bc BK129 0, bc BK129 1, bc BK130 0, bc BK130 1⟩ (fun hHeld => ?_)
   clear hK K
   refine norm_ (a' := ?_) ?_ ?_
   rotate_left
   ·show Act.put _ (some 10) _ = _
    simp only [Act.put, List.setIfInBounds_toArray, List.set_cons_zero, List.set_cons_succ, i64_w, i32_w]
    rfl
   refine pj 6 (some 11) (lb 18 127) ?_
   refine pj 7 (some 12) (lb 18 255) ?_
   refine pj 8 (some 13) (lb 18 511) ?_
   refine take_ (i := 9) (N := some 14) (v := ?_) (a' := ?_) (lb 18 1023) rfl rfl (take_ofW HT_.out HW_.out (by kernel_rfl)) (fun _ _ _ h => h) (Or.inl ⟨by rfl, ?_⟩) hHeld ?_ ?_
   rotate_left
   ·rintro w' ⟨s0, s1, s2, s3⟩
    go_simp
    with_reducible rfl
   rotate_left
   ·exact pz
   refine one_ (i := 10) (N := some 15) (lb 18 2047) rfl rfl (one_of HT_.out (by kernel_rfl)) (by decide) (fun K hK => ?_)
   refine goes_ Try.func38 (by kernel_rfl) rfl #[] (by rfl) rfl rfl mz ?_
   with_reducible refine (spec_l8None.calls  t134 t135 _ A11.out).mono ?_
   rintro e w16 ⟨rfl, hb⟩
   refine ⟨_, rfl, ?_⟩
   replace BK129 := bb BK129 hb
   replace BK130 := bb BK130 hb
   replace BK131 := bb BK131 hb
   replace HB := am (below_step (Y3 HB GE129 GE130 GE131) hb)
   (try clear hb)
   (try clear hb2)
   (try clear hk)
   (try clear hi)
   refine hK.out _ _ ⟨bc BK129 0, bc BK129 1, bc BK130 0, bc BK130 1⟩ (fun hHeld => ?_)
   clear hK K
   refine norm_ (a' := ?_) ?_ ?_
   rotate_left
   ·show Act.put _ (some 15) _ = _
    simp only [Act.put, List.setIfInBounds_toArray, List.set_cons_zero, List.set_cons_succ, i64_w, i32_w]
    rfl
   refine pj 11 (some 16) (lb 18 4095) ?_
   refine pj 12 (some 17) (lb 18 8191) ?_
   refine pj 13 (some 18) (lb 18 16383) ?_
   refine pu 14 (some 19) (lb 18 32767) ?_
   refine pu 15 (some 20) (lb 18 65535) ?_
   refine pu 16 (some 21) (lb 18 131071) ?_
   refine pj 17 (some 22) (lb 18 262143) ?_
   refine done_ (done_of HT_.out (by kernel_rfl)) ?_
   try go_wp2
   go_meet
   case rel => exact ⟨_, (true), ey, H', ⟨by first | omega | exact Nat.le_refl _⟩, ⟨Z BK129⟩, ⟨Z BK130⟩, ⟨Z BK131⟩, ⟨Y3 HB GE129 GE130 GE131⟩⟩
  rw [if_neg c12] at H
  have c12b0 : (a0_0 == t134 && (a0_1 == t135)) = false := by simpa using c12
  (try (have c12b1 : decide (a0_0 = t134 && (a0_1 == t135)) = false := by simpa using c12))
  (try (have c12b2 : (a0_0 == t134 && (a0_1 == t135)) = false := by simpa using c12))
  (try (have c12b3 : ¬ (a0_0 = t134 && (a0_1 == t135)) := by simpa using c12))
  clear c12
  (first | rw [c12b0] | (simp only [i64_w, i32_w]; rw [c12b0]) | skip)
  replace H := Option.bind_eq_some_iff.mp H
  obtain ⟨⟨t136, t137⟩, A170, H⟩ := H
  try dsimp only at H
  have A17 := am A170
  clear A170
  have H' := am H
  clear H
  try go_wp2
  replace BK129 := am (blk_drew BK129.out)
  replace BK130 := am (blk_drew BK130.out)
  replace BK131 := am (blk_drew BK131.out)
  replace HB := am (below_drew1 HB.out)
  refine start_ (n := 18) (S := fun w' => w'.cell? ⟨gb129, 0, none⟩ = some (.int .i64 a0_0) ∧ w'.cell? ⟨gb129, 1, none⟩ = some (.int .i64 a0_1) ∧ w'.cell? ⟨gb130, 0, none⟩ = some (.int .i64 a1_0) ∧ w'.cell? ⟨gb130, 1, none⟩ = some (.int .i64 a1_1)) (ds := []) (lb 18 0) (by kernel_rfl) rfl rfl ⟨bc BK129 0, bc BK129 1, bc BK130 0, bc BK130 1⟩ (fun hHeld => ?_); refine with_tabW spec_RangeMeet.tab1 spec_RangeMeet.bits1 (fun HT_ HW_ => ?_)
  generalize w6.drew = w18 at BK129 BK130 BK131 HB hHeld ⊢
  refine take_ (i := 0) (N := some 5) (v := ?_) (a' := ?_) (lb 18 1) rfl rfl (take_ofW HT_.out HW_.out (by kernel_rfl)) (fun _ _ _ h => h) (Or.inl ⟨by rfl, ?_⟩) hHeld ?_ ?_
  rotate_left
  ·rintro w' ⟨s0, s1, s2, s3⟩
   go_simp
   with_reducible rfl
  rotate_left
  ·exact pz
  refine one_ (i := 1) (N := some 6) (lb 18 3) rfl rfl (one_of HT_.out (by kernel_rfl)) (by decide) (fun K hK => ?_)
  refine goes_ Try.func24 (by kernel_rfl) rfl #[.agg #[.int .i64 a0_0, .int .i64 a0_1]] (by rfl) rfl rfl mz ?_
  with_reducible refine (spec_RangeOk.calls a0_0 a0_1 true _ A7.out).mono ?_
  rintro e w19 ⟨rfl, hb⟩
  refine ⟨_, rfl, ?_⟩
  replace BK129 := bb BK129 hb
  replace BK130 := bb BK130 hb
  replace BK131 := bb BK131 hb
  replace HB := am (below_step (Y3 HB GE129 GE130 GE131) hb)
  (try clear hb)
  (try clear hb2)
  (try clear hk)
  (try clear hi)
  refine hK.out _ _ ⟨bc BK129 0, bc BK129 1, bc BK130 0, bc BK130 1⟩ (fun hHeld => ?_)
  clear hK K
  refine norm_ (a' := ?_) ?_ ?_
  rotate_left
  ·show Act.put _ (some 6) _ = _
   simp only [Act.put, List.setIfInBounds_toArray, List.set_cons_zero, List.set_cons_succ, i64_w, i32_w]
   rfl
  refine pj 2 (some 7) (lb 18 7) ?_
  refine pj 3 (some 8) (lb 18 15) ?_
  refine take_ (i := 4) (N := some 9) (v := ?_) (a' := ?_) (lb 18 31) rfl rfl (take_ofW HT_.out HW_.out (by kernel_rfl)) (fun _ _ _ h => h) (Or.inl ⟨by rfl, ?_⟩) hHeld ?_ ?_
  rotate_left
  ·rintro w' ⟨s0, s1, s2, s3⟩
   go_simp
   with_reducible rfl
  rotate_left
  ·exact pz
  refine one_ (i := 5) (N := some 10) (lb 18 63) rfl rfl (one_of HT_.out (by kernel_rfl)) (by decide) (fun K hK => ?_)
  refine goes_ Try.func24 (by kernel_rfl) rfl #[.agg #[.int .i64 a1_0, .int .i64 a1_1]] (by rfl) rfl rfl mz ?_
  with_reducible refine (spec_RangeOk.calls a1_0 a1_1 true _ A9.out).mono ?_
  rintro e w20 ⟨rfl, hb⟩
  refine ⟨_, rfl, ?_⟩
  replace BK129 := bb BK129 hb
  replace BK130 := bb BK130 hb
  replace BK131 := bb BK131 hb
  replace HB := am (below_step (Y3 HB GE129 GE130 GE131) hb)
  (try clear hb)
  (try clear hb2)
  (try clear hk)
  (try clear hi)
  refine hK.out _ _ ⟨bc BK129 0, bc BK129 1, bc BK130 0, bc BK130 1⟩ (fun hHeld => ?_)
  clear hK K
  refine norm_ (a' := ?_) ?_ ?_
  rotate_left
  ·show Act.put _ (some 10) _ = _
   simp only [Act.put, List.setIfInBounds_toArray, List.set_cons_zero, List.set_cons_succ, i64_w, i32_w]
   rfl
  refine pj 6 (some 11) (lb 18 127) ?_
  refine pj 7 (some 12) (lb 18 255) ?_
  refine pj 8 (some 13) (lb 18 511) ?_
  refine take_ (i := 9) (N := some 14) (v := ?_) (a' := ?_) (lb 18 1023) rfl rfl (take_ofW HT_.out HW_.out (by kernel_rfl)) (fun _ _ _ h => h) (Or.inl ⟨by rfl, ?_⟩) hHeld ?_ ?_
  rotate_left
  ·rintro w' ⟨s0, s1, s2, s3⟩
   go_simp
   with_reducible rfl
  rotate_left
  ·exact pz
  refine one_ (i := 10) (N := some 15) (lb 18 2047) rfl rfl (one_of HT_.out (by kernel_rfl)) (by decide) (fun K hK => ?_)
  refine goes_ Try.func38 (by kernel_rfl) rfl #[] (by rfl) rfl rfl mz ?_
  with_reducible refine (spec_l8None.calls  t134 t135 _ A11.out).mono ?_
  rintro e w21 ⟨rfl, hb⟩
  refine ⟨_, rfl, ?_⟩
  replace BK129 := bb BK129 hb
  replace BK130 := bb BK130 hb
  replace BK131 := bb BK131 hb
  replace HB := am (below_step (Y3 HB GE129 GE130 GE131) hb)
  (try clear hb)
  (try clear hb2)
  (try clear hk)
  (try clear hi)
  refine hK.out _ _ ⟨bc BK129 0, bc BK129 1, bc BK130 0, bc BK130 1⟩ (fun hHeld => ?_)
  clear hK K
  refine norm_ (a' := ?_) ?_ ?_
  rotate_left
  ·show Act.put _ (some 15) _ = _
   simp only [Act.put, List.setIfInBounds_toArray, List.set_cons_zero, List.set_cons_succ, i64_w, i32_w]
   rfl
  refine pj 11 (some 16) (lb 18 4095) ?_
  refine pj 12 (some 17) (lb 18 8191) ?_
  refine pj 13 (some 18) (lb 18 16383) ?_
  refine take_ (i := 14) (N := some 19) (v := ?_) (a' := ?_) (lb 18 32767) rfl rfl (take_ofW HT_.out HW_.out (by kernel_rfl)) (fun _ _ _ h => h) (Or.inl ⟨by rfl, ?_⟩) hHeld ?_ ?_
  rotate_left
  ·rintro w' ⟨s0, s1, s2, s3⟩
   go_simp
   with_reducible rfl
  rotate_left
  ·exact pz
  refine one_ (i := 15) (N := some 20) (lb 18 65535) rfl rfl (one_of HT_.out (by kernel_rfl)) (by decide) (fun K hK => ?_)
  refine goes_ Try.func38 (by kernel_rfl) rfl #[] (by rfl) rfl rfl mz ?_
  with_reducible refine (spec_l8None.calls  t136 t137 _ A17.out).mono ?_
  rintro e w22 ⟨rfl, hb⟩
  refine ⟨_, rfl, ?_⟩
  replace BK129 := bb BK129 hb
  replace BK130 := bb BK130 hb
  replace BK131 := bb BK131 hb
  replace HB := am (below_step (Y3 HB GE129 GE130 GE131) hb)
  (try clear hb)
  (try clear hb2)
  (try clear hk)
  (try clear hi)
  refine hK.out _ _ ⟨bc BK129 0, bc BK129 1, bc BK130 0, bc BK130 1⟩ (fun hHeld => ?_)
  clear hK K
  refine norm_ (a' := ?_) ?_ ?_
  rotate_left
  ·show Act.put _ (some 20) _ = _
   simp only [Act.put, List.setIfInBounds_toArray, List.set_cons_zero, List.set_cons_succ, i64_w, i32_w]
   rfl
  refine pj 16 (some 21) (lb 18 131071) ?_
  refine pj 17 (some 22) (lb 18 262143) ?_
  refine done_ (done_of HT_.out (by kernel_rfl)) ?_
  try go_wp2
  go_meet
  case rel => exact ⟨_, ((a1_0 == t136 && (a1_1 == t137))), ey, H', ⟨by first | omega | exact Nat.le_refl _⟩, ⟨Z BK129⟩, ⟨Z BK130⟩, ⟨Z BK131⟩, ⟨Y3 HB GE129 GE130 GE131⟩⟩
 case rest =>
  clear HC3
  obtain ⟨kq, x22_2, rfl, HA, HJ2, BK129, BK130, BK131, HB⟩ := hcut
  cases kq with
  | zero => exact absurd HA.out (by simp [spec_RangeMeet.j0])
  | succ kj2 =>
   have H := HA.out
   clear HA
   simp only [spec_RangeMeet.j0] at H
   by_cases c28 : x22_2 = true
   ·subst c28
    rw [if_pos rfl] at H
    replace H := Option.bind_eq_some_iff.mp H
    obtain ⟨⟨t138, t139⟩, A290, H⟩ := H
    try dsimp only at H
    have A29 := am A290
    clear A290
    simp only [Option.some.injEq, Prod.mk.injEq] at H
    obtain ⟨rfl, rfl⟩ := H
    go_wp2_with (first | ((with_reducible refine gate_callee (f := 38) rfl ?_); refine goesL_ (some 23) rfl rfl Try.func38 (by kernel_rfl) rfl #[] rfl mz ?_; (with_reducible refine (spec_l8None.calls  t138 t139 _ A29.out).mono ?_); rintro e w30 ⟨rfl, hb⟩; refine ⟨_, rfl, ?_⟩; replace BK129 := bb BK129 hb; replace BK130 := bb BK130 hb; replace BK131 := bb BK131 hb; replace HB := am (below_step (Y3 HB GE129 GE130 GE131) hb); (try clear hb); obtain ⟨hnb31,hnc31⟩ := nn NB131_129; obtain ⟨hnb32,hnc32⟩ := nn NB131_130; obtain ⟨hcz33_0,hcz33_1,hfz33_0,hfz33_1⟩ := c2 BK131))
    refine bodyPost_ret (results_cell_row rfl _ _ gb131 24 #[.int .i64 t138, .int .i64 t139] (0, 0) _ rfl (by refine pf ?_; refine blk_put (cs := #[.int .i64 t138, .int .i64 0]) ?_ 1 _ rfl; refine pf ?_; refine blk_put (cs := #[.int .i64 0, .int .i64 0]) ?_ 0 _ rfl; exact Z BK131) Try.underlying24 rfl (by kernel_rfl)) rfl ?_
    exact ⟨ez, Y3 HB GE129 GE130 GE131⟩
   replace c28 := Bool.eq_false_iff.mpr c28
   subst c28
   rw [if_neg (show ¬ (false = true) by decide)] at H
   replace H := Option.bind_eq_some_iff.mp H
   obtain ⟨t140, A340, H⟩ := H
   try dsimp only at H
   have A34 := am A340
   clear A340
   replace H := Option.bind_eq_some_iff.mp H
   obtain ⟨t141, A350, H⟩ := H
   try dsimp only at H
   have A35 := am A350
   clear A350
   replace H := Option.bind_eq_some_iff.mp H
   obtain ⟨⟨t142, t143⟩, A360, H⟩ := H
   try dsimp only at H
   have A36 := am A360
   clear A360
   simp only [Option.some.injEq, Prod.mk.injEq] at H
   obtain ⟨rfl, rfl⟩ := H
   try go_wp2
   replace BK129 := am (blk_drew BK129.out)
   replace BK130 := am (blk_drew BK130.out)
   replace BK131 := am (blk_drew BK131.out)
   replace HB := am (below_drew1 HB.out)
   refine start_ (n := 12) (S := fun w' => w'.cell? ⟨gb129, 0, none⟩ = some (.int .i64 a0_0) ∧ w'.cell? ⟨gb129, 1, none⟩ = some (.int .i64 a0_1) ∧ w'.cell? ⟨gb130, 0, none⟩ = some (.int .i64 a1_0) ∧ w'.cell? ⟨gb130, 1, none⟩ = some (.int .i64 a1_1)) (ds := []) (lb 12 0) (by kernel_rfl) rfl rfl ⟨bc BK129 0, bc BK129 1, bc BK130 0, bc BK130 1⟩ (fun hHeld => ?_); refine with_tabW spec_RangeMeet.tab3 spec_RangeMeet.bits3 (fun HT_ HW_ => ?_)
   generalize wc.drew = w37 at BK129 BK130 BK131 HB hHeld ⊢
   refine pj 0 (some 24) (lb 12 1) ?_
   refine pj 2 (some 26) (lb 12 5) ?_
   refine pj 5 (some 29) (lb 12 37) ?_
   refine pj 7 (some 31) (lb 12 165) ?_
   refine take_ (i := 1) (N := some 25) (v := ?_) (a' := ?_) (lb 12 167) rfl rfl (take_ofW HT_.out HW_.out (by kernel_rfl)) (fun _ _ _ h => h) (Or.inl ⟨by rfl, ?_⟩) hHeld ?_ ?_
   rotate_left
   ·rintro w' ⟨s0, s1, s2, s3⟩
    go_simp
    with_reducible rfl
   rotate_left
   ·exact pz
   refine take_ (i := 3) (N := some 27) (v := ?_) (a' := ?_) (lb 12 175) rfl rfl (take_ofW HT_.out HW_.out (by kernel_rfl)) (fun _ _ _ h => h) (Or.inl ⟨by rfl, ?_⟩) hHeld ?_ ?_
   rotate_left
   ·rintro w' ⟨s0, s1, s2, s3⟩
    go_simp
    with_reducible rfl
   rotate_left
   ·exact pz
   refine take_ (i := 6) (N := some 30) (v := ?_) (a' := ?_) (lb 12 239) rfl rfl (take_ofW HT_.out HW_.out (by kernel_rfl)) (fun _ _ _ h => h) (Or.inl ⟨by rfl, ?_⟩) hHeld ?_ ?_
   rotate_left
   ·rintro w' ⟨s0, s1, s2, s3⟩
    go_simp
    with_reducible rfl
   rotate_left
   ·exact pz
   refine take_ (i := 8) (N := some 32) (v := ?_) (a' := ?_) (lb 12 495) rfl rfl (take_ofW HT_.out HW_.out (by kernel_rfl)) (fun _ _ _ h => h) (Or.inl ⟨by rfl, ?_⟩) hHeld ?_ ?_
   rotate_left
   ·rintro w' ⟨s0, s1, s2, s3⟩
    go_simp
    with_reducible rfl
   rotate_left
   ·exact pz
   refine one_ (i := 4) (N := some 28) (lb 12 511) rfl rfl (one_of HT_.out (by kernel_rfl)) (by decide) (fun K hK => ?_)
   refine goes_ Try.func69 (by kernel_rfl) rfl #[.int .i64 a0_0, .int .i64 a1_0] (by rfl) rfl rfl mz ?_
   with_reducible refine (spec_l8Max.calls a0_0 a1_0 t140 _ A34.out).mono ?_
   rintro e w' ⟨rfl, ⟨nd, rfl⟩⟩
   refine ⟨_, rfl, ?_⟩
   refine hK.out _ _ ⟨bc BK129 0, bc BK129 1, bc BK130 0, bc BK130 1⟩ (fun hHeld => ?_)
   clear hK K
   refine norm_ (a' := ?_) ?_ ?_
   rotate_left
   ·show Act.put _ (some 28) _ = _
    simp only [Act.put, List.setIfInBounds_toArray, List.set_cons_zero, List.set_cons_succ, i64_w, i32_w]
    rfl
   refine one_ (i := 9) (N := some 33) (lb 12 1023) rfl rfl (one_of HT_.out (by kernel_rfl)) (by decide) (fun K hK => ?_)
   refine goes_ Try.func68 (by kernel_rfl) rfl #[.int .i64 a0_1, .int .i64 a1_1] (by rfl) rfl rfl mz ?_
   with_reducible refine (spec_l8Min.calls a0_1 a1_1 t141 _ A35.out).mono ?_
   rintro e w' ⟨rfl, ⟨nd, rfl⟩⟩
   refine ⟨_, rfl, ?_⟩
   refine hK.out _ _ ⟨bc BK129 0, bc BK129 1, bc BK130 0, bc BK130 1⟩ (fun hHeld => ?_)
   clear hK K
   refine norm_ (a' := ?_) ?_ ?_
   rotate_left
   ·show Act.put _ (some 33) _ = _
    simp only [Act.put, List.setIfInBounds_toArray, List.set_cons_zero, List.set_cons_succ, i64_w, i32_w]
    rfl
   refine one_ (i := 10) (N := some 34) (lb 12 2047) rfl rfl (one_of HT_.out (by kernel_rfl)) (by decide) (fun K hK => ?_)
   refine goes_ Try.func44 (by kernel_rfl) rfl #[.int .i64 t140, .int .i64 t141] (by rfl) rfl rfl mz ?_
   with_reducible refine (spec_l8Cut.calls t140 t141 t142 t143 _ A36.out).mono ?_
   rintro e w38 ⟨rfl, hb⟩
   refine ⟨_, rfl, ?_⟩
   replace BK129 := bb BK129 hb
   replace BK130 := bb BK130 hb
   replace BK131 := bb BK131 hb
   replace HB := am (below_step (Y3 HB GE129 GE130 GE131) hb)
   (try clear hb)
   (try clear hb2)
   (try clear hk)
   (try clear hi)
   refine hK.out _ _ ⟨bc BK129 0, bc BK129 1, bc BK130 0, bc BK130 1⟩ (fun hHeld => ?_)
   clear hK K
   refine norm_ (a' := ?_) ?_ ?_
   rotate_left
   ·show Act.put _ (some 34) _ = _
    simp only [Act.put, List.setIfInBounds_toArray, List.set_cons_zero, List.set_cons_succ, i64_w, i32_w]
    rfl
   refine one_ (i := 11) (N := none) (lb 12 4095) rfl rfl (one_of HT_.out (by kernel_rfl)) (by decide) (fun K hK => ?_)
   have hs39 : w38.cell? ⟨gb131, 0, none⟩ = some (.int .i64 0) := bc BK131 0
   have hfs39 := blk_frozen BK131.out 0
   have hns39_0 := NB129_131.out
   have hns39_1 := NB130_131.out
   have hms39_0 := NB131_129.out
   have hms39_1 := NB131_130.out
   have hs40 : w38.cell? ⟨gb131, 1, none⟩ = some (.int .i64 0) := bc BK131 1
   have hfs40 := blk_frozen BK131.out 1
   have hns40_0 := NB129_131.out
   have hns40_1 := NB130_131.out
   have hms40_0 := NB131_129.out
   have hms40_1 := NB131_130.out
   refine skip_ (w1 := ?_) (by rfl) rfl ?_ ?_
   rotate_left
   ·go_simp
    rfl
   refine hK.out _ _ ⟨((cell_far (p := ⟨gb131, _, none⟩) NB129_131.out _).trans (((cell_far (p := ⟨gb131, _, none⟩) NB129_131.out _).trans (hHeld.1)))), ((cell_far (p := ⟨gb131, _, none⟩) NB129_131.out _).trans (((cell_far (p := ⟨gb131, _, none⟩) NB129_131.out _).trans (hHeld.2.1)))), ((cell_far (p := ⟨gb131, _, none⟩) NB130_131.out _).trans (((cell_far (p := ⟨gb131, _, none⟩) NB130_131.out _).trans (hHeld.2.2.1)))), ((cell_far (p := ⟨gb131, _, none⟩) NB130_131.out _).trans (((cell_far (p := ⟨gb131, _, none⟩) NB130_131.out _).trans (hHeld.2.2.2))))⟩ (fun hHeld => ?_)
   clear hK K
   refine done_ (done_of HT_.out (by kernel_rfl)) ?_
   try go_wp2
   refine bodyPost_ret (results_cell_row rfl _ _ gb131 24 #[.int .i64 t142, .int .i64 t143] (0, 0) _ rfl (by refine pf ?_; refine blk_put (cs := #[.int .i64 t142, .int .i64 0]) ?_ 1 _ rfl; refine pf ?_; refine blk_put (cs := #[.int .i64 0, .int .i64 0]) ?_ 0 _ rfl; exact Z BK131) Try.underlying24 rfl (by kernel_rfl)) rfl ?_
   exact ⟨ez, Y3 HB GE129 GE130 GE131⟩

end Go.Proofs.Ythbkakcchgnhpaa.PFnExactRangeDo
