/- Written by this session's own driver (wip/dprint.py): the functions that the law FnRangeMore reaches, as Lean functions, each with its contract. -/
import Derived.Test.YthbkakcchgnhpaaPFnRangeMorex0
import Derived.Test.YthbkakcchgnhpaaPFnRangeMorex1
import Derived.Test.YthbkakcchgnhpaaPFnRangeMorex2
import Derived.Test.YthbkakcchgnhpaaPFnRangeMorex3
import Derived.Test.YthbkakcchgnhpaaSv
namespace Go.Proofs.Ythbkakcchgnhpaa.PFnRangeMore
open Go.RowKit Go.Proofs.YthbkakcchgnhpaaV.PrintWords Go.Proofs.YthbkakcchgnhpaaV.PrintLast Go.Proofs.YthbkakcchgnhpaaV.PrintMore Go.Proofs.YthbkakcchgnhpaaSv
attribute [local go_sem] max2_int min2_int max_two min_two max_three min_three max_four min_four   -- for this text's walks alone
set_option linter.unusedVariables false
set_option linter.unusedSimpArgs false

attribute [local go_sem high] eqA24
/-! ### spec_RangeMeet: function 41 -/
attribute [local go_sem] Go.Proofs.YthbkakcchgnhpaaSet.isSome_setCell
def spec_RangeMeet.j0 : Nat → Bool → Int → Int → Int → Int → Option (Int × Int)
 | 0, _, _, _, _, _ => none
 | k + 1, x1, x2, x3, x4, x5 => if x1 = true then ((spec_l8None.f).bind fun u1 => (some (u1.1, u1.2))) else ((spec_l8Max.f x2 x4).bind fun t1 => ((spec_l8Min.f x3 x5).bind fun t2 => ((spec_l8Cut.f t1 t2).bind fun u2 => (some (u2.1, u2.2)))))
def spec_RangeMeet.f (k : Nat) (a0_0 : Int) (a0_1 : Int) (a1_0 : Int) (a1_1 : Int) : Option (Int × Int) := (spec_RangeOk.f a0_0 a0_1).bind fun t1 => (if t1 = true then ((spec_RangeOk.f a1_0 a1_1).bind fun t2 => (if t2 = true then ((spec_l8None.f).bind fun u1 => (if (a0_0 == u1.1 && (a0_1 == u1.2)) = true then (spec_RangeMeet.j0 k true a0_0 a0_1 a1_0 a1_1) else ((spec_l8None.f).bind fun u2 => (spec_RangeMeet.j0 k (a1_0 == u2.1 && (a1_1 == u2.2)) a0_0 a0_1 a1_0 a1_1)))) else (spec_RangeMeet.j0 k true a0_0 a0_1 a1_0 a1_1))) else (spec_RangeMeet.j0 k true a0_0 a0_1 a1_0 a1_1))
theorem spec_RangeMeet.mono_l : ∀ k, (∀ y0 y1 y2 y3 y4, LeO (spec_RangeMeet.j0 k y0 y1 y2 y3 y4) (spec_RangeMeet.j0 (k + 1) y0 y1 y2 y3 y4))
 | 0 => fun _ _ _ _ _ r h => by simp [spec_RangeMeet.j0] at h
 | k + 1 => by
  have ih0 := spec_RangeMeet.mono_l k
  ·intro y0 y1 y2 y3 y4
   unfold spec_RangeMeet.j0
   repeat' first | (with_reducible first | apply ih0 | apply LeO.refl | apply LeO.none | refine LeO.ite ?_ ?_ | refine LeO.bind ?_ (fun _ => ?_)) | apply ih0 | apply LeO.none | refine LeO.ite ?_ ?_ | refine LeO.bind ?_ (fun _ => ?_)
theorem spec_RangeMeet.mono : ∀ a0 a1 a2 a3 k, LeO (spec_RangeMeet.f k a0 a1 a2 a3) (spec_RangeMeet.f (k + 1) a0 a1 a2 a3) := by
 intro a0 a1 a2 a3 k
 have ih0 := spec_RangeMeet.mono_l k
 unfold spec_RangeMeet.f
 repeat' first | (with_reducible first | apply ih0 | apply LeO.refl | apply LeO.none | refine LeO.ite ?_ ?_ | refine LeO.bind ?_ (fun _ => ?_)) | apply ih0 | apply LeO.none | refine LeO.ite ?_ ?_ | refine LeO.bind ?_ (fun _ => ?_)
def spec_RangeMeet.T1 : Bool × List (List Nat × List Nat) := (true, [([], []), ([0], [0]), ([1], [1]), ([2, 1], [2]), ([3], [3]), ([4, 3, 3], [3, 4]), ([5, 3], [3, 5]), ([3, 6], [3, 6]), ([7, 5], [7]), ([8], [8]), ([8, 8], [8]), ([9, 10, 8], [8, 9, 10]), ([8, 11], [8, 11]), ([12, 10], [12]), ([13], [13]), ([13, 13], [13]), ([14, 15, 13], [13, 14, 15]), ([13, 16], [13, 16])])
def spec_RangeMeet.B1 : List Nat := [0, 1, 3, 7, 15, 31, 63, 127, 255, 511, 511, 2047, 4095, 8191, 16383, 16383, 65535, 131071]
theorem spec_RangeMeet.tab1 : rtab .any (opsOf Try.f41 1) = spec_RangeMeet.T1 := by kernel_rfl
theorem spec_RangeMeet.bits1 : waitsOk spec_RangeMeet.T1.2 spec_RangeMeet.B1 = true := by kernel_rfl
def spec_RangeMeet.T3 : Bool × List (List Nat × List Nat) := (true, [([], []), ([0], [0]), ([], []), ([2], [2]), ([1, 3], [1, 3]), ([], []), ([5], [5]), ([], []), ([7], [7]), ([6, 8, 4], [6, 8]), ([4, 9, 9], [4, 9]), ([10, 10, 0, 1, 2, 3, 4, 5, 6, 7, 8, 9, 10], [10])])
def spec_RangeMeet.B3 : List Nat := [0, 1, 0, 4, 15, 0, 32, 0, 128, 511, 1023, 2047]
theorem spec_RangeMeet.tab3 : rtab .any (opsOf Try.f41 3) = spec_RangeMeet.T3 := by kernel_rfl
theorem spec_RangeMeet.bits3 : waitsOk spec_RangeMeet.T3.2 spec_RangeMeet.B3 = true := by kernel_rfl
set_option maxHeartbeats 8000000 in
set_option maxRecDepth 100000 in
theorem spec_RangeMeet.calls (k : Nat) (a0_0 : Int) (a0_1 : Int) (a1_0 : Int) (a1_1 : Int) (r1 : Int) (r2 : Int) (w : World) (h : spec_RangeMeet.f k a0_0 a0_1 a1_0 a1_1 = some (r1, r2)) :
  Calls Try.prog 41 #[.agg #[.int .i64 a0_0, .int .i64 a0_1], .agg #[.int .i64 a1_0, .int .i64 a1_1]] w fun e w' => e = .returned (.agg #[.int .i64 r1, .int .i64 r2]) ∧ Below w.heap.size w w' := by
 have hu24 := Try.underlying24
 have HB := am (Below.refl w.heap.size w)
 have H : ((spec_RangeOk.f a0_0 a0_1).bind fun t1 => (if t1 = true then ((spec_RangeOk.f a1_0 a1_1).bind fun t2 => (if t2 = true then ((spec_l8None.f).bind fun u1 => (if (a0_0 == u1.1 && (a0_1 == u1.2)) = true then (spec_RangeMeet.j0 k true a0_0 a0_1 a1_0 a1_1) else ((spec_l8None.f).bind fun u2 => (spec_RangeMeet.j0 k (a1_0 == u2.1 && (a1_1 == u2.2)) a0_0 a0_1 a1_0 a1_1)))) else (spec_RangeMeet.j0 k true a0_0 a0_1 a1_0 a1_1))) else (spec_RangeMeet.j0 k true a0_0 a0_1 a1_0 a1_1))) = some (r1, r2) := h
 clear h
 have C1 := am H
 clear H
 go_enter Try.func41, Try.ntmps41
 go_upto_region 1 with (first | ((with_reducible refine gate_dst (N := 2) rfl ?_); refine bxn 2 #[.int .i64 a0_0, .int .i64 a0_1] 24 HB fun g1 w2 K1 G1 hg hb => ?_; replace HB := am (below_step (YA HB) hb); clear hb hg) | ((with_reducible refine gate_dst (N := 3) rfl ?_); refine bxn 3 #[.int .i64 a1_0, .int .i64 a1_1] 24 HB fun g2 w3 K2 G2 hg hb => ?_; obtain ⟨N1,N2⟩ := ne_ hg K1; obtain ⟨K1, HB⟩ := bk1 K1 HB hb; clear hb hg) | ((with_reducible refine gate_dst (N := 4) rfl ?_); refine bxn 4 #[.int .i64 0, .int .i64 0] 24 HB fun g3 w4 K3 G3 hg hb => ?_; obtain ⟨N3,N4⟩ := ne_ hg K1; obtain ⟨N5,N6⟩ := ne_ hg K2; obtain ⟨K1, K2, HB⟩ := bk2 K1 K2 HB hb; clear hb hg))
 (try simp only [Act.put, List.setIfInBounds_toArray, List.set_cons_zero, List.set_cons_succ])
 go_cut [22] (fun v1 wc => ∃ (kq : Nat) (x1 : Bool), v1 = .bool x1 ∧ Aside0 (spec_RangeMeet.j0 kq x1 a0_0 a0_1 a1_0 a1_1 = some (r1, r2)) ∧ Aside0 (kq ≤ k) ∧ Bx2 wc g1 a0_0 a0_1 24 ∧ Bx2 wc g2 a1_0 a1_1 24 ∧ Bx2 wc g3 0 0 24 ∧ Aside0 (Below w.heap.size w wc))
 case first =>
  have H := C1.out
  clear C1
  obtain ⟨t1, A1, H⟩ := bd H
  try dsimp only at H
  by_cases c1 : t1 = true
  rotate_left
  ·replace c1 := Bool.eq_false_iff.mpr c1
   subst c1
   rw [if_neg ff] at H
   have H' := am H
   clear H
   try go_wp2
   obtain ⟨K1, K2, K3, HB⟩ := dk3 K1 K2 K3 HB
   refine start_ (n := 18) (S := fun w' => w'.cell? ⟨g1, 0, none⟩ = some (.int .i64 a0_0) ∧ w'.cell? ⟨g1, 1, none⟩ = some (.int .i64 a0_1)) (ds := []) (lb 18 0) (by kernel_rfl) rfl rfl ⟨bc K1 0, bc K1 1⟩ (fun hHeld => ?_); refine with_tabW spec_RangeMeet.tab1 spec_RangeMeet.bits1 (fun HT_ HW_ => ?_)
   generalize w4.drew = w5 at K1 K2 K3 HB hHeld ⊢
   refine tk 0 5 1 hHeld ?_
   refine on 1 (some 6) 3 fun K hK => ?_
   refine gq Try.func24 (spec_RangeOk.calls _ _ _ _ A1.out) fun w6 hb => ?_
   obtain ⟨K1, K2, K3, HB⟩ := bk3 K1 K2 K3 HB hb
   clear hb
   refine kk hK ⟨bc K1 0, bc K1 1⟩ fun hHeld => ?_
   clear hK K
   refine pk 2 7 7 ?_
   refine pk 3 8 15 ?_
   refine uk 4 9 31 ?_
   refine uk 5 10 63 ?_
   refine uk 6 11 127 ?_
   refine pk 7 12 255 ?_
   refine pk 8 13 511 ?_
   refine uk 9 14 1023 ?_
   refine uk 10 15 2047 ?_
   refine uk 11 16 4095 ?_
   refine pk 12 17 8191 ?_
   refine pk 13 18 16383 ?_
   refine uk 14 19 32767 ?_
   refine uk 15 20 65535 ?_
   refine uk 16 21 131071 ?_
   refine pk 17 22 262143 ?_
   refine done_ (done_of HT_.out (by kernel_rfl)) ?_
   try go_wp2
   go_meet
   case rel => exact ⟨_, (true), ey, H', le0, ⟨Z K1⟩, ⟨Z K2⟩, ⟨Z K3⟩, ⟨YA HB⟩⟩
  subst c1
  rw [if_pos rfl] at H
  obtain ⟨t2, A2, H⟩ := bd H
  try dsimp only at H
  by_cases c2 : t2 = true
  rotate_left
  ·replace c2 := Bool.eq_false_iff.mpr c2
   subst c2
   rw [if_neg ff] at H
   have H' := am H
   clear H
   try go_wp2
   obtain ⟨K1, K2, K3, HB⟩ := dk3 K1 K2 K3 HB
   refine start_ (n := 18) (S := fun w' => w'.cell? ⟨g1, 0, none⟩ = some (.int .i64 a0_0) ∧ w'.cell? ⟨g1, 1, none⟩ = some (.int .i64 a0_1) ∧ w'.cell? ⟨g2, 0, none⟩ = some (.int .i64 a1_0) ∧ w'.cell? ⟨g2, 1, none⟩ = some (.int .i64 a1_1)) (ds := []) (lb 18 0) (by kernel_rfl) rfl rfl ⟨bc K1 0, bc K1 1, bc K2 0, bc K2 1⟩ (fun hHeld => ?_); refine with_tabW spec_RangeMeet.tab1 spec_RangeMeet.bits1 (fun HT_ HW_ => ?_)
   generalize w4.drew = w5 at K1 K2 K3 HB hHeld ⊢
   refine tk 0 5 1 hHeld ?_
   refine on 1 (some 6) 3 fun K hK => ?_
   refine gq Try.func24 (spec_RangeOk.calls _ _ _ _ A1.out) fun w6 hb => ?_
   obtain ⟨K1, K2, K3, HB⟩ := bk3 K1 K2 K3 HB hb
   clear hb
   refine kk hK ⟨bc K1 0, bc K1 1, bc K2 0, bc K2 1⟩ fun hHeld => ?_
   clear hK K
   refine pk 2 7 7 ?_
   refine pk 3 8 15 ?_
   refine tk 4 9 31 hHeld ?_
   refine on 5 (some 10) 63 fun K hK => ?_
   refine gq Try.func24 (spec_RangeOk.calls _ _ _ _ A2.out) fun w7 hb => ?_
   obtain ⟨K1, K2, K3, HB⟩ := bk3 K1 K2 K3 HB hb
   clear hb
   refine kk hK ⟨bc K1 0, bc K1 1, bc K2 0, bc K2 1⟩ fun hHeld => ?_
   clear hK K
   refine pk 6 11 127 ?_
   refine pk 7 12 255 ?_
   refine pk 8 13 511 ?_
   refine uk 9 14 1023 ?_
   refine uk 10 15 2047 ?_
   refine uk 11 16 4095 ?_
   refine pk 12 17 8191 ?_
   refine pk 13 18 16383 ?_
   refine uk 14 19 32767 ?_
   refine uk 15 20 65535 ?_
   refine uk 16 21 131071 ?_
   refine pk 17 22 262143 ?_
   refine done_ (done_of HT_.out (by kernel_rfl)) ?_
   try go_wp2
   go_meet
   case rel => exact ⟨_, (true), ey, H', le0, ⟨Z K1⟩, ⟨Z K2⟩, ⟨Z K3⟩, ⟨YA HB⟩⟩
  subst c2
  rw [if_pos rfl] at H
  obtain ⟨⟨t3, t4⟩, A3, H⟩ := bd H
  try dsimp only at H
  by_cases c3 : (a0_0 == t3 && (a0_1 == t4)) = true
  ·rw [if_pos c3] at H
   have d1 : (a0_0 == t3 && (a0_1 == t4)) = true := c3
   (try (have d2 : decide (a0_0 = t3 && (a0_1 == t4)) = true := by simpa using c3))
   (try (have d3 : (a0_0 == t3 && (a0_1 == t4)) = true := by simpa using c3))
   clear c3
   (first | rw [d1] | (simp only [i64_w, i32_w]; rw [d1]) | skip)
   have H' := am H
   clear H
   try go_wp2
   obtain ⟨K1, K2, K3, HB⟩ := dk3 K1 K2 K3 HB
   refine start_ (n := 18) (S := fun w' => w'.cell? ⟨g1, 0, none⟩ = some (.int .i64 a0_0) ∧ w'.cell? ⟨g1, 1, none⟩ = some (.int .i64 a0_1) ∧ w'.cell? ⟨g2, 0, none⟩ = some (.int .i64 a1_0) ∧ w'.cell? ⟨g2, 1, none⟩ = some (.int .i64 a1_1)) (ds := []) (lb 18 0) (by kernel_rfl) rfl rfl ⟨bc K1 0, bc K1 1, bc K2 0, bc K2 1⟩ (fun hHeld => ?_); refine with_tabW spec_RangeMeet.tab1 spec_RangeMeet.bits1 (fun HT_ HW_ => ?_)
   generalize w4.drew = w5 at K1 K2 K3 HB hHeld ⊢
   refine tk 0 5 1 hHeld ?_
   refine on 1 (some 6) 3 fun K hK => ?_
   refine gq Try.func24 (spec_RangeOk.calls _ _ _ _ A1.out) fun w6 hb => ?_
   obtain ⟨K1, K2, K3, HB⟩ := bk3 K1 K2 K3 HB hb
   clear hb
   refine kk hK ⟨bc K1 0, bc K1 1, bc K2 0, bc K2 1⟩ fun hHeld => ?_
   clear hK K
   refine pk 2 7 7 ?_
   refine pk 3 8 15 ?_
   refine tk 4 9 31 hHeld ?_
   refine on 5 (some 10) 63 fun K hK => ?_
   refine gq Try.func24 (spec_RangeOk.calls _ _ _ _ A2.out) fun w7 hb => ?_
   obtain ⟨K1, K2, K3, HB⟩ := bk3 K1 K2 K3 HB hb
   clear hb
   refine kk hK ⟨bc K1 0, bc K1 1, bc K2 0, bc K2 1⟩ fun hHeld => ?_
   clear hK K
   refine pk 6 11 127 ?_
   refine pk 7 12 255 ?_
   refine pk 8 13 511 ?_
   refine tk 9 14 1023 hHeld ?_
   refine on 10 (some 15) 2047 fun K hK => ?_
   refine gq Try.func38 (spec_l8None.calls _ _ _ A3.out) fun w8 hb => ?_
   obtain ⟨K1, K2, K3, HB⟩ := bk3 K1 K2 K3 HB hb
   clear hb
   refine kk hK ⟨bc K1 0, bc K1 1, bc K2 0, bc K2 1⟩ fun hHeld => ?_
   clear hK K
   refine pk 11 16 4095 ?_
   refine pk 12 17 8191 ?_
   refine pk 13 18 16383 ?_
   refine uk 14 19 32767 ?_
   refine uk 15 20 65535 ?_
   refine uk 16 21 131071 ?_
   refine pk 17 22 262143 ?_
   refine done_ (done_of HT_.out (by kernel_rfl)) ?_
   try go_wp2
   go_meet
   case rel => exact ⟨_, (true), ey, H', le0, ⟨Z K1⟩, ⟨Z K2⟩, ⟨Z K3⟩, ⟨YA HB⟩⟩
  rw [if_neg c3] at H
  have d1 : (a0_0 == t3 && (a0_1 == t4)) = false := by simpa using c3
  (try (have d2 : decide (a0_0 = t3 && (a0_1 == t4)) = false := by simpa using c3))
  (try (have d3 : (a0_0 == t3 && (a0_1 == t4)) = false := by simpa using c3))
  (try (have d4 : ¬ (a0_0 = t3 && (a0_1 == t4)) := by simpa using c3))
  clear c3
  (first | rw [d1] | (simp only [i64_w, i32_w]; rw [d1]) | skip)
  obtain ⟨⟨t5, t6⟩, A4, H⟩ := bd H
  try dsimp only at H
  have H' := am H
  clear H
  try go_wp2
  obtain ⟨K1, K2, K3, HB⟩ := dk3 K1 K2 K3 HB
  refine start_ (n := 18) (S := fun w' => w'.cell? ⟨g1, 0, none⟩ = some (.int .i64 a0_0) ∧ w'.cell? ⟨g1, 1, none⟩ = some (.int .i64 a0_1) ∧ w'.cell? ⟨g2, 0, none⟩ = some (.int .i64 a1_0) ∧ w'.cell? ⟨g2, 1, none⟩ = some (.int .i64 a1_1)) (ds := []) (lb 18 0) (by kernel_rfl) rfl rfl ⟨bc K1 0, bc K1 1, bc K2 0, bc K2 1⟩ (fun hHeld => ?_); refine with_tabW spec_RangeMeet.tab1 spec_RangeMeet.bits1 (fun HT_ HW_ => ?_)
  generalize w4.drew = w5 at K1 K2 K3 HB hHeld ⊢
  refine tk 0 5 1 hHeld ?_
  refine on 1 (some 6) 3 fun K hK => ?_
  refine gq Try.func24 (spec_RangeOk.calls _ _ _ _ A1.out) fun w6 hb => ?_
  obtain ⟨K1, K2, K3, HB⟩ := bk3 K1 K2 K3 HB hb
  clear hb
  refine kk hK ⟨bc K1 0, bc K1 1, bc K2 0, bc K2 1⟩ fun hHeld => ?_
  clear hK K
  refine pk 2 7 7 ?_
  refine pk 3 8 15 ?_
  refine tk 4 9 31 hHeld ?_
  refine on 5 (some 10) 63 fun K hK => ?_
  refine gq Try.func24 (spec_RangeOk.calls _ _ _ _ A2.out) fun w7 hb => ?_
  obtain ⟨K1, K2, K3, HB⟩ := bk3 K1 K2 K3 HB hb
  clear hb
  refine kk hK ⟨bc K1 0, bc K1 1, bc K2 0, bc K2 1⟩ fun hHeld => ?_
  clear hK K
  refine pk 6 11 127 ?_
  refine pk 7 12 255 ?_
  refine pk 8 13 511 ?_
  refine tk 9 14 1023 hHeld ?_
  refine on 10 (some 15) 2047 fun K hK => ?_
  refine gq Try.func38 (spec_l8None.calls _ _ _ A3.out) fun w8 hb => ?_
  obtain ⟨K1, K2, K3, HB⟩ := bk3 K1 K2 K3 HB hb
  clear hb
  refine kk hK ⟨bc K1 0, bc K1 1, bc K2 0, bc K2 1⟩ fun hHeld => ?_
  clear hK K
  refine pk 11 16 4095 ?_
  refine pk 12 17 8191 ?_
  refine pk 13 18 16383 ?_
  refine tk 14 19 32767 hHeld ?_
  refine on 15 (some 20) 65535 fun K hK => ?_
  refine gq Try.func38 (spec_l8None.calls _ _ _ A4.out) fun w9 hb => ?_
  obtain ⟨K1, K2, K3, HB⟩ := bk3 K1 K2 K3 HB hb
  clear hb
  refine kk hK ⟨bc K1 0, bc K1 1, bc K2 0, bc K2 1⟩ fun hHeld => ?_
  clear hK K
  refine pk 16 21 131071 ?_
  refine pk 17 22 262143 ?_
  refine done_ (done_of HT_.out (by kernel_rfl)) ?_
  try go_wp2
  go_meet
  case rel => exact ⟨_, ((a1_0 == t5 && (a1_1 == t6))), ey, H', le0, ⟨Z K1⟩, ⟨Z K2⟩, ⟨Z K3⟩, ⟨YA HB⟩⟩
 case rest =>
  clear C1
  obtain ⟨kq, x1, rfl, HA, J1, K1, K2, K3, HB⟩ := hcut
  cases kq with
  | zero => exact absurd HA.out (by simp [spec_RangeMeet.j0])
  | succ k1 =>
   have H := HA.out
   clear HA
   simp only [spec_RangeMeet.j0] at H
   by_cases c1 : x1 = true
   ·subst c1
    rw [if_pos rfl] at H
    obtain ⟨⟨t3, t4⟩, A1, H⟩ := bd H
    try dsimp only at H
    simp only [Option.some.injEq, Prod.mk.injEq] at H
    obtain ⟨rfl, rfl⟩ := H
    go_wp2_with (first | ((with_reducible refine gate_callee (f := 38) rfl ?_); refine gL 23 Try.func38 (spec_l8None.calls _ _ _ A1.out) fun w5 hb => ?_; obtain ⟨K1, K2, K3, HB⟩ := bk3 K1 K2 K3 HB hb; (try clear hb); have z_ := ns2 N4 N6; have z_ := cB2 K3))
    refine bodyPost_ret (results_cell_row rfl _ _ g3 24 #[.int .i64 t3, .int .i64 t4] (0, 0) _ rfl (by refine pf ?_; refine blk_put (cs := #[.int .i64 t3, .int .i64 0]) ?_ 1 _ rfl; refine pf ?_; refine blk_put (cs := #[.int .i64 0, .int .i64 0]) ?_ 0 _ rfl; exact Z K3) Try.underlying24 rfl (by kernel_rfl)) rfl ?_
    exact ⟨ez, YA HB⟩
   replace c1 := Bool.eq_false_iff.mpr c1
   subst c1
   rw [if_neg ff] at H
   obtain ⟨t3, A1, H⟩ := bd H
   try dsimp only at H
   obtain ⟨t4, A2, H⟩ := bd H
   try dsimp only at H
   obtain ⟨⟨t5, t6⟩, A3, H⟩ := bd H
   try dsimp only at H
   simp only [Option.some.injEq, Prod.mk.injEq] at H
   obtain ⟨rfl, rfl⟩ := H
   try go_wp2
   obtain ⟨K1, K2, K3, HB⟩ := dk3 K1 K2 K3 HB
   refine start_ (n := 12) (S := fun w' => w'.cell? ⟨g1, 0, none⟩ = some (.int .i64 a0_0) ∧ w'.cell? ⟨g1, 1, none⟩ = some (.int .i64 a0_1) ∧ w'.cell? ⟨g2, 0, none⟩ = some (.int .i64 a1_0) ∧ w'.cell? ⟨g2, 1, none⟩ = some (.int .i64 a1_1)) (ds := []) (lb 12 0) (by kernel_rfl) rfl rfl ⟨bc K1 0, bc K1 1, bc K2 0, bc K2 1⟩ (fun hHeld => ?_); refine with_tabW spec_RangeMeet.tab3 spec_RangeMeet.bits3 (fun HT_ HW_ => ?_)
   generalize wc.drew = w5 at K1 K2 K3 HB hHeld ⊢
   refine pk 0 24 1 ?_
   refine pk 2 26 5 ?_
   refine pk 5 29 37 ?_
   refine pk 7 31 165 ?_
   refine tk 1 25 167 hHeld ?_
   refine tk 3 27 175 hHeld ?_
   refine tk 6 30 239 hHeld ?_
   refine tk 8 32 495 hHeld ?_
   refine on 4 (some 28) 511 fun K hK => ?_
   refine goes_ Try.func69 (by kernel_rfl) rfl #[.int .i64 a0_0, .int .i64 a1_0] (by rfl) rfl rfl mz ?_
   with_reducible refine (spec_l8Max.calls _ _ _ _ A1.out).mono ?_
   rintro e w' ⟨rfl, ⟨nd, rfl⟩⟩
   refine ⟨_, rfl, ?_⟩
   refine kk hK ⟨bc K1 0, bc K1 1, bc K2 0, bc K2 1⟩ fun hHeld => ?_
   clear hK K
   refine on 9 (some 33) 1023 fun K hK => ?_
   refine goes_ Try.func68 (by kernel_rfl) rfl #[.int .i64 a0_1, .int .i64 a1_1] (by rfl) rfl rfl mz ?_
   with_reducible refine (spec_l8Min.calls _ _ _ _ A2.out).mono ?_
   rintro e w' ⟨rfl, ⟨nd, rfl⟩⟩
   refine ⟨_, rfl, ?_⟩
   refine kk hK ⟨bc K1 0, bc K1 1, bc K2 0, bc K2 1⟩ fun hHeld => ?_
   clear hK K
   refine on 10 (some 34) 2047 fun K hK => ?_
   refine gq Try.func44 (spec_l8Cut.calls _ _ _ _ _ A3.out) fun w6 hb => ?_
   obtain ⟨K1, K2, K3, HB⟩ := bk3 K1 K2 K3 HB hb
   clear hb
   refine kk hK ⟨bc K1 0, bc K1 1, bc K2 0, bc K2 1⟩ fun hHeld => ?_
   clear hK K
   refine on 11 none 4095 fun K hK => ?_
   have s1 : w6.cell? ⟨g3, 0, none⟩ = some (.int .i64 0) := bc K3 0
   have hfs39 := blk_frozen K3.out 0
   have z_ := ns4 N3 N5 N4 N6
   have s2 : w6.cell? ⟨g3, 1, none⟩ = some (.int .i64 0) := bc K3 1
   have hfs40 := blk_frozen K3.out 1
   have z_ := ns4 N3 N5 N4 N6
   refine skip_ (w1 := ?_) (by rfl) rfl ?_ ?_
   rotate_left
   ·go_simp
    rfl
   refine hK.out _ _ ⟨((cell_far (p := ⟨g3, _, none⟩) N3.out _).trans (((cell_far (p := ⟨g3, _, none⟩) N3.out _).trans (hHeld.1)))), ((cell_far (p := ⟨g3, _, none⟩) N3.out _).trans (((cell_far (p := ⟨g3, _, none⟩) N3.out _).trans (hHeld.2.1)))), ((cell_far (p := ⟨g3, _, none⟩) N5.out _).trans (((cell_far (p := ⟨g3, _, none⟩) N5.out _).trans (hHeld.2.2.1)))), ((cell_far (p := ⟨g3, _, none⟩) N5.out _).trans (((cell_far (p := ⟨g3, _, none⟩) N5.out _).trans (hHeld.2.2.2))))⟩ (fun hHeld => ?_)
   clear hK K
   refine done_ (done_of HT_.out (by kernel_rfl)) ?_
   try go_wp2
   refine bodyPost_ret (results_cell_row rfl _ _ g3 24 #[.int .i64 t5, .int .i64 t6] (0, 0) _ rfl (by refine pf ?_; refine blk_put (cs := #[.int .i64 t5, .int .i64 0]) ?_ 1 _ rfl; refine pf ?_; refine blk_put (cs := #[.int .i64 0, .int .i64 0]) ?_ 0 _ rfl; exact Z K3) Try.underlying24 rfl (by kernel_rfl)) rfl ?_
   exact ⟨ez, YA HB⟩

end Go.Proofs.Ythbkakcchgnhpaa.PFnRangeMore
