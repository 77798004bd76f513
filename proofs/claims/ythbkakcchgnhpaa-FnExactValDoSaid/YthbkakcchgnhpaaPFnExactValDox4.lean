/- Written by this session's own driver (wip/dprint.py): the functions that the law FnExactValDo reaches, as Lean functions, each with its contract. -/
import Derived.Test.YthbkakcchgnhpaaPFnExactValDox0
import Derived.Test.YthbkakcchgnhpaaPFnExactValDox1
import Derived.Test.YthbkakcchgnhpaaPFnExactValDox3
import Derived.Test.YthbkakcchgnhpaaSv
namespace Go.Proofs.Ythbkakcchgnhpaa.PFnExactValDo
open Go.RowKit Go.Proofs.YthbkakcchgnhpaaV.PrintWords Go.Proofs.YthbkakcchgnhpaaV.PrintLast Go.Proofs.YthbkakcchgnhpaaV.PrintMore Go.Proofs.YthbkakcchgnhpaaSv
set_option linter.unusedVariables false
set_option linter.unusedSimpArgs false
section
attribute [local go_sem] max2_int min2_int max_two min_two max_three min_three max_four min_four
attribute [local go_sem high] eqA50
attribute [local go_sem] Go.Proofs.YthbkakcchgnhpaaSet.isSome_setCell
def spec_ValOk.f (k : Nat) (a0_0 : Int) (a0_1 : Int) (a0_2 : Int) (a0_3 : Int) : Option (Bool) := (spec_l10None.f).bind fun u1 => (if (a0_0 == u1.1 && (a0_1 == u1.2.1 && (a0_2 == u1.2.2.1 && (a0_3 == u1.2.2.2)))) = true then (some true) else ((spec_l10Range.f a0_0 a0_1 a0_2 a0_3).bind fun u2 => ((spec_RangeOk.f u2.1 u2.2).bind fun t1 => (if t1 = true then ((spec_l10Rest.f a0_0 a0_1 a0_2 a0_3).bind fun u3 => ((spec_RestOk.f u3.1 u3.2).bind fun t2 => (if t2 = true then ((spec_l10Range.f a0_0 a0_1 a0_2 a0_3).bind fun u4 => ((spec_l10Rest.f a0_0 a0_1 a0_2 a0_3).bind fun u5 => ((spec_ValMake.f k u4.1 u4.2 u5.1 u5.2).bind fun u6 => (some (a0_0 == u6.1 && (a0_1 == u6.2.1 && (a0_2 == u6.2.2.1 && (a0_3 == u6.2.2.2)))))))) else (some false)))) else (some false)))))
theorem spec_ValOk.mono : ∀ a0 a1 a2 a3 k, LeO (spec_ValOk.f k a0 a1 a2 a3) (spec_ValOk.f (k + 1) a0 a1 a2 a3) := by
 intro a0 a1 a2 a3 k
 unfold spec_ValOk.f
 repeat' first | (with_reducible first | apply spec_ValMake.mono | apply LeO.refl | apply LeO.none | refine LeO.ite ?_ ?_ | refine LeO.bind ?_ (fun _ => ?_)) | apply spec_ValMake.mono | apply LeO.none | refine LeO.ite ?_ ?_ | refine LeO.bind ?_ (fun _ => ?_)
def spec_ValOk.T1 : Bool × List (List Nat × List Nat) := (true, [([], []), ([], []), ([0, 1], [0, 1]), ([2, 1], [2]), ([3], [3]), ([4, 3, 3], [3, 4]), ([5, 5, 3], [3, 5]), ([6, 6, 3], [3, 6]), ([7], [7]), ([8, 7, 7], [7, 8]), ([9, 9, 7], [7, 9]), ([7, 10, 3], [3, 7, 10]), ([11, 10, 3], [3, 11]), ([12], [12]), ([12], [12]), ([14, 12, 12], [12, 14]), ([12], [12]), ([16, 15, 12], [12, 16]), ([15, 17, 17, 12], [12, 15, 17]), ([13, 18, 12], [12, 13, 18]), ([12, 19, 3], [3, 12, 19]), ([3, 20], [3, 20]), ([21, 18, 0, 1, 2, 3, 4, 5, 6, 7, 8, 9, 10, 11, 12, 13, 14, 15, 16, 17, 18, 19, 20, 21], [21])])
def spec_ValOk.B1 : List Nat := [0, 0, 3, 7, 15, 31, 63, 127, 255, 511, 1023, 2047, 4095, 8191, 8191, 24575, 8191, 122879, 253951, 524287, 1048575, 2097151, 4194303]
theorem spec_ValOk.tab1 : rtab .any (opsOf Try.f70 1) = spec_ValOk.T1 := by kernel_rfl
theorem spec_ValOk.bits1 : waitsOk spec_ValOk.T1.2 spec_ValOk.B1 = true := by kernel_rfl
set_option maxHeartbeats 8000000 in
set_option maxRecDepth 100000 in
theorem spec_ValOk.calls (k : Nat) (a0_0 : Int) (a0_1 : Int) (a0_2 : Int) (a0_3 : Int) (r : Bool) (w : World) (h : spec_ValOk.f k a0_0 a0_1 a0_2 a0_3 = some r) :
  Calls Try.prog 70 #[.agg #[.int .i64 a0_0, .int .i64 a0_1, .int .i64 a0_2, .int .i64 a0_3]] w fun e w' => e = .returned (.bool r) ∧ Below w.heap.size w w' := by
 have hu50 := Try.underlying50
 have HB := am (Below.refl w.heap.size w)
 have H : ((spec_l10None.f).bind fun u1 => (if (a0_0 == u1.1 && (a0_1 == u1.2.1 && (a0_2 == u1.2.2.1 && (a0_3 == u1.2.2.2)))) = true then (some true) else ((spec_l10Range.f a0_0 a0_1 a0_2 a0_3).bind fun u2 => ((spec_RangeOk.f u2.1 u2.2).bind fun t1 => (if t1 = true then ((spec_l10Rest.f a0_0 a0_1 a0_2 a0_3).bind fun u3 => ((spec_RestOk.f u3.1 u3.2).bind fun t2 => (if t2 = true then ((spec_l10Range.f a0_0 a0_1 a0_2 a0_3).bind fun u4 => ((spec_l10Rest.f a0_0 a0_1 a0_2 a0_3).bind fun u5 => ((spec_ValMake.f k u4.1 u4.2 u5.1 u5.2).bind fun u6 => (some (a0_0 == u6.1 && (a0_1 == u6.2.1 && (a0_2 == u6.2.2.1 && (a0_3 == u6.2.2.2)))))))) else (some false)))) else (some false)))))) = some r := h
 clear h
 obtain ⟨⟨t3, t4, t5, t6⟩, A1, H⟩ := bd H
 try dsimp only at H
 by_cases c1 : (a0_0 == t3 && (a0_1 == t4 && (a0_2 == t5 && (a0_3 == t6)))) = true
 ·rw [if_pos c1] at H
  have d1 : (a0_0 == t3 && (a0_1 == t4 && (a0_2 == t5 && (a0_3 == t6)))) = true := c1
  (try (have d2 : decide (a0_0 = t3 && (a0_1 == t4 && (a0_2 == t5 && (a0_3 == t6)))) = true := by simpa using c1))
  (try (have d3 : (a0_0 == t3 && (a0_1 == t4 && (a0_2 == t5 && (a0_3 == t6)))) = true := by simpa using c1))
  clear c1
  obtain rfl := Option.some.inj H
  go_enter Try.func70, Try.ntmps70
  try go_wp2_with (first | ((with_reducible refine gate_dst (N := 1) rfl ?_); refine bxn 1 #[.int .i64 a0_0, .int .i64 a0_1, .int .i64 a0_2, .int .i64 a0_3] 50 HB fun g1 w1 K1 G1 hg hb => ?_; replace HB := am (below_step (YA HB) hb); clear hb hg))
  obtain ⟨K1, HB⟩ := dk1 K1 HB
  refine start_ (n := 23) (S := fun w' => ce4 w' g1 a0_0 a0_1 a0_2 a0_3) (ds := []) (lb 23 0) (by kernel_rfl) rfl rfl (cc4 K1) (fun hHeld => ?_); refine with_tabW spec_ValOk.tab1 spec_ValOk.bits1 (fun HT_ HW_ => ?_)
  generalize w1.drew = w2 at K1 HB hHeld ⊢
  refine tk 0 3 1 hHeld ?_
  refine on 1 (some 4) 3 fun K hK => ?_
  refine ck hK Try.func71 (spec_l10None.calls _ _ _ _ _ A1.out) (fun _ b => bk1 K1 HB b) fun w3 Q_ hHeld => ?_
  clear hK K
  obtain ⟨K1, HB⟩ := Q_
  refine pk 2 5 7 ?_
  refine pk 3 6 15 ?_
  refine uk 4 7 31 ?_
  refine uk 5 8 63 ?_
  refine uk 6 9 127 ?_
  refine uk 7 10 255 ?_
  refine uk 8 11 511 ?_
  refine uk 9 12 1023 ?_
  refine uk 10 13 2047 ?_
  refine uk 11 14 4095 ?_
  refine uk 12 15 8191 ?_
  refine uk 13 16 16383 ?_
  refine uk 14 17 32767 ?_
  refine uk 15 18 65535 ?_
  refine uk 16 19 131071 ?_
  refine uk 17 20 262143 ?_
  refine uk 18 21 524287 ?_
  refine uk 19 22 1048575 ?_
  refine uk 20 23 2097151 ?_
  refine pk 21 24 4194303 ?_
  refine pk 22 2 8388607 ?_
  refine done_ (done_of HT_.out (by kernel_rfl)) ?_
  try go_wp2
  go_ret
  exact ⟨ez, YA HB⟩
 rw [if_neg c1] at H
 have d1 : (a0_0 == t3 && (a0_1 == t4 && (a0_2 == t5 && (a0_3 == t6)))) = false := by simpa using c1
 (try (have d2 : decide (a0_0 = t3 && (a0_1 == t4 && (a0_2 == t5 && (a0_3 == t6)))) = false := by simpa using c1))
 (try (have d3 : (a0_0 == t3 && (a0_1 == t4 && (a0_2 == t5 && (a0_3 == t6)))) = false := by simpa using c1))
 (try (have d4 : ¬ (a0_0 = t3 && (a0_1 == t4 && (a0_2 == t5 && (a0_3 == t6)))) := by simpa using c1))
 clear c1
 obtain ⟨⟨t7, t8⟩, A2, H⟩ := bd H
 try dsimp only at H
 obtain ⟨t1, A3, H⟩ := bd H
 try dsimp only at H
 by_cases c2 : t1 = true
 rotate_left
 ·replace c2 := Bool.eq_false_iff.mpr c2
  subst c2
  rw [if_neg ff] at H
  obtain rfl := Option.some.inj H
  go_enter Try.func70, Try.ntmps70
  try go_wp2_with (first | ((with_reducible refine gate_dst (N := 1) rfl ?_); refine bxn 1 #[.int .i64 a0_0, .int .i64 a0_1, .int .i64 a0_2, .int .i64 a0_3] 50 HB fun g1 w1 K1 G1 hg hb => ?_; replace HB := am (below_step (YA HB) hb); clear hb hg))
  obtain ⟨K1, HB⟩ := dk1 K1 HB
  refine start_ (n := 23) (S := fun w' => ce4 w' g1 a0_0 a0_1 a0_2 a0_3) (ds := []) (lb 23 0) (by kernel_rfl) rfl rfl (cc4 K1) (fun hHeld => ?_); refine with_tabW spec_ValOk.tab1 spec_ValOk.bits1 (fun HT_ HW_ => ?_)
  generalize w1.drew = w2 at K1 HB hHeld ⊢
  refine tk 0 3 1 hHeld ?_
  refine on 1 (some 4) 3 fun K hK => ?_
  refine ck hK Try.func71 (spec_l10None.calls _ _ _ _ _ A1.out) (fun _ b => bk1 K1 HB b) fun w3 Q_ hHeld => ?_
  clear hK K
  obtain ⟨K1, HB⟩ := Q_
  refine pk 2 5 7 ?_
  refine pk 3 6 15 ?_
  refine tk 4 7 31 hHeld ?_
  refine on 5 (some 8) 63 fun K hK => ?_
  refine ck hK Try.func72 (spec_l10Range.calls _ _ _ _ _ _ _ A2.out) (fun _ b => bk1 K1 HB b) fun w4 Q_ hHeld => ?_
  clear hK K
  obtain ⟨K1, HB⟩ := Q_
  refine on 6 (some 9) 127 fun K hK => ?_
  refine ck hK Try.func24 (spec_RangeOk.calls _ _ _ _ A3.out) (fun _ b => bk1 K1 HB b) fun w5 Q_ hHeld => ?_
  clear hK K
  obtain ⟨K1, HB⟩ := Q_
  refine pk 7 10 255 ?_
  refine uk 8 11 511 ?_
  refine uk 9 12 1023 ?_
  refine uk 10 13 2047 ?_
  refine pk 11 14 4095 ?_
  refine pk 12 15 8191 ?_
  refine uk 13 16 16383 ?_
  refine uk 14 17 32767 ?_
  refine uk 15 18 65535 ?_
  refine uk 16 19 131071 ?_
  refine uk 17 20 262143 ?_
  refine uk 18 21 524287 ?_
  refine uk 19 22 1048575 ?_
  refine pk 20 23 2097151 ?_
  refine pk 21 24 4194303 ?_
  refine pk 22 2 8388607 ?_
  refine done_ (done_of HT_.out (by kernel_rfl)) ?_
  try go_wp2
  go_ret
  exact ⟨ez, YA HB⟩
 subst c2
 rw [if_pos rfl] at H
 obtain ⟨⟨t9, t10⟩, A4, H⟩ := bd H
 try dsimp only at H
 obtain ⟨t2, A5, H⟩ := bd H
 try dsimp only at H
 by_cases c3 : t2 = true
 rotate_left
 ·replace c3 := Bool.eq_false_iff.mpr c3
  subst c3
  rw [if_neg ff] at H
  obtain rfl := Option.some.inj H
  go_enter Try.func70, Try.ntmps70
  try go_wp2_with (first | ((with_reducible refine gate_dst (N := 1) rfl ?_); refine bxn 1 #[.int .i64 a0_0, .int .i64 a0_1, .int .i64 a0_2, .int .i64 a0_3] 50 HB fun g1 w1 K1 G1 hg hb => ?_; replace HB := am (below_step (YA HB) hb); clear hb hg))
  obtain ⟨K1, HB⟩ := dk1 K1 HB
  refine start_ (n := 23) (S := fun w' => ce4 w' g1 a0_0 a0_1 a0_2 a0_3) (ds := []) (lb 23 0) (by kernel_rfl) rfl rfl (cc4 K1) (fun hHeld => ?_); refine with_tabW spec_ValOk.tab1 spec_ValOk.bits1 (fun HT_ HW_ => ?_)
  generalize w1.drew = w2 at K1 HB hHeld ⊢
  refine tk 0 3 1 hHeld ?_
  refine on 1 (some 4) 3 fun K hK => ?_
  refine ck hK Try.func71 (spec_l10None.calls _ _ _ _ _ A1.out) (fun _ b => bk1 K1 HB b) fun w3 Q_ hHeld => ?_
  clear hK K
  obtain ⟨K1, HB⟩ := Q_
  refine pk 2 5 7 ?_
  refine pk 3 6 15 ?_
  refine tk 4 7 31 hHeld ?_
  refine on 5 (some 8) 63 fun K hK => ?_
  refine ck hK Try.func72 (spec_l10Range.calls _ _ _ _ _ _ _ A2.out) (fun _ b => bk1 K1 HB b) fun w4 Q_ hHeld => ?_
  clear hK K
  obtain ⟨K1, HB⟩ := Q_
  refine on 6 (some 9) 127 fun K hK => ?_
  refine ck hK Try.func24 (spec_RangeOk.calls _ _ _ _ A3.out) (fun _ b => bk1 K1 HB b) fun w5 Q_ hHeld => ?_
  clear hK K
  obtain ⟨K1, HB⟩ := Q_
  refine pk 7 10 255 ?_
  refine tk 8 11 511 hHeld ?_
  refine on 9 (some 12) 1023 fun K hK => ?_
  refine ck hK Try.func75 (spec_l10Rest.calls _ _ _ _ _ _ _ A4.out) (fun _ b => bk1 K1 HB b) fun w6 Q_ hHeld => ?_
  clear hK K
  obtain ⟨K1, HB⟩ := Q_
  refine on 10 (some 13) 2047 fun K hK => ?_
  refine ck hK Try.func102 (spec_RestOk.calls _ _ _ _ A5.out) (fun _ b => bk1 K1 HB b) fun w7 Q_ hHeld => ?_
  clear hK K
  obtain ⟨K1, HB⟩ := Q_
  refine pk 11 14 4095 ?_
  refine pk 12 15 8191 ?_
  refine uk 13 16 16383 ?_
  refine uk 14 17 32767 ?_
  refine uk 15 18 65535 ?_
  refine uk 16 19 131071 ?_
  refine uk 17 20 262143 ?_
  refine uk 18 21 524287 ?_
  refine uk 19 22 1048575 ?_
  refine pk 20 23 2097151 ?_
  refine pk 21 24 4194303 ?_
  refine pk 22 2 8388607 ?_
  refine done_ (done_of HT_.out (by kernel_rfl)) ?_
  try go_wp2
  go_ret
  exact ⟨ez, YA HB⟩
 subst c3
 rw [if_pos rfl] at H
 obtain ⟨⟨t11, t12⟩, A6, H⟩ := bd H
 try dsimp only at H
 obtain ⟨⟨t13, t14⟩, A7, H⟩ := bd H
 try dsimp only at H
 obtain ⟨⟨t15, t16, t17, t18⟩, A8, H⟩ := bd H
 try dsimp only at H
 obtain rfl := Option.some.inj H
 go_enter Try.func70, Try.ntmps70
 try go_wp2_with (first | ((with_reducible refine gate_dst (N := 1) rfl ?_); refine bxn 1 #[.int .i64 a0_0, .int .i64 a0_1, .int .i64 a0_2, .int .i64 a0_3] 50 HB fun g1 w1 K1 G1 hg hb => ?_; replace HB := am (below_step (YA HB) hb); clear hb hg))
 obtain ⟨K1, HB⟩ := dk1 K1 HB
 refine start_ (n := 23) (S := fun w' => ce4 w' g1 a0_0 a0_1 a0_2 a0_3) (ds := []) (lb 23 0) (by kernel_rfl) rfl rfl (cc4 K1) (fun hHeld => ?_); refine with_tabW spec_ValOk.tab1 spec_ValOk.bits1 (fun HT_ HW_ => ?_)
 generalize w1.drew = w2 at K1 HB hHeld ⊢
 refine tk 0 3 1 hHeld ?_
 refine on 1 (some 4) 3 fun K hK => ?_
 refine ck hK Try.func71 (spec_l10None.calls _ _ _ _ _ A1.out) (fun _ b => bk1 K1 HB b) fun w3 Q_ hHeld => ?_
 clear hK K
 obtain ⟨K1, HB⟩ := Q_
 refine pk 2 5 7 ?_
 refine pk 3 6 15 ?_
 refine tk 4 7 31 hHeld ?_
 refine on 5 (some 8) 63 fun K hK => ?_
 refine ck hK Try.func72 (spec_l10Range.calls _ _ _ _ _ _ _ A2.out) (fun _ b => bk1 K1 HB b) fun w4 Q_ hHeld => ?_
 clear hK K
 obtain ⟨K1, HB⟩ := Q_
 refine on 6 (some 9) 127 fun K hK => ?_
 refine ck hK Try.func24 (spec_RangeOk.calls _ _ _ _ A3.out) (fun _ b => bk1 K1 HB b) fun w5 Q_ hHeld => ?_
 clear hK K
 obtain ⟨K1, HB⟩ := Q_
 refine pk 7 10 255 ?_
 refine tk 8 11 511 hHeld ?_
 refine on 9 (some 12) 1023 fun K hK => ?_
 refine ck hK Try.func75 (spec_l10Rest.calls _ _ _ _ _ _ _ A4.out) (fun _ b => bk1 K1 HB b) fun w6 Q_ hHeld => ?_
 clear hK K
 obtain ⟨K1, HB⟩ := Q_
 refine on 10 (some 13) 2047 fun K hK => ?_
 refine ck hK Try.func102 (spec_RestOk.calls _ _ _ _ A5.out) (fun _ b => bk1 K1 HB b) fun w7 Q_ hHeld => ?_
 clear hK K
 obtain ⟨K1, HB⟩ := Q_
 refine pk 11 14 4095 ?_
 refine pk 12 15 8191 ?_
 refine tk 13 16 16383 hHeld ?_
 refine tk 14 17 32767 hHeld ?_
 refine tk 16 19 98303 hHeld ?_
 refine on 15 (some 18) 131071 fun K hK => ?_
 refine ck hK Try.func72 (spec_l10Range.calls _ _ _ _ _ _ _ A6.out) (fun _ b => bk1 K1 HB b) fun w8 Q_ hHeld => ?_
 clear hK K
 obtain ⟨K1, HB⟩ := Q_
 refine on 17 (some 20) 262143 fun K hK => ?_
 refine ck hK Try.func75 (spec_l10Rest.calls _ _ _ _ _ _ _ A7.out) (fun _ b => bk1 K1 HB b) fun w9 Q_ hHeld => ?_
 clear hK K
 obtain ⟨K1, HB⟩ := Q_
 refine on 18 (some 21) 524287 fun K hK => ?_
 refine ck hK Try.func73 (spec_ValMake.calls _ _ _ _ _ _ _ _ _ _ A8.out) (fun _ b => bk1 K1 HB b) fun w10 Q_ hHeld => ?_
 clear hK K
 obtain ⟨K1, HB⟩ := Q_
 refine pk 19 22 1048575 ?_
 refine pk 20 23 2097151 ?_
 refine pk 21 24 4194303 ?_
 refine pk 22 2 8388607 ?_
 refine done_ (done_of HT_.out (by kernel_rfl)) ?_
 try go_wp2
 go_ret
 exact ⟨ez, YA HB⟩
end
section
attribute [local go_sem] max2_int min2_int max_two min_two max_three min_three max_four min_four
attribute [local go_sem] Go.Proofs.YthbkakcchgnhpaaSet.isSome_setCell
mutual
def spec_NumDo.j0 : Nat → Int → Int → Int → Bool → Option (Int × Int)
 | 0, _, _, _, _ => none
 | k + 1, x1, x2, x3, x4 => if x4 = true then (some (0, 0)) else (if x1 = 4 then (spec_NumDo.j1 k x1 x2 x3 (x3 == 0)) else (if x1 = 5 then (spec_NumDo.j1 k x1 x2 x3 (x3 == 0)) else (spec_NumDo.j1 k x1 x2 x3 false)))
def spec_NumDo.j1 : Nat → Int → Int → Int → Bool → Option (Int × Int)
 | 0, _, _, _, _ => none
 | k + 1, x1, x2, x3, x4 => if x4 = true then (some (0, 2)) else (if x1 = 9 then ((spec_l1In.f x3 0 31).bind fun t1 => (spec_NumDo.j2 k x1 x2 x3 (!t1))) else (if x1 = 10 then ((spec_l1In.f x3 0 31).bind fun t2 => (spec_NumDo.j2 k x1 x2 x3 (!t2))) else (spec_NumDo.j2 k x1 x2 x3 false)))
def spec_NumDo.j2 : Nat → Int → Int → Int → Bool → Option (Int × Int)
 | 0, _, _, _, _ => none
 | k + 1, x1, x2, x3, x4 => if x4 = true then (some (0, 3)) else ((spec_l1Exact.f k x1 x2 x3).bind fun t1 => (if x1 ≥ 11 then ((spec_NumWrap.f t1).bind fun t2 => (some (t2, 0))) else ((spec_NumOk.f t1).bind fun t3 => (if t3 = true then (some (t1, 0)) else (some (0, 1))))))
end
def spec_NumDo.f (k : Nat) (a0 : Int) (a1 : Int) (a2 : Int) : Option (Int × Int) := (spec_l1In.f a0 1 13).bind fun t1 => (if t1 = true then ((spec_NumOk.f a1).bind fun t2 => (if t2 = true then ((spec_NumOk.f a2).bind fun t3 => (spec_NumDo.j0 k a0 a1 a2 (!t3))) else (spec_NumDo.j0 k a0 a1 a2 true))) else (spec_NumDo.j0 k a0 a1 a2 true))
theorem spec_NumDo.mono_l : ∀ k, (∀ y0 y1 y2 y3, LeO (spec_NumDo.j0 k y0 y1 y2 y3) (spec_NumDo.j0 (k + 1) y0 y1 y2 y3)) ∧ (∀ y0 y1 y2 y3, LeO (spec_NumDo.j1 k y0 y1 y2 y3) (spec_NumDo.j1 (k + 1) y0 y1 y2 y3)) ∧ (∀ y0 y1 y2 y3, LeO (spec_NumDo.j2 k y0 y1 y2 y3) (spec_NumDo.j2 (k + 1) y0 y1 y2 y3))
 | 0 => ⟨fun _ _ _ _ r h => by simp [spec_NumDo.j0] at h, fun _ _ _ _ r h => by simp [spec_NumDo.j1] at h, fun _ _ _ _ r h => by simp [spec_NumDo.j2] at h⟩
 | k + 1 => by
  obtain ⟨ih0, ih1, ih2⟩ := spec_NumDo.mono_l k
  refine ⟨?_, ?_, ?_⟩ <;> (intros; (first | unfold spec_NumDo.j0 | unfold spec_NumDo.j1 | unfold spec_NumDo.j2); repeat' first | (with_reducible first | apply ih0 | apply ih1 | apply ih2 | apply spec_l1Exact.mono | apply LeO.refl | apply LeO.none | refine LeO.ite ?_ ?_ | refine LeO.bind ?_ (fun _ => ?_)) | apply ih0 | apply ih1 | apply ih2 | apply spec_l1Exact.mono | apply LeO.none | refine LeO.ite ?_ ?_ | refine LeO.bind ?_ (fun _ => ?_))
theorem spec_NumDo.mono : ∀ a0 a1 a2 k, LeO (spec_NumDo.f k a0 a1 a2) (spec_NumDo.f (k + 1) a0 a1 a2) := by
 intro a0 a1 a2 k
 obtain ⟨ih0, ih1, ih2⟩ := spec_NumDo.mono_l k
 unfold spec_NumDo.f
 repeat' first | (with_reducible first | apply ih0 | apply ih1 | apply ih2 | apply spec_l1Exact.mono | apply LeO.refl | apply LeO.none | refine LeO.ite ?_ ?_ | refine LeO.bind ?_ (fun _ => ?_)) | apply ih0 | apply ih1 | apply ih2 | apply spec_l1Exact.mono | apply LeO.none | refine LeO.ite ?_ ?_ | refine LeO.bind ?_ (fun _ => ?_)
set_option maxHeartbeats 8000000 in
set_option maxRecDepth 100000 in
theorem spec_NumDo.calls (k : Nat) (a0 : Int) (a1 : Int) (a2 : Int) (r1 : Int) (r2 : Int) (w : World) (h : spec_NumDo.f k a0 a1 a2 = some (r1, r2)) :
  Calls Try.prog 18 #[.int .i64 a0, .int .i64 a1, .int .i64 a2] w fun e w' => e = .returned (.tuple #[.int .i64 r1, .int .i64 r2]) ∧ Drawn0 w w' := by
 have H : ((spec_l1In.f a0 1 13).bind fun t1 => (if t1 = true then ((spec_NumOk.f a1).bind fun t2 => (if t2 = true then ((spec_NumOk.f a2).bind fun t3 => (spec_NumDo.j0 k a0 a1 a2 (!t3))) else (spec_NumDo.j0 k a0 a1 a2 true))) else (spec_NumDo.j0 k a0 a1 a2 true))) = some (r1, r2) := h
 clear h
 have C1 := am H
 clear H
 go_enter Try.func18, Try.ntmps18
 go_upto_region 1 with (fail)
 go_cut [21] (fun v1 wc => ∃ (kq : Nat) (x1 : Bool), v1 = .bool x1 ∧ Aside0 (spec_NumDo.j0 kq a0 a1 a2 x1 = some (r1, r2)) ∧ Aside0 (kq ≤ k) ∧ Drawn0 w wc)
 case first =>
  have H := C1.out
  clear C1
  obtain ⟨t1, A1, H⟩ := bd H
  try dsimp only at H
  by_cases c1 : t1 = true
  rotate_left
  ·replace c1 := Bool.eq_false_iff.mpr c1
   subst c1
   rw [if_neg ff] at H
   have H' := am H
   clear H
   go_wp2_with (first | ((with_reducible refine gate_callee (f := 37) rfl ?_); refine goesL_ (some 10) rfl rfl Try.func37 (by kernel_rfl) rfl #[.int .i64 a0, .int .i64 1, .int .i64 13] rfl mz ?_; (with_reducible refine (spec_l1In.calls _ _ _ _ _ A1.out).mono ?_); rintro e w' ⟨rfl, ⟨nd, rfl⟩⟩; refine ⟨_, rfl, ?_⟩))
   go_meet
   case rel => exact ⟨_, (true), ey, H', le0, by repeat (first | exact Drawn0.refl _ | apply Drawn0.step)⟩
  subst c1
  rw [if_pos rfl] at H
  obtain ⟨t2, A2, H⟩ := bd H
  try dsimp only at H
  by_cases c2 : t2 = true
  rotate_left
  ·replace c2 := Bool.eq_false_iff.mpr c2
   subst c2
   rw [if_neg ff] at H
   have H' := am H
   clear H
   go_wp2_with (first | ((with_reducible refine gate_callee (f := 37) rfl ?_); refine goesL_ (some 10) rfl rfl Try.func37 (by kernel_rfl) rfl #[.int .i64 a0, .int .i64 1, .int .i64 13] rfl mz ?_; (with_reducible refine (spec_l1In.calls _ _ _ _ _ A1.out).mono ?_); rintro e w' ⟨rfl, ⟨nd, rfl⟩⟩; refine ⟨_, rfl, ?_⟩) | (go_at_call 19; (with_reducible refine (spec_NumOk.calls _ _ _ A2.out).mono ?_); rintro e w' ⟨rfl, ⟨nd, rfl⟩⟩))
   go_meet
   case rel => exact ⟨_, (true), ey, H', le0, by repeat (first | exact Drawn0.refl _ | apply Drawn0.step)⟩
  subst c2
  rw [if_pos rfl] at H
  obtain ⟨t3, A3, H⟩ := bd H
  try dsimp only at H
  have H' := am H
  clear H
  go_wp2_with (first | ((with_reducible refine gate_callee (f := 37) rfl ?_); refine goesL_ (some 10) rfl rfl Try.func37 (by kernel_rfl) rfl #[.int .i64 a0, .int .i64 1, .int .i64 13] rfl mz ?_; (with_reducible refine (spec_l1In.calls _ _ _ _ _ A1.out).mono ?_); rintro e w' ⟨rfl, ⟨nd, rfl⟩⟩; refine ⟨_, rfl, ?_⟩) | (go_at_call 19; (with_reducible refine (spec_NumOk.calls _ _ _ A2.out).mono ?_); rintro e w' ⟨rfl, ⟨nd, rfl⟩⟩) | (go_at_call 19; (with_reducible refine (spec_NumOk.calls _ _ _ A3.out).mono ?_); rintro e w' ⟨rfl, ⟨nd, rfl⟩⟩))
  go_meet
  case rel => exact ⟨_, (!t3), ey, H', le0, by repeat (first | exact Drawn0.refl _ | apply Drawn0.step)⟩
 case rest =>
  clear C1
  obtain ⟨kq, x1, rfl, HA, J1, ⟨mc3, rfl⟩⟩ := hcut
  cases kq with
  | zero => exact absurd HA.out (by simp [spec_NumDo.j0])
  | succ k1 =>
   have H := HA.out
   clear HA
   simp only [spec_NumDo.j0] at H
   by_cases c1 : x1 = true
   ·subst c1
    rw [if_pos rfl] at H
    simp only [Option.some.injEq, Prod.mk.injEq] at H
    obtain ⟨rfl, rfl⟩ := H
    go_wp2
    go_ret2
    exact ⟨by first | rfl | (simp; done) | (simp [*]; done), by repeat (first | exact Drawn0.refl _ | apply Drawn0.step)⟩
   replace c1 := Bool.eq_false_iff.mpr c1
   subst c1
   rw [if_neg ff] at H
   have C2 := am H
   clear H
   go_upto_region 3 with (fail)
   go_cut [31] (fun v2 wc => ∃ (kq : Nat) (x2 : Bool), v2 = .bool x2 ∧ Aside0 (spec_NumDo.j1 kq a0 a1 a2 x2 = some (r1, r2)) ∧ Aside0 (kq ≤ k1) ∧ Drawn0 w wc)
   case first =>
    have H := C2.out
    clear C2
    by_cases c2 : a0 = 4
    ·rw [if_pos c2] at H
     have d1 := eT c2
     have d2 := nF c2
     clear c2
     (first | rw [d1] | (simp only [i64_w, i32_w]; rw [d1]) | skip)
     have H' := am H
     clear H
     go_wp2
     go_meet
     case rel => exact ⟨_, ((a2 == 0)), ey, H', le1 J1, by repeat (first | exact Drawn0.refl _ | apply Drawn0.step)⟩
    rw [if_neg c2] at H
    have d1 := eF c2
    have d2 := nT c2
    (first | rw [d1] | (simp only [i64_w, i32_w]; rw [d1]) | skip)
    by_cases c3 : a0 = 5
    rotate_left
    ·rw [if_neg c3] at H
     have d3 := eF c3
     have d4 := nT c3
     have H' := am H
     clear H
     go_wp2
     go_meet
     case rel => exact ⟨_, (false), ey, H', le1 J1, by repeat (first | exact Drawn0.refl _ | apply Drawn0.step)⟩
    rw [if_pos c3] at H
    have d3 := eT c3
    have d4 := nF c3
    clear c3
    have H' := am H
    clear H
    go_wp2
    go_meet
    case rel => exact ⟨_, ((a2 == 0)), ey, H', le1 J1, by repeat (first | exact Drawn0.refl _ | apply Drawn0.step)⟩
   case rest =>
    clear C2
    try clear c1
    obtain ⟨kq, x2, rfl, HA, J2, ⟨mc10, rfl⟩⟩ := hcut
    cases kq with
    | zero => exact absurd HA.out (by simp [spec_NumDo.j1])
    | succ k2 =>
     have H := HA.out
     clear HA
     simp only [spec_NumDo.j1] at H
     by_cases c2 : x2 = true
     ·subst c2
      rw [if_pos rfl] at H
      simp only [Option.some.injEq, Prod.mk.injEq] at H
      obtain ⟨rfl, rfl⟩ := H
      go_wp2
      go_ret2
      exact ⟨by first | rfl | (simp; done) | (simp [*]; done), by repeat (first | exact Drawn0.refl _ | apply Drawn0.step)⟩
     replace c2 := Bool.eq_false_iff.mpr c2
     subst c2
     rw [if_neg ff] at H
     have C3 := am H
     clear H
     go_upto_region 5 with (fail)
     go_cut [42] (fun v3 wc => ∃ (kq : Nat) (x3 : Bool), v3 = .bool x3 ∧ Aside0 (spec_NumDo.j2 kq a0 a1 a2 x3 = some (r1, r2)) ∧ Aside0 (kq ≤ k2) ∧ Drawn0 w wc)
     case first =>
      have H := C3.out
      clear C3
      by_cases c3 : a0 = 9
      ·rw [if_pos c3] at H
       have d1 := eT c3
       have d2 := nF c3
       clear c3
       (first | rw [d1] | (simp only [i64_w, i32_w]; rw [d1]) | skip)
       obtain ⟨t4, A1, H⟩ := bd H
       try dsimp only at H
       have H' := am H
       clear H
       go_wp2_with (first | (go_at_call 37; (with_reducible refine (spec_l1In.calls _ _ _ _ _ A1.out).mono ?_); rintro e w' ⟨rfl, ⟨nd, rfl⟩⟩))
       go_meet
       case rel => exact ⟨_, (!t4), ey, H', ⟨by have := J1.out; have := J2.out; first | omega | exact Nat.le_refl _⟩, by repeat (first | exact Drawn0.refl _ | apply Drawn0.step)⟩
      rw [if_neg c3] at H
      have d1 := eF c3
      have d2 := nT c3
      (first | rw [d1] | (simp only [i64_w, i32_w]; rw [d1]) | skip)
      by_cases c4 : a0 = 10
      rotate_left
      ·rw [if_neg c4] at H
       have d3 := eF c4
       have d4 := nT c4
       have H' := am H
       clear H
       go_wp2
       go_meet
       case rel => exact ⟨_, (false), ey, H', ⟨by have := J1.out; have := J2.out; first | omega | exact Nat.le_refl _⟩, by repeat (first | exact Drawn0.refl _ | apply Drawn0.step)⟩
      rw [if_pos c4] at H
      have d3 := eT c4
      have d4 := nF c4
      clear c4
      obtain ⟨t4, A1, H⟩ := bd H
      try dsimp only at H
      have H' := am H
      clear H
      go_wp2_with (first | (go_at_call 37; (with_reducible refine (spec_l1In.calls _ _ _ _ _ A1.out).mono ?_); rintro e w' ⟨rfl, ⟨nd, rfl⟩⟩))
      go_meet
      case rel => exact ⟨_, (!t4), ey, H', ⟨by have := J1.out; have := J2.out; first | omega | exact Nat.le_refl _⟩, by repeat (first | exact Drawn0.refl _ | apply Drawn0.step)⟩
     case rest =>
      clear C3
      try clear c2
      obtain ⟨kq, x3, rfl, HA, J3, ⟨mc14, rfl⟩⟩ := hcut
      cases kq with
      | zero => exact absurd HA.out (by simp [spec_NumDo.j2])
      | succ k3 =>
       have H := HA.out
       clear HA
       simp only [spec_NumDo.j2] at H
       by_cases c3 : x3 = true
       ·subst c3
        rw [if_pos rfl] at H
        simp only [Option.some.injEq, Prod.mk.injEq] at H
        obtain ⟨rfl, rfl⟩ := H
        go_wp2
        go_ret2
        exact ⟨by first | rfl | (simp; done) | (simp [*]; done), by repeat (first | exact Drawn0.refl _ | apply Drawn0.step)⟩
       replace c3 := Bool.eq_false_iff.mpr c3
       subst c3
       rw [if_neg ff] at H
       obtain ⟨t4, A1, H⟩ := bd H
       try dsimp only at H
       by_cases c4 : a0 ≥ 11
       ·rw [if_pos c4] at H
        have d1 := dT c4
        clear c4
        obtain ⟨t5, A2, H⟩ := bd H
        try dsimp only at H
        simp only [Option.some.injEq, Prod.mk.injEq] at H
        obtain ⟨rfl, rfl⟩ := H
        go_wp2_with (first | ((with_reducible refine gate_callee (f := 63) rfl ?_); refine goesL_ (some 46) rfl rfl Try.func63 (by kernel_rfl) rfl #[.int .i64 a0, .int .i64 a1, .int .i64 a2] rfl mz ?_; (with_reducible refine (spec_l1Exact.calls _ _ _ _ _ _ A1.out).mono ?_); rintro e w' ⟨rfl, ⟨nd, rfl⟩⟩; refine ⟨_, rfl, ?_⟩) | ((with_reducible refine gate_callee (f := 64) rfl ?_); refine goesL_ (some 50) rfl rfl Try.func64 (by kernel_rfl) rfl #[.int .i64 t4] rfl mz ?_; (with_reducible refine (spec_NumWrap.calls _ _ _ A2.out).mono ?_); rintro e w' ⟨rfl, ⟨nd, rfl⟩⟩; refine ⟨_, rfl, ?_⟩))
        go_ret2
        exact ⟨by first | rfl | (simp; done) | (simp [*]; done), by repeat (first | exact Drawn0.refl _ | apply Drawn0.step)⟩
       rw [if_neg c4] at H
       have d1 := dF c4
       clear c4
       obtain ⟨t5, A2, H⟩ := bd H
       try dsimp only at H
       by_cases c5 : t5 = true
       ·subst c5
        rw [if_pos rfl] at H
        simp only [Option.some.injEq, Prod.mk.injEq] at H
        obtain ⟨rfl, rfl⟩ := H
        go_wp2_with (first | ((with_reducible refine gate_callee (f := 63) rfl ?_); refine goesL_ (some 46) rfl rfl Try.func63 (by kernel_rfl) rfl #[.int .i64 a0, .int .i64 a1, .int .i64 a2] rfl mz ?_; (with_reducible refine (spec_l1Exact.calls _ _ _ _ _ _ A1.out).mono ?_); rintro e w' ⟨rfl, ⟨nd, rfl⟩⟩; refine ⟨_, rfl, ?_⟩) | ((with_reducible refine gate_callee (f := 19) rfl ?_); refine goesL_ (some 52) rfl rfl Try.func19 (by kernel_rfl) rfl #[.int .i64 t4] rfl mz ?_; (with_reducible refine (spec_NumOk.calls _ _ _ A2.out).mono ?_); rintro e w' ⟨rfl, ⟨nd, rfl⟩⟩; refine ⟨_, rfl, ?_⟩))
        go_ret2
        exact ⟨by first | rfl | (simp; done) | (simp [*]; done), by repeat (first | exact Drawn0.refl _ | apply Drawn0.step)⟩
       replace c5 := Bool.eq_false_iff.mpr c5
       subst c5
       rw [if_neg ff] at H
       simp only [Option.some.injEq, Prod.mk.injEq] at H
       obtain ⟨rfl, rfl⟩ := H
       go_wp2_with (first | ((with_reducible refine gate_callee (f := 63) rfl ?_); refine goesL_ (some 46) rfl rfl Try.func63 (by kernel_rfl) rfl #[.int .i64 a0, .int .i64 a1, .int .i64 a2] rfl mz ?_; (with_reducible refine (spec_l1Exact.calls _ _ _ _ _ _ A1.out).mono ?_); rintro e w' ⟨rfl, ⟨nd, rfl⟩⟩; refine ⟨_, rfl, ?_⟩) | ((with_reducible refine gate_callee (f := 19) rfl ?_); refine goesL_ (some 52) rfl rfl Try.func19 (by kernel_rfl) rfl #[.int .i64 t4] rfl mz ?_; (with_reducible refine (spec_NumOk.calls _ _ _ A2.out).mono ?_); rintro e w' ⟨rfl, ⟨nd, rfl⟩⟩; refine ⟨_, rfl, ?_⟩))
       go_ret2
       exact ⟨by first | rfl | (simp; done) | (simp [*]; done), by repeat (first | exact Drawn0.refl _ | apply Drawn0.step)⟩

def spec_l9All.f  : Option (Int × Int) := some (1, 0)
set_option maxHeartbeats 8000000 in
set_option maxRecDepth 100000 in
theorem spec_l9All.calls  (r1 : Int) (r2 : Int) (w : World) (h : spec_l9All.f  = some (r1, r2)) :
  Calls Try.prog 104 #[] w fun e w' => e = .returned (.agg #[.int .i64 r1, .int .i64 r2]) ∧ Below w.heap.size w w' := by
 have hu86 := Try.underlying86
 have HB := am (Below.refl w.heap.size w)
 have H : (some (1, 0)) = some (r1, r2) := h
 clear h
 simp only [Option.some.injEq, Prod.mk.injEq] at H
 obtain ⟨rfl, rfl⟩ := H
 go_enter Try.func104, Try.ntmps104
 go_wp2_with (first | ((with_reducible refine gate_dst (N := 0) rfl ?_); refine bxn 0 #[.int .i64 0, .int .i64 0] 86 HB fun g1 w1 K1 G1 hg hb => ?_; replace HB := am (below_step (YA HB) hb); clear hb hg; have z_ := cB2 K1))
 refine bodyPost_ret (results_cell_row rfl _ _ g1 86 #[.int .i64 1, .int .i64 0] (0, 0) _ rfl (by refine pf ?_; refine blk_put (cs := #[.int .i64 1, .int .i64 0]) ?_ 1 _ rfl; refine pf ?_; refine blk_put (cs := #[.int .i64 0, .int .i64 0]) ?_ 0 _ rfl; exact Z K1) Try.underlying86 rfl (by kernel_rfl)) rfl ?_
 exact ⟨ez, YA HB⟩

def spec_l9Wraps.f (a0 : Int) : Option (Int) := if a0 ≥ 11 then (some 4294967296) else (some 0)
set_option maxHeartbeats 8000000 in
set_option maxRecDepth 100000 in
theorem spec_l9Wraps.calls (a0 : Int) (r : Int) (w : World) (h : spec_l9Wraps.f a0 = some r) :
  Calls Try.prog 105 #[.int .i64 a0] w fun e w' => e = .returned (.int .i64 r) ∧ Drawn0 w w' := by
 have H : (if a0 ≥ 11 then (some 4294967296) else (some 0)) = some r := h
 clear h
 by_cases c1 : a0 ≥ 11
 ·rw [if_pos c1] at H
  have d1 := dT c1
  clear c1
  obtain rfl := Option.some.inj H
  go_enter Try.func105, Try.ntmps105
  go_wp2
  go_ret
  exact ⟨by first | rfl | (simp; done) | (simp [*]; done), by repeat (first | exact Drawn0.refl _ | apply Drawn0.step)⟩
 rw [if_neg c1] at H
 have d1 := dF c1
 clear c1
 obtain rfl := Option.some.inj H
 go_enter Try.func105, Try.ntmps105
 go_wp2
 go_ret
 exact ⟨by first | rfl | (simp; done) | (simp [*]; done), by repeat (first | exact Drawn0.refl _ | apply Drawn0.step)⟩

mutual
def spec_l9Gcd.j0 : Nat → Int → Int → Option (Int)
 | 0, _, _ => none
 | k + 1, x1, x2 => if x2 < 0 then (spec_l9Gcd.j1 k x1 (wrap64 (-x2))) else (spec_l9Gcd.j1 k x1 x2)
def spec_l9Gcd.j1 : Nat → Int → Int → Option (Int)
 | 0, _, _ => none
 | k + 1, x1, x2 => spec_l9Gcd.l0 k x1 x2
def spec_l9Gcd.l0 : Nat → Int → Int → Option (Int)
 | 0, _, _ => none
 | k + 1, x1, x2 => if x2 = 0 then (some x1) else (spec_l9Gcd.l0 k x2 (Int.tmod x1 x2))
end
def spec_l9Gcd.f (k : Nat) (a0 : Int) (a1 : Int) : Option (Int) := if a0 < 0 then (spec_l9Gcd.j0 k (wrap64 (-a0)) a1) else (spec_l9Gcd.j0 k a0 a1)
theorem spec_l9Gcd.mono_l : ∀ k, (∀ y0 y1, LeO (spec_l9Gcd.j0 k y0 y1) (spec_l9Gcd.j0 (k + 1) y0 y1)) ∧ (∀ y0 y1, LeO (spec_l9Gcd.j1 k y0 y1) (spec_l9Gcd.j1 (k + 1) y0 y1)) ∧ (∀ y0 y1, LeO (spec_l9Gcd.l0 k y0 y1) (spec_l9Gcd.l0 (k + 1) y0 y1))
 | 0 => ⟨fun _ _ r h => by simp [spec_l9Gcd.j0] at h, fun _ _ r h => by simp [spec_l9Gcd.j1] at h, fun _ _ r h => by simp [spec_l9Gcd.l0] at h⟩
 | k + 1 => by
  obtain ⟨ih0, ih1, ih2⟩ := spec_l9Gcd.mono_l k
  refine ⟨?_, ?_, ?_⟩ <;> (intros; (first | unfold spec_l9Gcd.j0 | unfold spec_l9Gcd.j1 | unfold spec_l9Gcd.l0); repeat' first | (with_reducible first | apply ih0 | apply ih1 | apply ih2 | apply LeO.refl | apply LeO.none | refine LeO.ite ?_ ?_ | refine LeO.bind ?_ (fun _ => ?_)) | apply ih0 | apply ih1 | apply ih2 | apply LeO.none | refine LeO.ite ?_ ?_ | refine LeO.bind ?_ (fun _ => ?_))
theorem spec_l9Gcd.mono : ∀ a0 a1 k, LeO (spec_l9Gcd.f k a0 a1) (spec_l9Gcd.f (k + 1) a0 a1) := by
 intro a0 a1 k
 obtain ⟨ih0, ih1, ih2⟩ := spec_l9Gcd.mono_l k
 unfold spec_l9Gcd.f
 repeat' first | (with_reducible first | apply ih0 | apply ih1 | apply ih2 | apply LeO.refl | apply LeO.none | refine LeO.ite ?_ ?_ | refine LeO.bind ?_ (fun _ => ?_)) | apply ih0 | apply ih1 | apply ih2 | apply LeO.none | refine LeO.ite ?_ ?_ | refine LeO.bind ?_ (fun _ => ?_)
set_option maxHeartbeats 8000000 in
set_option maxRecDepth 100000 in
theorem spec_l9Gcd.calls (k : Nat) (a0 : Int) (a1 : Int) (r : Int) (w : World) (h : spec_l9Gcd.f k a0 a1 = some r) :
  Calls Try.prog 107 #[.int .i64 a0, .int .i64 a1] w fun e w' => e = .returned (.int .i64 r) ∧ Drawn0 w w' := by
 have H : (if a0 < 0 then (spec_l9Gcd.j0 k (wrap64 (-a0)) a1) else (spec_l9Gcd.j0 k a0 a1)) = some r := h
 clear h
 have C1 := am H
 clear H
 go_enter Try.func107, Try.ntmps107
 go_upto_if 7 with (fail)
 go_cut [0] (fun v1 wc => ∃ (kq : Nat) (x1 : Int), v1 = .int .i64 x1 ∧ Aside0 (spec_l9Gcd.j0 kq x1 a1 = some r) ∧ Aside0 (kq ≤ k) ∧ Drawn0 w wc)
 case first =>
  have H := C1.out
  clear C1
  by_cases c1 : a0 < 0
  rotate_left
  ·rw [if_neg c1] at H
   have d1 := dF c1
   clear c1
   (first | rw [d1] | (simp only [i64_w, i32_w]; rw [d1]) | skip)
   have H' := am H
   clear H
   go_wp2
   go_meet
   case rel => exact ⟨_, (a0), ey, H', le0, by repeat (first | exact Drawn0.refl _ | apply Drawn0.step)⟩
  rw [if_pos c1] at H
  have d1 := dT c1
  clear c1
  (first | rw [d1] | (simp only [i64_w, i32_w]; rw [d1]) | skip)
  have H' := am H
  clear H
  go_wp2
  go_meet
  case rel => exact ⟨_, (wrap64 (-a0)), ey, H', le0, by repeat (first | exact Drawn0.refl _ | apply Drawn0.step)⟩
 case rest =>
  clear C1
  obtain ⟨kq, x1, rfl, HA, J1, ⟨mc2, rfl⟩⟩ := hcut
  cases kq with
  | zero => exact absurd HA.out (by simp [spec_l9Gcd.j0])
  | succ k1 =>
   have H := HA.out
   clear HA
   simp only [spec_l9Gcd.j0] at H
   have C2 := am H
   clear H
   go_upto_if 11 with (fail)
   go_cut [1] (fun v2 wc => ∃ (kq : Nat) (x2 : Int), v2 = .int .i64 x2 ∧ Aside0 (spec_l9Gcd.j1 kq x1 x2 = some r) ∧ Aside0 (kq ≤ k1) ∧ Drawn0 w wc)
   case first =>
    have H := C2.out
    clear C2
    by_cases c1 : a1 < 0
    rotate_left
    ·rw [if_neg c1] at H
     have d1 := dF c1
     clear c1
     (first | rw [d1] | (simp only [i64_w, i32_w]; rw [d1]) | skip)
     have H' := am H
     clear H
     go_wp2
     go_meet
     case rel => exact ⟨_, (a1), ey, H', le1 J1, by repeat (first | exact Drawn0.refl _ | apply Drawn0.step)⟩
    rw [if_pos c1] at H
    have d1 := dT c1
    clear c1
    (first | rw [d1] | (simp only [i64_w, i32_w]; rw [d1]) | skip)
    have H' := am H
    clear H
    go_wp2
    go_meet
    case rel => exact ⟨_, (wrap64 (-a1)), ey, H', le1 J1, by repeat (first | exact Drawn0.refl _ | apply Drawn0.step)⟩
   case rest =>
    clear C2
    obtain ⟨kq, x2, rfl, HA, J2, ⟨mc4, rfl⟩⟩ := hcut
    cases kq with
    | zero => exact absurd HA.out (by simp [spec_l9Gcd.j1])
    | succ k2 =>
     have H := HA.out
     clear HA
     simp only [spec_l9Gcd.j1] at H
     have H' := am H
     clear H
     go_wp2
     go_loopg [0, 1] k2 (fun kq v1 v2 w' => ∃ (x3 : Int) (x4 : Int), v1 = .int .i64 x3 ∧ v2 = .int .i64 x4 ∧ Aside0 (spec_l9Gcd.l0 kq x3 x4 = some r) ∧ Aside0 (kq ≤ k2) ∧ Drawn0 w w')
     case atStart => exact ⟨(x1), (x2), ey, ey, H', ⟨Nat.le_refl _⟩, by repeat (first | exact Drawn0.refl _ | apply Drawn0.step)⟩
     case round =>
      clear H'
      obtain ⟨x3, x4, rfl, rfl, HA, HK3, ⟨m3, rfl⟩⟩ := hrel
      cases gk with
      | zero => exact absurd HA.out (by simp [spec_l9Gcd.l0])
      | succ k3 =>
       have H := HA.out
       clear HA
       simp only [spec_l9Gcd.l0] at H
       by_cases c1 : x4 = 0
       ·rw [if_pos c1] at H
        have d1 := eT c1
        have d2 := nF c1
        clear c1
        obtain rfl := Option.some.inj H
        go_wp2
        go_ret
        exact ⟨by first | rfl | (simp; done) | (simp [*]; done), by repeat (first | exact Drawn0.refl _ | apply Drawn0.step)⟩
       rw [if_neg c1] at H
       have d1 := eF c1
       have d2 := nT c1
       have H' := am H
       clear H
       go_wp2
       go_roundg k3
       case measure => have := J1.out; have := J2.out; have := HK3.out; omega
       case rel => exact ⟨(x4), (Int.tmod x3 x4), ey, ey, H', ⟨by have := J1.out; have := J2.out; have := HK3.out; omega⟩, by repeat (first | exact Drawn0.refl _ | apply Drawn0.step)⟩

def spec_l9Make.f (k : Nat) (a0 : Int) (a1 : Int) : Option (Int × Int) := if a0 > 65536 then ((spec_l9Gcd.f k a0 65536).bind fun t1 => (if t1 = 0 then (some (0, a1)) else ((spec_l1Mod.f a1 t1).bind fun t2 => (some (t1, t2))))) else (if a0 = 0 then (some (0, a1)) else ((spec_l1Mod.f a1 a0).bind fun t3 => (some (a0, t3))))
theorem spec_l9Make.mono : ∀ a0 a1 k, LeO (spec_l9Make.f k a0 a1) (spec_l9Make.f (k + 1) a0 a1) := by
 intro a0 a1 k
 unfold spec_l9Make.f
 repeat' first | (with_reducible first | apply spec_l9Gcd.mono | apply LeO.refl | apply LeO.none | refine LeO.ite ?_ ?_ | refine LeO.bind ?_ (fun _ => ?_)) | apply spec_l9Gcd.mono | apply LeO.none | refine LeO.ite ?_ ?_ | refine LeO.bind ?_ (fun _ => ?_)
set_option maxHeartbeats 8000000 in
set_option maxRecDepth 100000 in
theorem spec_l9Make.calls (k : Nat) (a0 : Int) (a1 : Int) (r1 : Int) (r2 : Int) (w : World) (h : spec_l9Make.f k a0 a1 = some (r1, r2)) :
  Calls Try.prog 106 #[.int .i64 a0, .int .i64 a1] w fun e w' => e = .returned (.agg #[.int .i64 r1, .int .i64 r2]) ∧ Below w.heap.size w w' := by
 have hu86 := Try.underlying86
 have HB := am (Below.refl w.heap.size w)
 have H : (if a0 > 65536 then ((spec_l9Gcd.f k a0 65536).bind fun t1 => (if t1 = 0 then (some (0, a1)) else ((spec_l1Mod.f a1 t1).bind fun t2 => (some (t1, t2))))) else (if a0 = 0 then (some (0, a1)) else ((spec_l1Mod.f a1 a0).bind fun t3 => (some (a0, t3))))) = some (r1, r2) := h
 clear h
 by_cases c1 : a0 > 65536
 rotate_left
 ·rw [if_neg c1] at H
  have d1 := dF c1
  clear c1
  by_cases c2 : a0 = 0
  ·rw [if_pos c2] at H
   have d2 := eT c2
   have d3 := nF c2
   clear c2
   simp only [Option.some.injEq, Prod.mk.injEq] at H
   obtain ⟨rfl, rfl⟩ := H
   go_enter Try.func106, Try.ntmps106
   go_wp2_with (first | ((with_reducible refine gate_dst (N := 4) rfl ?_); refine bxn 4 #[.int .i64 0, .int .i64 0] 86 HB fun g1 w1 K1 G1 hg hb => ?_; replace HB := am (below_step (YA HB) hb); clear hb hg; have z_ := cB2 K1))
   refine bodyPost_ret (results_cell_row rfl _ _ g1 86 #[.int .i64 0, .int .i64 a1] (0, 0) _ rfl (by refine pf ?_; refine blk_put (cs := #[.int .i64 0, .int .i64 0]) ?_ 1 _ rfl; refine pf ?_; refine blk_put (cs := #[.int .i64 0, .int .i64 0]) ?_ 0 _ rfl; exact Z K1) Try.underlying86 rfl (by kernel_rfl)) rfl ?_
   exact ⟨ez, YA HB⟩
  rw [if_neg c2] at H
  have d2 := eF c2
  have d3 := nT c2
  obtain ⟨t3, A1, H⟩ := bd H
  try dsimp only at H
  simp only [Option.some.injEq, Prod.mk.injEq] at H
  obtain ⟨rfl, rfl⟩ := H
  go_enter Try.func106, Try.ntmps106
  go_wp2_with (first | ((with_reducible refine gate_dst (N := 4) rfl ?_); refine bxn 4 #[.int .i64 0, .int .i64 0] 86 HB fun g1 w1 K1 G1 hg hb => ?_; replace HB := am (below_step (YA HB) hb); clear hb hg) | ((with_reducible refine gate_callee (f := 100) rfl ?_); refine goesL_ (some 16) rfl rfl Try.func100 (by kernel_rfl) rfl #[.int .i64 a1, .int .i64 a0] rfl mz ?_; (with_reducible refine (spec_l1Mod.calls _ _ _ _ A1.out).mono ?_); rintro e w' ⟨rfl, ⟨nd, rfl⟩⟩; refine ⟨_, rfl, ?_⟩; (try (rw [drewN_self w1]; generalize hq_ : World.drewN w1 _ = w1; replace K1 : Bx2 w1 g1 0 0 86 := ⟨by rw [← hq_]; exact (Z K1)⟩; replace HB : Aside0 (Below w.heap.size w w1) := ⟨by rw [← hq_]; exact (YA HB)⟩; clear hq_)); have z_ := cB2 K1))
  refine bodyPost_ret (results_cell_row rfl _ _ g1 86 #[.int .i64 a0, .int .i64 t3] (0, 0) _ rfl (by refine pf ?_; refine blk_put (cs := #[.int .i64 a0, .int .i64 0]) ?_ 1 _ rfl; refine pf ?_; refine blk_put (cs := #[.int .i64 0, .int .i64 0]) ?_ 0 _ rfl; exact Z K1) Try.underlying86 rfl (by kernel_rfl)) rfl ?_
  exact ⟨ez, YA HB⟩
 rw [if_pos c1] at H
 have d1 := dT c1
 clear c1
 obtain ⟨t1, A1, H⟩ := bd H
 try dsimp only at H
 by_cases c2 : t1 = 0
 ·rw [if_pos c2] at H
  have d2 := eT c2
  have d3 := nF c2
  clear c2
  simp only [Option.some.injEq, Prod.mk.injEq] at H
  obtain ⟨rfl, rfl⟩ := H
  go_enter Try.func106, Try.ntmps106
  go_wp2_with (first | ((with_reducible refine gate_dst (N := 4) rfl ?_); refine bxn 4 #[.int .i64 0, .int .i64 0] 86 HB fun g1 w1 K1 G1 hg hb => ?_; replace HB := am (below_step (YA HB) hb); clear hb hg) | ((with_reducible refine gate_callee (f := 107) rfl ?_); refine goesL_ (some 8) rfl rfl Try.func107 (by kernel_rfl) rfl #[.int .i64 a0, .int .i64 65536] rfl mz ?_; (with_reducible refine (spec_l9Gcd.calls _ _ _ _ _ A1.out).mono ?_); rintro e w' ⟨rfl, ⟨nd, rfl⟩⟩; refine ⟨_, rfl, ?_⟩; (try (rw [drewN_self w1]; generalize hq_ : World.drewN w1 _ = w1; replace K1 : Bx2 w1 g1 0 0 86 := ⟨by rw [← hq_]; exact (Z K1)⟩; replace HB : Aside0 (Below w.heap.size w w1) := ⟨by rw [← hq_]; exact (YA HB)⟩; clear hq_)); have z_ := cB2 K1))
  refine bodyPost_ret (results_cell_row rfl _ _ g1 86 #[.int .i64 0, .int .i64 a1] (0, 0) _ rfl (by refine pf ?_; refine blk_put (cs := #[.int .i64 0, .int .i64 0]) ?_ 1 _ rfl; refine pf ?_; refine blk_put (cs := #[.int .i64 0, .int .i64 0]) ?_ 0 _ rfl; exact Z K1) Try.underlying86 rfl (by kernel_rfl)) rfl ?_
  exact ⟨ez, YA HB⟩
 rw [if_neg c2] at H
 have d2 := eF c2
 have d3 := nT c2
 obtain ⟨t2, A2, H⟩ := bd H
 try dsimp only at H
 simp only [Option.some.injEq, Prod.mk.injEq] at H
 obtain ⟨rfl, rfl⟩ := H
 go_enter Try.func106, Try.ntmps106
 go_wp2_with (first | ((with_reducible refine gate_dst (N := 4) rfl ?_); refine bxn 4 #[.int .i64 0, .int .i64 0] 86 HB fun g1 w1 K1 G1 hg hb => ?_; replace HB := am (below_step (YA HB) hb); clear hb hg) | ((with_reducible refine gate_callee (f := 107) rfl ?_); refine goesL_ (some 8) rfl rfl Try.func107 (by kernel_rfl) rfl #[.int .i64 a0, .int .i64 65536] rfl mz ?_; (with_reducible refine (spec_l9Gcd.calls _ _ _ _ _ A1.out).mono ?_); rintro e w' ⟨rfl, ⟨nd, rfl⟩⟩; refine ⟨_, rfl, ?_⟩; (try (rw [drewN_self w1]; generalize hq_ : World.drewN w1 _ = w1; replace K1 : Bx2 w1 g1 0 0 86 := ⟨by rw [← hq_]; exact (Z K1)⟩; replace HB : Aside0 (Below w.heap.size w w1) := ⟨by rw [← hq_]; exact (YA HB)⟩; clear hq_))) | ((with_reducible refine gate_callee (f := 100) rfl ?_); refine goesL_ (some 16) rfl rfl Try.func100 (by kernel_rfl) rfl #[.int .i64 a1, .int .i64 t1] rfl mz ?_; (with_reducible refine (spec_l1Mod.calls _ _ _ _ A2.out).mono ?_); rintro e w' ⟨rfl, ⟨nd, rfl⟩⟩; refine ⟨_, rfl, ?_⟩; (try (rw [drewN_self w1]; generalize hq_ : World.drewN w1 _ = w1; replace K1 : Bx2 w1 g1 0 0 86 := ⟨by rw [← hq_]; exact (Z K1)⟩; replace HB : Aside0 (Below w.heap.size w w1) := ⟨by rw [← hq_]; exact (YA HB)⟩; clear hq_)); have z_ := cB2 K1))
 refine bodyPost_ret (results_cell_row rfl _ _ g1 86 #[.int .i64 t1, .int .i64 t2] (0, 0) _ rfl (by refine pf ?_; refine blk_put (cs := #[.int .i64 t1, .int .i64 0]) ?_ 1 _ rfl; refine pf ?_; refine blk_put (cs := #[.int .i64 0, .int .i64 0]) ?_ 0 _ rfl; exact Z K1) Try.underlying86 rfl (by kernel_rfl)) rfl ?_
 exact ⟨ez, YA HB⟩
end
section
attribute [local go_sem] max2_int min2_int max_two min_two max_three min_three max_four min_four
attribute [local go_sem] Go.Proofs.YthbkakcchgnhpaaSet.isSome_setCell
mutual
def spec_RestDo.j0 : Nat → Int → Bool → Int → Int → Int → Int → Option (Int × Int)
 | 0, _, _, _, _, _, _ => none
 | k + 1, x1, x2, x3, x4, x5, x6 => if x2 = true then ((spec_l9All.f).bind fun u1 => (some (u1.1, u1.2))) else (if x3 = 0 then (spec_RestDo.j1 k x1 (x5 == 0) x3 x4 x5 x6) else (spec_RestDo.j1 k x1 false x3 x4 x5 x6))
def spec_RestDo.j1 : Nat → Int → Bool → Int → Int → Int → Int → Option (Int × Int)
 | 0, _, _, _, _, _, _ => none
 | k + 1, x1, x2, x3, x4, x5, x6 => if x2 = true then ((spec_NumDo.f k x1 x4 x6).bind fun u1 => (if u1.2 = 0 then (some (0, u1.1)) else ((spec_l9All.f).bind fun u2 => (some (u2.1, u2.2))))) else ((spec_l9Wraps.f x1).bind fun t1 => (if x1 = 1 then (spec_RestDo.j2 k x1 t1 true x3 x4 x5 x6) else (spec_RestDo.j2 k x1 t1 (x1 == 11) x3 x4 x5 x6)))
def spec_RestDo.j2 : Nat → Int → Int → Bool → Int → Int → Int → Int → Option (Int × Int)
 | 0, _, _, _, _, _, _, _ => none
 | k + 1, x1, x2, x3, x4, x5, x6, x7 => if x3 = true then ((spec_l9Gcd.f k x4 x6).bind fun t1 => ((spec_l9Gcd.f k t1 x2).bind fun t2 => ((spec_l9Make.f k t2 (wrap64 (x5 + x7))).bind fun u1 => (some (u1.1, u1.2))))) else (if x1 = 2 then (spec_RestDo.j3 k x1 x2 true x4 x5 x6 x7) else (spec_RestDo.j3 k x1 x2 (x1 == 12) x4 x5 x6 x7))
def spec_RestDo.j3 : Nat → Int → Int → Bool → Int → Int → Int → Int → Option (Int × Int)
 | 0, _, _, _, _, _, _, _ => none
 | k + 1, x1, x2, x3, x4, x5, x6, x7 => if x3 = true then ((spec_l9Gcd.f k x4 x6).bind fun t1 => ((spec_l9Gcd.f k t1 x2).bind fun t2 => ((spec_l9Make.f k t2 (wrap64 (x5 - x7))).bind fun u1 => (some (u1.1, u1.2))))) else (if x1 = 9 then (if x6 = 0 then ((spec_l1In.f x7 0 31).bind fun t3 => (spec_RestDo.j4 k x1 x2 t3 x4 x5 x6 x7)) else (spec_RestDo.j4 k x1 x2 false x4 x5 x6 x7)) else (spec_RestDo.j4 k x1 x2 false x4 x5 x6 x7))
def spec_RestDo.j4 : Nat → Int → Int → Bool → Int → Int → Int → Int → Option (Int × Int)
 | 0, _, _, _, _, _, _, _ => none
 | k + 1, x1, x2, x3, x4, x5, x6, x7 => if x3 = true then ((spec_l1Power.f k x7).bind fun t1 => ((spec_l1Power.f k x7).bind fun t2 => ((spec_l9Make.f k (wrap64 (x4 * t1)) (wrap64 (x5 * t2))).bind fun u1 => (some (u1.1, u1.2))))) else (if x1 = 3 then (spec_RestDo.j5 k x1 x2 true x4 x5 x6 x7) else (spec_RestDo.j5 k x1 x2 (x1 == 13) x4 x5 x6 x7))
def spec_RestDo.j5 : Nat → Int → Int → Bool → Int → Int → Int → Int → Option (Int × Int)
 | 0, _, _, _, _, _, _, _ => none
 | k + 1, x1, x2, x3, x4, x5, x6, x7 => if x3 = true then ((spec_l9Gcd.f k (wrap64 (x4 * x6)) (wrap64 (x4 * x7))).bind fun t1 => ((spec_l9Gcd.f k t1 (wrap64 (x6 * x5))).bind fun t2 => (if t2 = 0 then (some (0, 0)) else ((spec_l9Gcd.f k t2 x2).bind fun t3 => ((spec_l9Make.f k t3 (wrap64 (x5 * x7))).bind fun u1 => (some (u1.1, u1.2))))))) else (if x1 = 5 then ((spec_l9Gcd.f k x6 x7).bind fun t4 => ((spec_l9Gcd.f k x4 t4).bind fun t5 => (if t5 = 0 then ((spec_l9All.f).bind fun u2 => (some (u2.1, u2.2))) else ((spec_l9Make.f k t5 x5).bind fun u3 => (some (u3.1, u3.2)))))) else ((spec_l9All.f).bind fun u4 => (some (u4.1, u4.2))))
end
def spec_RestDo.f (k : Nat) (a0 : Int) (a1_0 : Int) (a1_1 : Int) (a2_0 : Int) (a2_1 : Int) : Option (Int × Int) := (spec_l1In.f a0 1 13).bind fun t1 => (if t1 = true then ((spec_RestOk.f a1_0 a1_1).bind fun t2 => (if t2 = true then ((spec_RestOk.f a2_0 a2_1).bind fun t3 => (spec_RestDo.j0 k a0 (!t3) a1_0 a1_1 a2_0 a2_1)) else (spec_RestDo.j0 k a0 true a1_0 a1_1 a2_0 a2_1))) else (spec_RestDo.j0 k a0 true a1_0 a1_1 a2_0 a2_1))
theorem spec_RestDo.mono_l : ∀ k, (∀ y0 y1 y2 y3 y4 y5, LeO (spec_RestDo.j0 k y0 y1 y2 y3 y4 y5) (spec_RestDo.j0 (k + 1) y0 y1 y2 y3 y4 y5)) ∧ (∀ y0 y1 y2 y3 y4 y5, LeO (spec_RestDo.j1 k y0 y1 y2 y3 y4 y5) (spec_RestDo.j1 (k + 1) y0 y1 y2 y3 y4 y5)) ∧ (∀ y0 y1 y2 y3 y4 y5 y6, LeO (spec_RestDo.j2 k y0 y1 y2 y3 y4 y5 y6) (spec_RestDo.j2 (k + 1) y0 y1 y2 y3 y4 y5 y6)) ∧ (∀ y0 y1 y2 y3 y4 y5 y6, LeO (spec_RestDo.j3 k y0 y1 y2 y3 y4 y5 y6) (spec_RestDo.j3 (k + 1) y0 y1 y2 y3 y4 y5 y6)) ∧ (∀ y0 y1 y2 y3 y4 y5 y6, LeO (spec_RestDo.j4 k y0 y1 y2 y3 y4 y5 y6) (spec_RestDo.j4 (k + 1) y0 y1 y2 y3 y4 y5 y6)) ∧ (∀ y0 y1 y2 y3 y4 y5 y6, LeO (spec_RestDo.j5 k y0 y1 y2 y3 y4 y5 y6) (spec_RestDo.j5 (k + 1) y0 y1 y2 y3 y4 y5 y6))
 | 0 => ⟨fun _ _ _ _ _ _ r h => by simp [spec_RestDo.j0] at h, fun _ _ _ _ _ _ r h => by simp [spec_RestDo.j1] at h, fun _ _ _ _ _ _ _ r h => by simp [spec_RestDo.j2] at h, fun _ _ _ _ _ _ _ r h => by simp [spec_RestDo.j3] at h, fun _ _ _ _ _ _ _ r h => by simp [spec_RestDo.j4] at h, fun _ _ _ _ _ _ _ r h => by simp [spec_RestDo.j5] at h⟩
 | k + 1 => by
  obtain ⟨ih0, ih1, ih2, ih3, ih4, ih5⟩ := spec_RestDo.mono_l k
  refine ⟨?_, ?_, ?_, ?_, ?_, ?_⟩ <;> (intros; (first | unfold spec_RestDo.j0 | unfold spec_RestDo.j1 | unfold spec_RestDo.j2 | unfold spec_RestDo.j3 | unfold spec_RestDo.j4 | unfold spec_RestDo.j5); repeat' first | (with_reducible first | apply ih0 | apply ih1 | apply ih2 | apply ih3 | apply ih4 | apply ih5 | apply spec_NumDo.mono | apply spec_l1Power.mono | apply spec_l9Gcd.mono | apply spec_l9Make.mono | apply LeO.refl | apply LeO.none | refine LeO.ite ?_ ?_ | refine LeO.bind ?_ (fun _ => ?_)) | apply ih0 | apply ih1 | apply ih2 | apply ih3 | apply ih4 | apply ih5 | apply spec_NumDo.mono | apply spec_l1Power.mono | apply spec_l9Gcd.mono | apply spec_l9Make.mono | apply LeO.none | refine LeO.ite ?_ ?_ | refine LeO.bind ?_ (fun _ => ?_))
theorem spec_RestDo.mono : ∀ a0 a1 a2 a3 a4 k, LeO (spec_RestDo.f k a0 a1 a2 a3 a4) (spec_RestDo.f (k + 1) a0 a1 a2 a3 a4) := by
 intro a0 a1 a2 a3 a4 k
 obtain ⟨ih0, ih1, ih2, ih3, ih4, ih5⟩ := spec_RestDo.mono_l k
 unfold spec_RestDo.f
 repeat' first | (with_reducible first | apply ih0 | apply ih1 | apply ih2 | apply ih3 | apply ih4 | apply ih5 | apply spec_NumDo.mono | apply spec_l1Power.mono | apply spec_l9Gcd.mono | apply spec_l9Make.mono | apply LeO.refl | apply LeO.none | refine LeO.ite ?_ ?_ | refine LeO.bind ?_ (fun _ => ?_)) | apply ih0 | apply ih1 | apply ih2 | apply ih3 | apply ih4 | apply ih5 | apply spec_NumDo.mono | apply spec_l1Power.mono | apply spec_l9Gcd.mono | apply spec_l9Make.mono | apply LeO.none | refine LeO.ite ?_ ?_ | refine LeO.bind ?_ (fun _ => ?_)
def spec_RestDo.T10 : Bool × List (List Nat × List Nat) := (true, [([], []), ([0], [0]), ([], []), ([2], [2]), ([1, 3], [1, 3]), ([], []), ([4, 5, 4], [4, 5]), ([], []), ([7], [7]), ([], []), ([9], [9]), ([8, 10], [8, 10]), ([6, 11, 6], [6, 11]), ([12, 12, 0, 1, 2, 3, 4, 5, 6, 7, 8, 9, 10, 11, 12], [12])])
def spec_RestDo.B10 : List Nat := [0, 1, 0, 4, 15, 0, 63, 0, 128, 0, 512, 1920, 4095, 8191]
theorem spec_RestDo.tab10 : rtab .any (opsOf Try.f74 10) = spec_RestDo.T10 := by kernel_rfl
theorem spec_RestDo.bits10 : waitsOk spec_RestDo.T10.2 spec_RestDo.B10 = true := by kernel_rfl
def spec_RestDo.T12 : Bool × List (List Nat × List Nat) := (true, [([], []), ([0], [0]), ([], []), ([2], [2]), ([1, 3], [1, 3]), ([], []), ([4, 5, 4], [4, 5]), ([], []), ([7], [7]), ([], []), ([9], [9]), ([8, 10], [8, 10]), ([6, 11, 6], [6, 11]), ([12, 12, 0, 1, 2, 3, 4, 5, 6, 7, 8, 9, 10, 11, 12], [12])])
def spec_RestDo.B12 : List Nat := [0, 1, 0, 4, 15, 0, 63, 0, 128, 0, 512, 1920, 4095, 8191]
theorem spec_RestDo.tab12 : rtab .any (opsOf Try.f74 12) = spec_RestDo.T12 := by kernel_rfl
theorem spec_RestDo.bits12 : waitsOk spec_RestDo.T12.2 spec_RestDo.B12 = true := by kernel_rfl
def spec_RestDo.T14 : Bool × List (List Nat × List Nat) := (true, [([], []), ([0], [0]), ([], []), ([2], [2]), ([3], [3]), ([1, 4], [1, 4]), ([], []), ([6], [6]), ([], []), ([8], [8]), ([9, 4], [9]), ([7, 10], [7, 10]), ([5, 11, 10], [5, 11]), ([12, 12, 0, 1, 2, 3, 4, 5, 6, 7, 8, 9, 10, 11, 12], [12])])
def spec_RestDo.B14 : List Nat := [0, 1, 0, 4, 12, 31, 0, 64, 0, 256, 796, 2012, 4095, 8191]
theorem spec_RestDo.tab14 : rtab .any (opsOf Try.f74 14) = spec_RestDo.T14 := by kernel_rfl
theorem spec_RestDo.bits14 : waitsOk spec_RestDo.T14.2 spec_RestDo.B14 = true := by kernel_rfl
def spec_RestDo.T16 : Bool × List (List Nat × List Nat) := (true, [([], []), ([0], [0]), ([], []), ([2], [2]), ([1, 3], [1, 3]), ([], []), ([5], [5]), ([], []), ([7], [7]), ([6, 8], [6, 8]), ([4, 9], [4, 9]), ([], []), ([11], [11]), ([], []), ([13], [13]), ([12, 14], [12, 14]), ([10, 15, 10], [10, 15]), ([16, 16, 0, 1, 2, 3, 4, 5, 6, 7, 8, 9, 10, 11, 12, 13, 14, 15, 16], [16])])
def spec_RestDo.B16 : List Nat := [0, 1, 0, 4, 15, 0, 32, 0, 128, 480, 1023, 0, 2048, 0, 8192, 30720, 65535, 131071]
theorem spec_RestDo.tab16 : rtab .any (opsOf Try.f74 16) = spec_RestDo.T16 := by kernel_rfl
theorem spec_RestDo.bits16 : waitsOk spec_RestDo.T16.2 spec_RestDo.B16 = true := by kernel_rfl
def spec_RestDo.T19 : Bool × List (List Nat × List Nat) := (true, [([], []), ([], []), ([0, 1], [0, 1]), ([], []), ([3], [3]), ([], []), ([5], [5]), ([4, 6], [4, 6]), ([2, 7, 2], [2, 7]), ([8, 8, 0, 1, 2, 3, 4, 5, 6, 7, 8], [8])])
def spec_RestDo.B19 : List Nat := [0, 0, 3, 0, 8, 0, 32, 120, 255, 511]
theorem spec_RestDo.tab19 : rtab .any (opsOf Try.f74 19) = spec_RestDo.T19 := by kernel_rfl
theorem spec_RestDo.bits19 : waitsOk spec_RestDo.T19.2 spec_RestDo.B19 = true := by kernel_rfl
def spec_RestDo.T21 : Bool × List (List Nat × List Nat) := (true, [([], []), ([0], [0]), ([], []), ([2], [2]), ([], []), ([4], [4]), ([3, 5], [3, 5]), ([1, 6, 6], [1, 6]), ([7, 7, 0, 1, 2, 3, 4, 5, 6, 7], [7])])
def spec_RestDo.B21 : List Nat := [0, 1, 0, 4, 0, 16, 60, 127, 255]
theorem spec_RestDo.tab21 : rtab .any (opsOf Try.f74 21) = spec_RestDo.T21 := by kernel_rfl
theorem spec_RestDo.bits21 : waitsOk spec_RestDo.T21.2 spec_RestDo.B21 = true := by kernel_rfl
set_option maxHeartbeats 8000000 in
set_option maxRecDepth 100000 in
theorem spec_RestDo.calls (k : Nat) (a0 : Int) (a1_0 : Int) (a1_1 : Int) (a2_0 : Int) (a2_1 : Int) (r1 : Int) (r2 : Int) (w : World) (h : spec_RestDo.f k a0 a1_0 a1_1 a2_0 a2_1 = some (r1, r2)) :
  Calls Try.prog 74 #[.int .i64 a0, .agg #[.int .i64 a1_0, .int .i64 a1_1], .agg #[.int .i64 a2_0, .int .i64 a2_1]] w fun e w' => e = .returned (.agg #[.int .i64 r1, .int .i64 r2]) ∧ Below w.heap.size w w' := by
 have hu86 := Try.underlying86
 have HB := am (Below.refl w.heap.size w)
 have H : ((spec_l1In.f a0 1 13).bind fun t1 => (if t1 = true then ((spec_RestOk.f a1_0 a1_1).bind fun t2 => (if t2 = true then ((spec_RestOk.f a2_0 a2_1).bind fun t3 => (spec_RestDo.j0 k a0 (!t3) a1_0 a1_1 a2_0 a2_1)) else (spec_RestDo.j0 k a0 true a1_0 a1_1 a2_0 a2_1))) else (spec_RestDo.j0 k a0 true a1_0 a1_1 a2_0 a2_1))) = some (r1, r2) := h
 clear h
 have C1 := am H
 clear H
 go_enter Try.func74, Try.ntmps74
 go_upto_region 1 with (first | ((with_reducible refine gate_dst (N := 4) rfl ?_); refine bxn 4 #[.int .i64 a1_0, .int .i64 a1_1] 86 HB fun g1 w2 K1 G1 hg hb => ?_; replace HB := am (below_step (YA HB) hb); clear hb hg) | ((with_reducible refine gate_dst (N := 5) rfl ?_); refine bxn 5 #[.int .i64 a2_0, .int .i64 a2_1] 86 HB fun g2 w3 K2 G2 hg hb => ?_; obtain ⟨N1,N2⟩ := ne_ hg K1; obtain ⟨K1, HB⟩ := bk1 K1 HB hb; clear hb hg) | ((with_reducible refine gate_dst (N := 6) rfl ?_); refine bxn 6 #[.int .i64 0, .int .i64 0] 86 HB fun g3 w4 K3 G3 hg hb => ?_; obtain ⟨N3,N4⟩ := ne_ hg K1; obtain ⟨N5,N6⟩ := ne_ hg K2; obtain ⟨K1, K2, HB⟩ := bk2 K1 K2 HB hb; clear hb hg))
 (try simp only [Act.put, List.setIfInBounds_toArray, List.set_cons_zero, List.set_cons_succ])
 go_cut [24] (fun v1 wc => ∃ (kq : Nat) (x1 : Bool), v1 = .bool x1 ∧ Aside0 (spec_RestDo.j0 kq a0 x1 a1_0 a1_1 a2_0 a2_1 = some (r1, r2)) ∧ Aside0 (kq ≤ k) ∧ Bx2 wc g1 a1_0 a1_1 86 ∧ Bx2 wc g2 a2_0 a2_1 86 ∧ Bx2 wc g3 0 0 86 ∧ Aside0 (Below w.heap.size w wc))
 case first =>
  have H := C1.out
  clear C1
  obtain ⟨t1, A1, H⟩ := bd H
  try dsimp only at H
  by_cases c1 : t1 = true
  rotate_left
  ·replace c1 := Bool.eq_false_iff.mpr c1
   subst c1
   rw [if_neg ff] at H
   have H' := am H
   clear H
   go_wp2_with (first | ((with_reducible refine gate_callee (f := 37) rfl ?_); refine goesL_ (some 13) rfl rfl Try.func37 (by kernel_rfl) rfl #[.int .i64 a0, .int .i64 1, .int .i64 13] rfl mz ?_; (with_reducible refine (spec_l1In.calls _ _ _ _ _ A1.out).mono ?_); rintro e w' ⟨rfl, ⟨nd, rfl⟩⟩; refine ⟨_, rfl, ?_⟩))
   go_meet
   case rel => exact ⟨_, (true), ey, H', le0, ⟨Z K1⟩, ⟨Z K2⟩, ⟨Z K3⟩, ⟨YA HB⟩⟩
  subst c1
  rw [if_pos rfl] at H
  obtain ⟨t2, A2, H⟩ := bd H
  try dsimp only at H
  by_cases c2 : t2 = true
  rotate_left
  ·replace c2 := Bool.eq_false_iff.mpr c2
   subst c2
   rw [if_neg ff] at H
   have H' := am H
   clear H
   go_wp2_with (first | ((with_reducible refine gate_callee (f := 37) rfl ?_); refine goesL_ (some 13) rfl rfl Try.func37 (by kernel_rfl) rfl #[.int .i64 a0, .int .i64 1, .int .i64 13] rfl mz ?_; (with_reducible refine (spec_l1In.calls _ _ _ _ _ A1.out).mono ?_); rintro e w' ⟨rfl, ⟨nd, rfl⟩⟩; refine ⟨_, rfl, ?_⟩; have z_ := ns2 N1 N3; have z_ := cB2 K1) | (go_at_call 102; (with_reducible refine (spec_RestOk.calls _ _ _ _ A2.out).mono ?_); rintro e w5 ⟨rfl, hb⟩; obtain ⟨K1, K2, K3, HB⟩ := bk3 K1 K2 K3 HB hb; (try clear hb)))
   go_meet
   case rel => exact ⟨_, (true), ey, H', le0, ⟨Z K1⟩, ⟨Z K2⟩, ⟨Z K3⟩, ⟨YA HB⟩⟩
  subst c2
  rw [if_pos rfl] at H
  obtain ⟨t3, A3, H⟩ := bd H
  try dsimp only at H
  have H' := am H
  clear H
  go_wp2_with (first | ((with_reducible refine gate_callee (f := 37) rfl ?_); refine goesL_ (some 13) rfl rfl Try.func37 (by kernel_rfl) rfl #[.int .i64 a0, .int .i64 1, .int .i64 13] rfl mz ?_; (with_reducible refine (spec_l1In.calls _ _ _ _ _ A1.out).mono ?_); rintro e w' ⟨rfl, ⟨nd, rfl⟩⟩; refine ⟨_, rfl, ?_⟩; have z_ := ns2 N1 N3; have z_ := cB2 K1) | (go_at_call 102; (with_reducible refine (spec_RestOk.calls _ _ _ _ A2.out).mono ?_); rintro e w5 ⟨rfl, hb⟩; obtain ⟨K1, K2, K3, HB⟩ := bk3 K1 K2 K3 HB hb; (try clear hb); have z_ := ns1 N5; have z_ := cB2 K2) | (go_at_call 102; (with_reducible refine (spec_RestOk.calls _ _ _ _ A3.out).mono ?_); rintro e w6 ⟨rfl, hb⟩; obtain ⟨K1, K2, K3, HB⟩ := bk3 K1 K2 K3 HB hb; (try clear hb)))
  go_meet
  case rel => exact ⟨_, (!t3), ey, H', le0, ⟨Z K1⟩, ⟨Z K2⟩, ⟨Z K3⟩, ⟨YA HB⟩⟩
 case rest =>
  clear C1
  obtain ⟨kq, x1, rfl, HA, J1, K1, K2, K3, HB⟩ := hcut
  cases kq with
  | zero => exact absurd HA.out (by simp [spec_RestDo.j0])
  | succ k1 =>
   have H := HA.out
   clear HA
   simp only [spec_RestDo.j0] at H
   by_cases c1 : x1 = true
   ·subst c1
    rw [if_pos rfl] at H
    obtain ⟨⟨t4, t5⟩, A1, H⟩ := bd H
    try dsimp only at H
    simp only [Option.some.injEq, Prod.mk.injEq] at H
    obtain ⟨rfl, rfl⟩ := H
    go_wp2_with (first | ((with_reducible refine gate_callee (f := 104) rfl ?_); refine gL 25 Try.func104 (spec_l9All.calls _ _ _ A1.out) fun w5 hb => ?_; obtain ⟨K1, K2, K3, HB⟩ := bk3 K1 K2 K3 HB hb; (try clear hb); have z_ := ns2 N4 N6; have z_ := cB2 K3))
    refine bodyPost_ret (results_cell_row rfl _ _ g3 86 #[.int .i64 t4, .int .i64 t5] (0, 0) _ rfl (by refine pf ?_; refine blk_put (cs := #[.int .i64 t4, .int .i64 0]) ?_ 1 _ rfl; refine pf ?_; refine blk_put (cs := #[.int .i64 0, .int .i64 0]) ?_ 0 _ rfl; exact Z K3) Try.underlying86 rfl (by kernel_rfl)) rfl ?_
    exact ⟨ez, YA HB⟩
   replace c1 := Bool.eq_false_iff.mpr c1
   subst c1
   rw [if_neg ff] at H
   have C2 := am H
   clear H
   go_upto_region 3 with (fail)
   go_cut [33] (fun v2 wc => ∃ (kq : Nat) (x2 : Bool), v2 = .bool x2 ∧ Aside0 (spec_RestDo.j1 kq a0 x2 a1_0 a1_1 a2_0 a2_1 = some (r1, r2)) ∧ Aside0 (kq ≤ k1) ∧ Bx2 wc g1 a1_0 a1_1 86 ∧ Bx2 wc g2 a2_0 a2_1 86 ∧ Bx2 wc g3 0 0 86 ∧ Aside0 (Below w.heap.size w wc))
   case first =>
    have H := C2.out
    clear C2
    by_cases c2 : a1_0 = 0
    rotate_left
    ·rw [if_neg c2] at H
     have d1 := eF c2
     have d2 := nT c2
     (first | rw [d1] | (simp only [i64_w, i32_w]; rw [d1]) | skip)
     have H' := am H
     clear H
     have z_ := ns2 N1 N3
     have z_ := cB2 K1
     go_wp2
     go_meet
     case rel => exact ⟨_, (false), ey, H', le1 J1, ⟨Z K1⟩, ⟨Z K2⟩, ⟨Z K3⟩, ⟨YA HB⟩⟩
    rw [if_pos c2] at H
    have d1 := eT c2
    have d2 := nF c2
    clear c2
    (first | rw [d1] | (simp only [i64_w, i32_w]; rw [d1]) | skip)
    have H' := am H
    clear H
    have z_ := ns3 N1 N3 N5
    have z_ := cB2 K1
    have z_ := cB2 K2
    go_wp2
    go_meet
    case rel => exact ⟨_, ((a2_0 == 0)), ey, H', le1 J1, ⟨Z K1⟩, ⟨Z K2⟩, ⟨Z K3⟩, ⟨YA HB⟩⟩
   case rest =>
    clear C2
    try clear c1
    obtain ⟨kq, x2, rfl, HA, J2, K1, K2, K3, HB⟩ := hcut
    cases kq with
    | zero => exact absurd HA.out (by simp [spec_RestDo.j1])
    | succ k2 =>
     have H := HA.out
     clear HA
     simp only [spec_RestDo.j1] at H
     by_cases c2 : x2 = true
     ·subst c2
      rw [if_pos rfl] at H
      obtain ⟨⟨t4, t5⟩, A1, H⟩ := bd H
      try dsimp only at H
      by_cases c3 : t5 = 0
      ·rw [if_pos c3] at H
       have d1 := eT c3
       have d2 := nF c3
       clear c3
       simp only [Option.some.injEq, Prod.mk.injEq] at H
       obtain ⟨rfl, rfl⟩ := H
       have z_ := ns3 N1 N3 N5
       have z_ := cB2 K1
       have z_ := cB2 K2
       go_wp2_with (first | ((with_reducible refine gate_callee (f := 18) rfl ?_); refine goesL_ (some 40) rfl rfl Try.func18 (by kernel_rfl) rfl #[.int .i64 a0, .int .i64 a1_1, .int .i64 a2_1] rfl mz ?_; (with_reducible refine (spec_NumDo.calls _ _ _ _ _ _ _ A1.out).mono ?_); rintro e w' ⟨rfl, ⟨nd, rfl⟩⟩; refine ⟨_, rfl, ?_⟩; (try (rw [drewN_self wc]; generalize hq_ : World.drewN wc _ = wc; replace K1 : Bx2 wc g1 a1_0 a1_1 86 := ⟨by rw [← hq_]; exact (Z K1)⟩; replace K2 : Bx2 wc g2 a2_0 a2_1 86 := ⟨by rw [← hq_]; exact (Z K2)⟩; replace K3 : Bx2 wc g3 0 0 86 := ⟨by rw [← hq_]; exact (Z K3)⟩; replace HB : Aside0 (Below w.heap.size w wc) := ⟨by rw [← hq_]; exact (YA HB)⟩; clear hq_)); have z_ := cB2 K3))
       refine bodyPost_ret (results_cell_row rfl _ _ g3 86 #[.int .i64 0, .int .i64 t4] (0, 0) _ rfl (by refine pf ?_; refine blk_put (cs := #[.int .i64 0, .int .i64 0]) ?_ 1 _ rfl; refine pf ?_; refine blk_put (cs := #[.int .i64 0, .int .i64 0]) ?_ 0 _ rfl; exact Z K3) Try.underlying86 rfl (by kernel_rfl)) rfl ?_
       exact ⟨ez, YA HB⟩
      rw [if_neg c3] at H
      have d1 := eF c3
      have d2 := nT c3
      obtain ⟨⟨t6, t7⟩, A2, H⟩ := bd H
      try dsimp only at H
      simp only [Option.some.injEq, Prod.mk.injEq] at H
      obtain ⟨rfl, rfl⟩ := H
      have z_ := ns3 N1 N3 N5
      have z_ := cB2 K1
      have z_ := cB2 K2
      go_wp2_with (first | ((with_reducible refine gate_callee (f := 18) rfl ?_); refine goesL_ (some 40) rfl rfl Try.func18 (by kernel_rfl) rfl #[.int .i64 a0, .int .i64 a1_1, .int .i64 a2_1] rfl mz ?_; (with_reducible refine (spec_NumDo.calls _ _ _ _ _ _ _ A1.out).mono ?_); rintro e w' ⟨rfl, ⟨nd, rfl⟩⟩; refine ⟨_, rfl, ?_⟩; (try (rw [drewN_self wc]; generalize hq_ : World.drewN wc _ = wc; replace K1 : Bx2 wc g1 a1_0 a1_1 86 := ⟨by rw [← hq_]; exact (Z K1)⟩; replace K2 : Bx2 wc g2 a2_0 a2_1 86 := ⟨by rw [← hq_]; exact (Z K2)⟩; replace K3 : Bx2 wc g3 0 0 86 := ⟨by rw [← hq_]; exact (Z K3)⟩; replace HB : Aside0 (Below w.heap.size w wc) := ⟨by rw [← hq_]; exact (YA HB)⟩; clear hq_))) | ((with_reducible refine gate_callee (f := 104) rfl ?_); refine gL 45 Try.func104 (spec_l9All.calls _ _ _ A2.out) fun w5 hb => ?_; obtain ⟨K1, K2, K3, HB⟩ := bk3 K1 K2 K3 HB hb; (try clear hb); have z_ := cB2 K3))
      refine bodyPost_ret (results_cell_row rfl _ _ g3 86 #[.int .i64 t6, .int .i64 t7] (0, 0) _ rfl (by refine pf ?_; refine blk_put (cs := #[.int .i64 t6, .int .i64 0]) ?_ 1 _ rfl; refine pf ?_; refine blk_put (cs := #[.int .i64 0, .int .i64 0]) ?_ 0 _ rfl; exact Z K3) Try.underlying86 rfl (by kernel_rfl)) rfl ?_
      exact ⟨ez, YA HB⟩
     replace c2 := Bool.eq_false_iff.mpr c2
     subst c2
     rw [if_neg ff] at H
     obtain ⟨t4, A1, H⟩ := bd H
     try dsimp only at H
     have C3 := am H
     clear H
     go_upto_region 9 with (first | ((with_reducible refine gate_callee (f := 105) rfl ?_); refine goesL_ (some 49) rfl rfl Try.func105 (by kernel_rfl) rfl #[.int .i64 a0] rfl mz ?_; (with_reducible refine (spec_l9Wraps.calls _ _ _ A1.out).mono ?_); rintro e w' ⟨rfl, ⟨nd, rfl⟩⟩; refine ⟨_, rfl, ?_⟩))
     (try simp only [Act.put, List.setIfInBounds_toArray, List.set_cons_zero, List.set_cons_succ])
     go_cut [55] (fun v3 wc => ∃ (kq : Nat) (x3 : Bool), v3 = .bool x3 ∧ Aside0 (spec_RestDo.j2 kq a0 t4 x3 a1_0 a1_1 a2_0 a2_1 = some (r1, r2)) ∧ Aside0 (kq ≤ k2) ∧ Bx2 wc g1 a1_0 a1_1 86 ∧ Bx2 wc g2 a2_0 a2_1 86 ∧ Bx2 wc g3 0 0 86 ∧ Aside0 (Below w.heap.size w wc))
     case first =>
      have H := C3.out
      clear C3
      by_cases c3 : a0 = 1
      rotate_left
      ·rw [if_neg c3] at H
       have d1 := eF c3
       have d2 := nT c3
       (first | rw [d1] | (simp only [i64_w, i32_w]; rw [d1]) | skip)
       have H' := am H
       clear H
       go_wp2
       go_meet
       case rel => exact ⟨_, ((a0 == 11)), ey, H', ⟨by have := J1.out; have := J2.out; first | omega | exact Nat.le_refl _⟩, ⟨Z K1⟩, ⟨Z K2⟩, ⟨Z K3⟩, ⟨YA HB⟩⟩
      rw [if_pos c3] at H
      have d1 := eT c3
      have d2 := nF c3
      clear c3
      (first | rw [d1] | (simp only [i64_w, i32_w]; rw [d1]) | skip)
      have H' := am H
      clear H
      go_wp2
      go_meet
      case rel => exact ⟨_, (true), ey, H', ⟨by have := J1.out; have := J2.out; first | omega | exact Nat.le_refl _⟩, ⟨Z K1⟩, ⟨Z K2⟩, ⟨Z K3⟩, ⟨YA HB⟩⟩
     case rest =>
      clear C3
      try clear c2
      obtain ⟨kq, x3, rfl, HA, J3, K1, K2, K3, HB⟩ := hcut
      cases kq with
      | zero => exact absurd HA.out (by simp [spec_RestDo.j2])
      | succ k3 =>
       have H := HA.out
       clear HA
       simp only [spec_RestDo.j2] at H
       by_cases c3 : x3 = true
       ·subst c3
        rw [if_pos rfl] at H
        obtain ⟨t5, A2, H⟩ := bd H
        try dsimp only at H
        obtain ⟨t6, A3, H⟩ := bd H
        try dsimp only at H
        obtain ⟨⟨t7, t8⟩, A4, H⟩ := bd H
        try dsimp only at H
        simp only [Option.some.injEq, Prod.mk.injEq] at H
        obtain ⟨rfl, rfl⟩ := H
        try go_wp2
        obtain ⟨K1, K2, K3, HB⟩ := dk3 K1 K2 K3 HB
        refine start_ (n := 14) (S := fun w' => w'.cell? ⟨g1, 0, none⟩ = some (.int .i64 a1_0) ∧ w'.cell? ⟨g1, 1, none⟩ = some (.int .i64 a1_1) ∧ w'.cell? ⟨g2, 0, none⟩ = some (.int .i64 a2_0) ∧ w'.cell? ⟨g2, 1, none⟩ = some (.int .i64 a2_1)) (ds := []) (lb 14 0) (by kernel_rfl) rfl rfl ⟨bc K1 0, bc K1 1, bc K2 0, bc K2 1⟩ (fun hHeld => ?_); refine with_tabW spec_RestDo.tab10 spec_RestDo.bits10 (fun HT_ HW_ => ?_)
        generalize wc.drew = w5 at K1 K2 K3 HB hHeld ⊢
        refine pk 0 56 1 ?_
        refine pk 2 58 5 ?_
        refine pk 5 61 37 ?_
        refine pk 7 63 165 ?_
        refine pk 9 65 677 ?_
        refine tk 1 57 679 hHeld ?_
        refine tk 3 59 687 hHeld ?_
        refine tk 8 64 943 hHeld ?_
        refine tk 10 66 1967 hHeld ?_
        refine pk 11 67 4015 ?_
        refine on 4 (some 60) 4031 fun K hK => ?_
        refine goes_ Try.func107 (by kernel_rfl) rfl #[.int .i64 a1_0, .int .i64 a2_0] (by rfl) rfl rfl mz ?_
        with_reducible refine (spec_l9Gcd.calls _ _ _ _ _ A2.out).mono ?_
        rintro e w' ⟨rfl, ⟨nd, rfl⟩⟩
        refine ⟨_, rfl, ?_⟩
        refine kk hK ⟨bc K1 0, bc K1 1, bc K2 0, bc K2 1⟩ fun hHeld => ?_
        clear hK K
        refine on 6 (some 62) 4095 fun K hK => ?_
        refine goes_ Try.func107 (by kernel_rfl) rfl #[.int .i64 t5, .int .i64 t4] (by rfl) rfl rfl mz ?_
        with_reducible refine (spec_l9Gcd.calls _ _ _ _ _ A3.out).mono ?_
        rintro e w' ⟨rfl, ⟨nd, rfl⟩⟩
        refine ⟨_, rfl, ?_⟩
        refine kk hK ⟨bc K1 0, bc K1 1, bc K2 0, bc K2 1⟩ fun hHeld => ?_
        clear hK K
        refine on 12 (some 68) 8191 fun K hK => ?_
        refine ck hK Try.func106 (spec_l9Make.calls _ _ _ _ _ _ A4.out) (fun _ b => bk3 K1 K2 K3 HB b) fun w6 Q_ hHeld => ?_
        clear hK K
        obtain ⟨K1, K2, K3, HB⟩ := Q_
        refine on 13 none 16383 fun K hK => ?_
        have s1 : w6.cell? ⟨g3, 0, none⟩ = some (.int .i64 0) := bc K3 0
        have hfs66 := blk_frozen K3.out 0
        have z_ := ns4 N3 N5 N4 N6
        have s2 : w6.cell? ⟨g3, 1, none⟩ = some (.int .i64 0) := bc K3 1
        have hfs67 := blk_frozen K3.out 1
        have z_ := ns4 N3 N5 N4 N6
        refine skip_ (w1 := ?_) (by rfl) rfl ?_ ?_
        rotate_left
        ·go_simp
         rfl
        refine hK.out _ _ ⟨(cf N3 ((cf N3 (hHeld.1)))), (cf N3 ((cf N3 (hHeld.2.1)))), (cf N5 ((cf N5 (hHeld.2.2.1)))), (cf N5 ((cf N5 (hHeld.2.2.2))))⟩ (fun hHeld => ?_)
        clear hK K
        refine done_ (done_of HT_.out (by kernel_rfl)) ?_
        try go_wp2
        refine bodyPost_ret (results_cell_row rfl _ _ g3 86 #[.int .i64 t7, .int .i64 t8] (0, 0) _ rfl (by refine pf ?_; refine blk_put (cs := #[.int .i64 t7, .int .i64 0]) ?_ 1 _ rfl; refine pf ?_; refine blk_put (cs := #[.int .i64 0, .int .i64 0]) ?_ 0 _ rfl; exact Z K3) Try.underlying86 rfl (by kernel_rfl)) rfl ?_
        exact ⟨ez, YA HB⟩
       replace c3 := Bool.eq_false_iff.mpr c3
       subst c3
       rw [if_neg ff] at H
       have C4 := am H
       clear H
       go_upto_region 11 with (fail)
       go_cut [74] (fun v4 wc => ∃ (kq : Nat) (x4 : Bool), v4 = .bool x4 ∧ Aside0 (spec_RestDo.j3 kq a0 t4 x4 a1_0 a1_1 a2_0 a2_1 = some (r1, r2)) ∧ Aside0 (kq ≤ k3) ∧ Bx2 wc g1 a1_0 a1_1 86 ∧ Bx2 wc g2 a2_0 a2_1 86 ∧ Bx2 wc g3 0 0 86 ∧ Aside0 (Below w.heap.size w wc))
       case first =>
        have H := C4.out
        clear C4
        by_cases c4 : a0 = 2
        rotate_left
        ·rw [if_neg c4] at H
         have d1 := eF c4
         have d2 := nT c4
         (first | rw [d1] | (simp only [i64_w, i32_w]; rw [d1]) | skip)
         have H' := am H
         clear H
         go_wp2
         go_meet
         case rel => exact ⟨_, ((a0 == 12)), ey, H', ⟨by have := J1.out; have := J2.out; have := J3.out; first | omega | exact Nat.le_refl _⟩, ⟨Z K1⟩, ⟨Z K2⟩, ⟨Z K3⟩, ⟨YA HB⟩⟩
        rw [if_pos c4] at H
        have d1 := eT c4
        have d2 := nF c4
        clear c4
        (first | rw [d1] | (simp only [i64_w, i32_w]; rw [d1]) | skip)
        have H' := am H
        clear H
        go_wp2
        go_meet
        case rel => exact ⟨_, (true), ey, H', ⟨by have := J1.out; have := J2.out; have := J3.out; first | omega | exact Nat.le_refl _⟩, ⟨Z K1⟩, ⟨Z K2⟩, ⟨Z K3⟩, ⟨YA HB⟩⟩
       case rest =>
        clear C4
        try clear c3
        obtain ⟨kq, x4, rfl, HA, J4, K1, K2, K3, HB⟩ := hcut
        cases kq with
        | zero => exact absurd HA.out (by simp [spec_RestDo.j3])
        | succ k4 =>
         have H := HA.out
         clear HA
         simp only [spec_RestDo.j3] at H
         by_cases c4 : x4 = true
         ·subst c4
          rw [if_pos rfl] at H
          obtain ⟨t5, A2, H⟩ := bd H
          try dsimp only at H
          obtain ⟨t6, A3, H⟩ := bd H
          try dsimp only at H
          obtain ⟨⟨t7, t8⟩, A4, H⟩ := bd H
          try dsimp only at H
          simp only [Option.some.injEq, Prod.mk.injEq] at H
          obtain ⟨rfl, rfl⟩ := H
          try go_wp2
          obtain ⟨K1, K2, K3, HB⟩ := dk3 K1 K2 K3 HB
          refine start_ (n := 14) (S := fun w' => w'.cell? ⟨g1, 0, none⟩ = some (.int .i64 a1_0) ∧ w'.cell? ⟨g1, 1, none⟩ = some (.int .i64 a1_1) ∧ w'.cell? ⟨g2, 0, none⟩ = some (.int .i64 a2_0) ∧ w'.cell? ⟨g2, 1, none⟩ = some (.int .i64 a2_1)) (ds := []) (lb 14 0) (by kernel_rfl) rfl rfl ⟨bc K1 0, bc K1 1, bc K2 0, bc K2 1⟩ (fun hHeld => ?_); refine with_tabW spec_RestDo.tab12 spec_RestDo.bits12 (fun HT_ HW_ => ?_)
          generalize wc.drew = w5 at K1 K2 K3 HB hHeld ⊢
          refine pk 0 75 1 ?_
          refine pk 2 77 5 ?_
          refine pk 5 80 37 ?_
          refine pk 7 82 165 ?_
          refine pk 9 84 677 ?_
          refine tk 1 76 679 hHeld ?_
          refine tk 3 78 687 hHeld ?_
          refine tk 8 83 943 hHeld ?_
          refine tk 10 85 1967 hHeld ?_
          refine pk 11 86 4015 ?_
          refine on 4 (some 79) 4031 fun K hK => ?_
          refine goes_ Try.func107 (by kernel_rfl) rfl #[.int .i64 a1_0, .int .i64 a2_0] (by rfl) rfl rfl mz ?_
          with_reducible refine (spec_l9Gcd.calls _ _ _ _ _ A2.out).mono ?_
          rintro e w' ⟨rfl, ⟨nd, rfl⟩⟩
          refine ⟨_, rfl, ?_⟩
          refine kk hK ⟨bc K1 0, bc K1 1, bc K2 0, bc K2 1⟩ fun hHeld => ?_
          clear hK K
          refine on 6 (some 81) 4095 fun K hK => ?_
          refine goes_ Try.func107 (by kernel_rfl) rfl #[.int .i64 t5, .int .i64 t4] (by rfl) rfl rfl mz ?_
          with_reducible refine (spec_l9Gcd.calls _ _ _ _ _ A3.out).mono ?_
          rintro e w' ⟨rfl, ⟨nd, rfl⟩⟩
          refine ⟨_, rfl, ?_⟩
          refine kk hK ⟨bc K1 0, bc K1 1, bc K2 0, bc K2 1⟩ fun hHeld => ?_
          clear hK K
          refine on 12 (some 87) 8191 fun K hK => ?_
          refine ck hK Try.func106 (spec_l9Make.calls _ _ _ _ _ _ A4.out) (fun _ b => bk3 K1 K2 K3 HB b) fun w6 Q_ hHeld => ?_
          clear hK K
          obtain ⟨K1, K2, K3, HB⟩ := Q_
          refine on 13 none 16383 fun K hK => ?_
          have s1 : w6.cell? ⟨g3, 0, none⟩ = some (.int .i64 0) := bc K3 0
          have hfs76 := blk_frozen K3.out 0
          have z_ := ns4 N3 N5 N4 N6
          have s2 : w6.cell? ⟨g3, 1, none⟩ = some (.int .i64 0) := bc K3 1
          have hfs77 := blk_frozen K3.out 1
          have z_ := ns4 N3 N5 N4 N6
          refine skip_ (w1 := ?_) (by rfl) rfl ?_ ?_
          rotate_left
          ·go_simp
           rfl
          refine hK.out _ _ ⟨(cf N3 ((cf N3 (hHeld.1)))), (cf N3 ((cf N3 (hHeld.2.1)))), (cf N5 ((cf N5 (hHeld.2.2.1)))), (cf N5 ((cf N5 (hHeld.2.2.2))))⟩ (fun hHeld => ?_)
          clear hK K
          refine done_ (done_of HT_.out (by kernel_rfl)) ?_
          try go_wp2
          refine bodyPost_ret (results_cell_row rfl _ _ g3 86 #[.int .i64 t7, .int .i64 t8] (0, 0) _ rfl (by refine pf ?_; refine blk_put (cs := #[.int .i64 t7, .int .i64 0]) ?_ 1 _ rfl; refine pf ?_; refine blk_put (cs := #[.int .i64 0, .int .i64 0]) ?_ 0 _ rfl; exact Z K3) Try.underlying86 rfl (by kernel_rfl)) rfl ?_
          exact ⟨ez, YA HB⟩
         replace c4 := Bool.eq_false_iff.mpr c4
         subst c4
         rw [if_neg ff] at H
         have C5 := am H
         clear H
         go_upto_region 13 with (fail)
         go_cut [99] (fun v5 wc => ∃ (kq : Nat) (x5 : Bool), v5 = .bool x5 ∧ Aside0 (spec_RestDo.j4 kq a0 t4 x5 a1_0 a1_1 a2_0 a2_1 = some (r1, r2)) ∧ Aside0 (kq ≤ k4) ∧ Bx2 wc g1 a1_0 a1_1 86 ∧ Bx2 wc g2 a2_0 a2_1 86 ∧ Bx2 wc g3 0 0 86 ∧ Aside0 (Below w.heap.size w wc))
         case first =>
          have H := C5.out
          clear C5
          by_cases c5 : a0 = 9
          rotate_left
          ·rw [if_neg c5] at H
           have d1 := eF c5
           have d2 := nT c5
           (first | rw [d1] | (simp only [i64_w, i32_w]; rw [d1]) | skip)
           have H' := am H
           clear H
           go_wp2
           go_meet
           case rel => exact ⟨_, (false), ey, H', ⟨by have := J1.out; have := J2.out; have := J3.out; have := J4.out; first | omega | exact Nat.le_refl _⟩, ⟨Z K1⟩, ⟨Z K2⟩, ⟨Z K3⟩, ⟨YA HB⟩⟩
          rw [if_pos c5] at H
          have d1 := eT c5
          have d2 := nF c5
          clear c5
          (first | rw [d1] | (simp only [i64_w, i32_w]; rw [d1]) | skip)
          by_cases c6 : a2_0 = 0
          rotate_left
          ·rw [if_neg c6] at H
           have d3 := eF c6
           have d4 := nT c6
           have H' := am H
           clear H
           have z_ := ns2 N2 N5
           have z_ := cB2 K2
           go_wp2
           go_meet
           case rel => exact ⟨_, (false), ey, H', ⟨by have := J1.out; have := J2.out; have := J3.out; have := J4.out; first | omega | exact Nat.le_refl _⟩, ⟨Z K1⟩, ⟨Z K2⟩, ⟨Z K3⟩, ⟨YA HB⟩⟩
          rw [if_pos c6] at H
          have d3 := eT c6
          have d4 := nF c6
          clear c6
          obtain ⟨t5, A2, H⟩ := bd H
          try dsimp only at H
          have H' := am H
          clear H
          have z_ := ns2 N2 N5
          have z_ := cB2 K2
          go_wp2_with (first | (go_at_call 37; (with_reducible refine (spec_l1In.calls _ _ _ _ _ A2.out).mono ?_); rintro e w' ⟨rfl, ⟨nd, rfl⟩⟩))
          go_meet
          case rel => exact ⟨_, (t5), ey, H', ⟨by have := J1.out; have := J2.out; have := J3.out; have := J4.out; first | omega | exact Nat.le_refl _⟩, ⟨Z K1⟩, ⟨Z K2⟩, ⟨Z K3⟩, ⟨YA HB⟩⟩
         case rest =>
          clear C5
          try clear c4
          obtain ⟨kq, x5, rfl, HA, J5, K1, K2, K3, HB⟩ := hcut
          cases kq with
          | zero => exact absurd HA.out (by simp [spec_RestDo.j4])
          | succ k5 =>
           have H := HA.out
           clear HA
           simp only [spec_RestDo.j4] at H
           by_cases c5 : x5 = true
           ·subst c5
            rw [if_pos rfl] at H
            obtain ⟨t5, A2, H⟩ := bd H
            try dsimp only at H
            obtain ⟨t6, A3, H⟩ := bd H
            try dsimp only at H
            obtain ⟨⟨t7, t8⟩, A4, H⟩ := bd H
            try dsimp only at H
            simp only [Option.some.injEq, Prod.mk.injEq] at H
            obtain ⟨rfl, rfl⟩ := H
            try go_wp2
            obtain ⟨K1, K2, K3, HB⟩ := dk3 K1 K2 K3 HB
            refine start_ (n := 14) (S := fun w' => w'.cell? ⟨g1, 0, none⟩ = some (.int .i64 a1_0) ∧ w'.cell? ⟨g1, 1, none⟩ = some (.int .i64 a1_1) ∧ w'.cell? ⟨g2, 0, none⟩ = some (.int .i64 a2_0) ∧ w'.cell? ⟨g2, 1, none⟩ = some (.int .i64 a2_1)) (ds := []) (lb 14 0) (by kernel_rfl) rfl rfl ⟨bc K1 0, bc K1 1, bc K2 0, bc K2 1⟩ (fun hHeld => ?_); refine with_tabW spec_RestDo.tab14 spec_RestDo.bits14 (fun HT_ HW_ => ?_)
            generalize wc.drew = w5 at K1 K2 K3 HB hHeld ⊢
            refine pk 0 100 1 ?_
            refine pk 2 102 5 ?_
            refine pk 6 106 69 ?_
            refine pk 8 108 325 ?_
            refine tk 1 101 327 hHeld ?_
            refine tk 3 103 335 hHeld ?_
            refine tk 7 107 463 hHeld ?_
            refine tk 9 109 975 hHeld ?_
            refine on 4 (some 104) 991 fun K hK => ?_
            refine goes_ Try.func98 (by kernel_rfl) rfl #[.int .i64 a2_1] (by rfl) rfl rfl mz ?_
            with_reducible refine (spec_l1Power.calls _ _ _ _ A2.out).mono ?_
            rintro e w' ⟨rfl, ⟨nd, rfl⟩⟩
            refine ⟨_, rfl, ?_⟩
            refine kk hK ⟨bc K1 0, bc K1 1, bc K2 0, bc K2 1⟩ fun hHeld => ?_
            clear hK K
            refine pk 5 105 1023 ?_
            refine on 10 (some 110) 2047 fun K hK => ?_
            refine goes_ Try.func98 (by kernel_rfl) rfl #[.int .i64 a2_1] (by rfl) rfl rfl mz ?_
            with_reducible refine (spec_l1Power.calls _ _ _ _ A3.out).mono ?_
            rintro e w' ⟨rfl, ⟨nd, rfl⟩⟩
            refine ⟨_, rfl, ?_⟩
            refine kk hK ⟨bc K1 0, bc K1 1, bc K2 0, bc K2 1⟩ fun hHeld => ?_
            clear hK K
            refine pk 11 111 4095 ?_
            refine on 12 (some 112) 8191 fun K hK => ?_
            refine ck hK Try.func106 (spec_l9Make.calls _ _ _ _ _ _ A4.out) (fun _ b => bk3 K1 K2 K3 HB b) fun w6 Q_ hHeld => ?_
            clear hK K
            obtain ⟨K1, K2, K3, HB⟩ := Q_
            refine on 13 none 16383 fun K hK => ?_
            have s1 : w6.cell? ⟨g3, 0, none⟩ = some (.int .i64 0) := bc K3 0
            have hfs94 := blk_frozen K3.out 0
            have z_ := ns4 N3 N5 N4 N6
            have s2 : w6.cell? ⟨g3, 1, none⟩ = some (.int .i64 0) := bc K3 1
            have hfs95 := blk_frozen K3.out 1
            have z_ := ns4 N3 N5 N4 N6
            refine skip_ (w1 := ?_) (by rfl) rfl ?_ ?_
            rotate_left
            ·go_simp
             rfl
            refine hK.out _ _ ⟨(cf N3 ((cf N3 (hHeld.1)))), (cf N3 ((cf N3 (hHeld.2.1)))), (cf N5 ((cf N5 (hHeld.2.2.1)))), (cf N5 ((cf N5 (hHeld.2.2.2))))⟩ (fun hHeld => ?_)
            clear hK K
            refine done_ (done_of HT_.out (by kernel_rfl)) ?_
            try go_wp2
            refine bodyPost_ret (results_cell_row rfl _ _ g3 86 #[.int .i64 t7, .int .i64 t8] (0, 0) _ rfl (by refine pf ?_; refine blk_put (cs := #[.int .i64 t7, .int .i64 0]) ?_ 1 _ rfl; refine pf ?_; refine blk_put (cs := #[.int .i64 0, .int .i64 0]) ?_ 0 _ rfl; exact Z K3) Try.underlying86 rfl (by kernel_rfl)) rfl ?_
            exact ⟨ez, YA HB⟩
           replace c5 := Bool.eq_false_iff.mpr c5
           subst c5
           rw [if_neg ff] at H
           have C6 := am H
           clear H
           go_upto_region 15 with (fail)
           go_cut [118] (fun v6 wc => ∃ (kq : Nat) (x6 : Bool), v6 = .bool x6 ∧ Aside0 (spec_RestDo.j5 kq a0 t4 x6 a1_0 a1_1 a2_0 a2_1 = some (r1, r2)) ∧ Aside0 (kq ≤ k5) ∧ Bx2 wc g1 a1_0 a1_1 86 ∧ Bx2 wc g2 a2_0 a2_1 86 ∧ Bx2 wc g3 0 0 86 ∧ Aside0 (Below w.heap.size w wc))
           case first =>
            have H := C6.out
            clear C6
            by_cases c6 : a0 = 3
            rotate_left
            ·rw [if_neg c6] at H
             have d1 := eF c6
             have d2 := nT c6
             (first | rw [d1] | (simp only [i64_w, i32_w]; rw [d1]) | skip)
             have H' := am H
             clear H
             go_wp2
             go_meet
             case rel => exact ⟨_, ((a0 == 13)), ey, H', ⟨by have := J1.out; have := J2.out; have := J3.out; have := J4.out; have := J5.out; first | omega | exact Nat.le_refl _⟩, ⟨Z K1⟩, ⟨Z K2⟩, ⟨Z K3⟩, ⟨YA HB⟩⟩
            rw [if_pos c6] at H
            have d1 := eT c6
            have d2 := nF c6
            clear c6
            (first | rw [d1] | (simp only [i64_w, i32_w]; rw [d1]) | skip)
            have H' := am H
            clear H
            go_wp2
            go_meet
            case rel => exact ⟨_, (true), ey, H', ⟨by have := J1.out; have := J2.out; have := J3.out; have := J4.out; have := J5.out; first | omega | exact Nat.le_refl _⟩, ⟨Z K1⟩, ⟨Z K2⟩, ⟨Z K3⟩, ⟨YA HB⟩⟩
           case rest =>
            clear C6
            try clear c5
            obtain ⟨kq, x6, rfl, HA, J6, K1, K2, K3, HB⟩ := hcut
            cases kq with
            | zero => exact absurd HA.out (by simp [spec_RestDo.j5])
            | succ k6 =>
             have H := HA.out
             clear HA
             simp only [spec_RestDo.j5] at H
             by_cases c6 : x6 = true
             rotate_left
             ·replace c6 := Bool.eq_false_iff.mpr c6
              subst c6
              rw [if_neg ff] at H
              by_cases c7 : a0 = 5
              rotate_left
              ·rw [if_neg c7] at H
               have d1 := eF c7
               have d2 := nT c7
               obtain ⟨⟨t5, t6⟩, A2, H⟩ := bd H
               try dsimp only at H
               simp only [Option.some.injEq, Prod.mk.injEq] at H
               obtain ⟨rfl, rfl⟩ := H
               go_wp2_with (first | ((with_reducible refine gate_callee (f := 104) rfl ?_); refine gL 165 Try.func104 (spec_l9All.calls _ _ _ A2.out) fun w5 hb => ?_; obtain ⟨K1, K2, K3, HB⟩ := bk3 K1 K2 K3 HB hb; (try clear hb); have z_ := ns2 N4 N6; have z_ := cB2 K3))
               refine bodyPost_ret (results_cell_row rfl _ _ g3 86 #[.int .i64 t5, .int .i64 t6] (0, 0) _ rfl (by refine pf ?_; refine blk_put (cs := #[.int .i64 t5, .int .i64 0]) ?_ 1 _ rfl; refine pf ?_; refine blk_put (cs := #[.int .i64 0, .int .i64 0]) ?_ 0 _ rfl; exact Z K3) Try.underlying86 rfl (by kernel_rfl)) rfl ?_
               exact ⟨ez, YA HB⟩
              rw [if_pos c7] at H
              have d1 := eT c7
              have d2 := nF c7
              clear c7
              obtain ⟨t5, A2, H⟩ := bd H
              try dsimp only at H
              obtain ⟨t6, A3, H⟩ := bd H
              try dsimp only at H
              by_cases c8 : t6 = 0
              ·rw [if_pos c8] at H
               have d3 := eT c8
               have d4 := nF c8
               clear c8
               obtain ⟨⟨t7, t8⟩, A4, H⟩ := bd H
               try dsimp only at H
               simp only [Option.some.injEq, Prod.mk.injEq] at H
               obtain ⟨rfl, rfl⟩ := H
               try go_wp2
               obtain ⟨K1, K2, K3, HB⟩ := dk3 K1 K2 K3 HB
               refine start_ (n := 9) (S := fun w' => w'.cell? ⟨g1, 0, none⟩ = some (.int .i64 a1_0) ∧ w'.cell? ⟨g1, 1, none⟩ = some (.int .i64 a1_1) ∧ w'.cell? ⟨g2, 0, none⟩ = some (.int .i64 a2_0) ∧ w'.cell? ⟨g2, 1, none⟩ = some (.int .i64 a2_1)) (ds := []) (lb 9 0) (by kernel_rfl) rfl rfl ⟨bc K1 0, bc K1 1, bc K2 0, bc K2 1⟩ (fun hHeld => ?_); refine with_tabW spec_RestDo.tab21 spec_RestDo.bits21 (fun HT_ HW_ => ?_)
               generalize wc.drew = w5 at K1 K2 K3 HB hHeld ⊢
               refine pk 0 150 1 ?_
               refine pk 2 152 5 ?_
               refine pk 4 154 21 ?_
               refine tk 1 151 23 hHeld ?_
               refine tk 3 153 31 hHeld ?_
               refine tk 5 155 63 hHeld ?_
               refine on 6 (some 156) 127 fun K hK => ?_
               refine goes_ Try.func107 (by kernel_rfl) rfl #[.int .i64 a2_0, .int .i64 a2_1] (by rfl) rfl rfl mz ?_
               with_reducible refine (spec_l9Gcd.calls _ _ _ _ _ A2.out).mono ?_
               rintro e w' ⟨rfl, ⟨nd, rfl⟩⟩
               refine ⟨_, rfl, ?_⟩
               refine kk hK ⟨bc K1 0, bc K1 1, bc K2 0, bc K2 1⟩ fun hHeld => ?_
               clear hK K
               refine on 7 (some 157) 255 fun K hK => ?_
               refine goes_ Try.func107 (by kernel_rfl) rfl #[.int .i64 a1_0, .int .i64 t5] (by rfl) rfl rfl mz ?_
               with_reducible refine (spec_l9Gcd.calls _ _ _ _ _ A3.out).mono ?_
               rintro e w' ⟨rfl, ⟨nd, rfl⟩⟩
               refine ⟨_, rfl, ?_⟩
               refine kk hK ⟨bc K1 0, bc K1 1, bc K2 0, bc K2 1⟩ fun hHeld => ?_
               clear hK K
               refine pk 8 11 511 ?_
               refine done_ (done_of HT_.out (by kernel_rfl)) ?_
               try go_wp2_with (first | ((with_reducible refine gate_callee (f := 104) rfl ?_); refine gL 160 Try.func104 (spec_l9All.calls _ _ _ A4.out) fun w6 hb => ?_; obtain ⟨K1, K2, K3, HB⟩ := bk3 K1 K2 K3 HB hb; (try clear hb); have z_ := ns2 N4 N6; have z_ := cB2 K3))
               refine bodyPost_ret (results_cell_row rfl _ _ g3 86 #[.int .i64 t7, .int .i64 t8] (0, 0) _ rfl (by refine pf ?_; refine blk_put (cs := #[.int .i64 t7, .int .i64 0]) ?_ 1 _ rfl; refine pf ?_; refine blk_put (cs := #[.int .i64 0, .int .i64 0]) ?_ 0 _ rfl; exact Z K3) Try.underlying86 rfl (by kernel_rfl)) rfl ?_
               exact ⟨ez, YA HB⟩
              rw [if_neg c8] at H
              have d3 := eF c8
              have d4 := nT c8
              obtain ⟨⟨t7, t8⟩, A4, H⟩ := bd H
              try dsimp only at H
              simp only [Option.some.injEq, Prod.mk.injEq] at H
              obtain ⟨rfl, rfl⟩ := H
              try go_wp2
              obtain ⟨K1, K2, K3, HB⟩ := dk3 K1 K2 K3 HB
              refine start_ (n := 9) (S := fun w' => w'.cell? ⟨g1, 0, none⟩ = some (.int .i64 a1_0) ∧ w'.cell? ⟨g1, 1, none⟩ = some (.int .i64 a1_1) ∧ w'.cell? ⟨g2, 0, none⟩ = some (.int .i64 a2_0) ∧ w'.cell? ⟨g2, 1, none⟩ = some (.int .i64 a2_1)) (ds := []) (lb 9 0) (by kernel_rfl) rfl rfl ⟨bc K1 0, bc K1 1, bc K2 0, bc K2 1⟩ (fun hHeld => ?_); refine with_tabW spec_RestDo.tab21 spec_RestDo.bits21 (fun HT_ HW_ => ?_)
              generalize wc.drew = w5 at K1 K2 K3 HB hHeld ⊢
              refine pk 0 150 1 ?_
              refine pk 2 152 5 ?_
              refine pk 4 154 21 ?_
              refine tk 1 151 23 hHeld ?_
              refine tk 3 153 31 hHeld ?_
              refine tk 5 155 63 hHeld ?_
              refine on 6 (some 156) 127 fun K hK => ?_
              refine goes_ Try.func107 (by kernel_rfl) rfl #[.int .i64 a2_0, .int .i64 a2_1] (by rfl) rfl rfl mz ?_
              with_reducible refine (spec_l9Gcd.calls _ _ _ _ _ A2.out).mono ?_
              rintro e w' ⟨rfl, ⟨nd, rfl⟩⟩
              refine ⟨_, rfl, ?_⟩
              refine kk hK ⟨bc K1 0, bc K1 1, bc K2 0, bc K2 1⟩ fun hHeld => ?_
              clear hK K
              refine on 7 (some 157) 255 fun K hK => ?_
              refine goes_ Try.func107 (by kernel_rfl) rfl #[.int .i64 a1_0, .int .i64 t5] (by rfl) rfl rfl mz ?_
              with_reducible refine (spec_l9Gcd.calls _ _ _ _ _ A3.out).mono ?_
              rintro e w' ⟨rfl, ⟨nd, rfl⟩⟩
              refine ⟨_, rfl, ?_⟩
              refine kk hK ⟨bc K1 0, bc K1 1, bc K2 0, bc K2 1⟩ fun hHeld => ?_
              clear hK K
              refine pk 8 11 511 ?_
              refine done_ (done_of HT_.out (by kernel_rfl)) ?_
              have z_ := ns2 N1 N3
              have z_ := cB2 K1
              try go_wp2_with (first | ((with_reducible refine gate_callee (f := 106) rfl ?_); refine gL 164 Try.func106 (spec_l9Make.calls _ _ _ _ _ _ A4.out) fun w6 hb => ?_; obtain ⟨K1, K2, K3, HB⟩ := bk3 K1 K2 K3 HB hb; (try clear hb); have z_ := ns1 N6; have z_ := cB2 K3))
              refine bodyPost_ret (results_cell_row rfl _ _ g3 86 #[.int .i64 t7, .int .i64 t8] (0, 0) _ rfl (by refine pf ?_; refine blk_put (cs := #[.int .i64 t7, .int .i64 0]) ?_ 1 _ rfl; refine pf ?_; refine blk_put (cs := #[.int .i64 0, .int .i64 0]) ?_ 0 _ rfl; exact Z K3) Try.underlying86 rfl (by kernel_rfl)) rfl ?_
              exact ⟨ez, YA HB⟩
             subst c6
             rw [if_pos rfl] at H
             obtain ⟨t5, A2, H⟩ := bd H
             try dsimp only at H
             obtain ⟨t6, A3, H⟩ := bd H
             try dsimp only at H
             by_cases c7 : t6 = 0
             ·rw [if_pos c7] at H
              have d1 := eT c7
              have d2 := nF c7
              clear c7
              simp only [Option.some.injEq, Prod.mk.injEq] at H
              obtain ⟨rfl, rfl⟩ := H
              try go_wp2
              obtain ⟨K1, K2, K3, HB⟩ := dk3 K1 K2 K3 HB
              refine start_ (n := 18) (S := fun w' => w'.cell? ⟨g1, 0, none⟩ = some (.int .i64 a1_0) ∧ w'.cell? ⟨g1, 1, none⟩ = some (.int .i64 a1_1) ∧ w'.cell? ⟨g2, 0, none⟩ = some (.int .i64 a2_0) ∧ w'.cell? ⟨g2, 1, none⟩ = some (.int .i64 a2_1)) (ds := []) (lb 18 0) (by kernel_rfl) rfl rfl ⟨bc K1 0, bc K1 1, bc K2 0, bc K2 1⟩ (fun hHeld => ?_); refine with_tabW spec_RestDo.tab16 spec_RestDo.bits16 (fun HT_ HW_ => ?_)
              generalize wc.drew = w5 at K1 K2 K3 HB hHeld ⊢
              refine pk 0 119 1 ?_
              refine pk 2 121 5 ?_
              refine pk 5 124 37 ?_
              refine pk 7 126 165 ?_
              refine pk 11 130 2213 ?_
              refine pk 13 132 10405 ?_
              refine tk 1 120 10407 hHeld ?_
              refine tk 3 122 10415 hHeld ?_
              refine pk 4 123 10431 ?_
              refine tk 6 125 10495 hHeld ?_
              refine tk 8 127 10751 hHeld ?_
              refine pk 9 128 11263 ?_
              refine tk 12 131 15359 hHeld ?_
              refine tk 14 133 31743 hHeld ?_
              refine pk 15 134 64511 ?_
              refine on 10 (some 129) 65535 fun K hK => ?_
              refine goes_ Try.func107 (by kernel_rfl) rfl #[.int .i64 (wrap64 (a1_0 * a2_0)), .int .i64 (wrap64 (a1_0 * a2_1))] (by rfl) rfl rfl mz ?_
              with_reducible refine (spec_l9Gcd.calls _ _ _ _ _ A2.out).mono ?_
              rintro e w' ⟨rfl, ⟨nd, rfl⟩⟩
              refine ⟨_, rfl, ?_⟩
              refine kk hK ⟨bc K1 0, bc K1 1, bc K2 0, bc K2 1⟩ fun hHeld => ?_
              clear hK K
              refine on 16 (some 135) 131071 fun K hK => ?_
              refine goes_ Try.func107 (by kernel_rfl) rfl #[.int .i64 t5, .int .i64 (wrap64 (a2_0 * a1_1))] (by rfl) rfl rfl mz ?_
              with_reducible refine (spec_l9Gcd.calls _ _ _ _ _ A3.out).mono ?_
              rintro e w' ⟨rfl, ⟨nd, rfl⟩⟩
              refine ⟨_, rfl, ?_⟩
              refine kk hK ⟨bc K1 0, bc K1 1, bc K2 0, bc K2 1⟩ fun hHeld => ?_
              clear hK K
              refine pk 17 10 262143 ?_
              refine done_ (done_of HT_.out (by kernel_rfl)) ?_
              have z_ := ns2 N4 N6
              have z_ := cB2 K3
              try go_wp2
              refine bodyPost_ret (results_cell_row rfl _ _ g3 86 #[.int .i64 0, .int .i64 0] (0, 0) _ rfl (by refine pf ?_; refine blk_put (cs := #[.int .i64 0, .int .i64 0]) ?_ 1 _ rfl; refine pf ?_; refine blk_put (cs := #[.int .i64 0, .int .i64 0]) ?_ 0 _ rfl; exact Z K3) Try.underlying86 rfl (by kernel_rfl)) rfl ?_
              exact ⟨ez, YA HB⟩
             rw [if_neg c7] at H
             have d1 := eF c7
             have d2 := nT c7
             obtain ⟨t7, A4, H⟩ := bd H
             try dsimp only at H
             obtain ⟨⟨t8, t9⟩, A5, H⟩ := bd H
             try dsimp only at H
             simp only [Option.some.injEq, Prod.mk.injEq] at H
             obtain ⟨rfl, rfl⟩ := H
             try go_wp2
             obtain ⟨K1, K2, K3, HB⟩ := dk3 K1 K2 K3 HB
             refine start_ (n := 18) (S := fun w' => w'.cell? ⟨g1, 0, none⟩ = some (.int .i64 a1_0) ∧ w'.cell? ⟨g1, 1, none⟩ = some (.int .i64 a1_1) ∧ w'.cell? ⟨g2, 0, none⟩ = some (.int .i64 a2_0) ∧ w'.cell? ⟨g2, 1, none⟩ = some (.int .i64 a2_1)) (ds := []) (lb 18 0) (by kernel_rfl) rfl rfl ⟨bc K1 0, bc K1 1, bc K2 0, bc K2 1⟩ (fun hHeld => ?_); refine with_tabW spec_RestDo.tab16 spec_RestDo.bits16 (fun HT_ HW_ => ?_)
             generalize wc.drew = w5 at K1 K2 K3 HB hHeld ⊢
             refine pk 0 119 1 ?_
             refine pk 2 121 5 ?_
             refine pk 5 124 37 ?_
             refine pk 7 126 165 ?_
             refine pk 11 130 2213 ?_
             refine pk 13 132 10405 ?_
             refine tk 1 120 10407 hHeld ?_
             refine tk 3 122 10415 hHeld ?_
             refine pk 4 123 10431 ?_
             refine tk 6 125 10495 hHeld ?_
             refine tk 8 127 10751 hHeld ?_
             refine pk 9 128 11263 ?_
             refine tk 12 131 15359 hHeld ?_
             refine tk 14 133 31743 hHeld ?_
             refine pk 15 134 64511 ?_
             refine on 10 (some 129) 65535 fun K hK => ?_
             refine goes_ Try.func107 (by kernel_rfl) rfl #[.int .i64 (wrap64 (a1_0 * a2_0)), .int .i64 (wrap64 (a1_0 * a2_1))] (by rfl) rfl rfl mz ?_
             with_reducible refine (spec_l9Gcd.calls _ _ _ _ _ A2.out).mono ?_
             rintro e w' ⟨rfl, ⟨nd, rfl⟩⟩
             refine ⟨_, rfl, ?_⟩
             refine kk hK ⟨bc K1 0, bc K1 1, bc K2 0, bc K2 1⟩ fun hHeld => ?_
             clear hK K
             refine on 16 (some 135) 131071 fun K hK => ?_
             refine goes_ Try.func107 (by kernel_rfl) rfl #[.int .i64 t5, .int .i64 (wrap64 (a2_0 * a1_1))] (by rfl) rfl rfl mz ?_
             with_reducible refine (spec_l9Gcd.calls _ _ _ _ _ A3.out).mono ?_
             rintro e w' ⟨rfl, ⟨nd, rfl⟩⟩
             refine ⟨_, rfl, ?_⟩
             refine kk hK ⟨bc K1 0, bc K1 1, bc K2 0, bc K2 1⟩ fun hHeld => ?_
             clear hK K
             refine pk 17 10 262143 ?_
             refine done_ (done_of HT_.out (by kernel_rfl)) ?_
             try go_wp2
             (try (rw [drewN_self w5]; generalize hq_ : World.drewN w5 _ = w5; replace K1 : Bx2 w5 g1 a1_0 a1_1 86 := ⟨by rw [← hq_]; exact (Z K1)⟩; replace K2 : Bx2 w5 g2 a2_0 a2_1 86 := ⟨by rw [← hq_]; exact (Z K2)⟩; replace K3 : Bx2 w5 g3 0 0 86 := ⟨by rw [← hq_]; exact (Z K3)⟩; replace HB : Aside0 (Below w.heap.size w w5) := ⟨by rw [← hq_]; exact (YA HB)⟩; clear hq_))
             obtain ⟨K1, K2, K3, HB⟩ := dk3 K1 K2 K3 HB
             refine start_ (n := 10) (S := fun w' => w'.cell? ⟨g1, 0, none⟩ = some (.int .i64 a1_0) ∧ w'.cell? ⟨g1, 1, none⟩ = some (.int .i64 a1_1) ∧ w'.cell? ⟨g2, 0, none⟩ = some (.int .i64 a2_0) ∧ w'.cell? ⟨g2, 1, none⟩ = some (.int .i64 a2_1)) (ds := []) (lb 10 0) (by kernel_rfl) rfl rfl ⟨bc K1 0, bc K1 1, bc K2 0, bc K2 1⟩ (fun hHeld => ?_); refine with_tabW spec_RestDo.tab19 spec_RestDo.bits19 (fun HT_ HW_ => ?_)
             generalize w5.drew = w6 at K1 K2 K3 HB hHeld ⊢
             refine pk 0 139 1 ?_
             refine pk 1 140 3 ?_
             refine pk 3 142 11 ?_
             refine pk 5 144 43 ?_
             refine tk 4 143 59 hHeld ?_
             refine tk 6 145 123 hHeld ?_
             refine pk 7 146 251 ?_
             refine on 2 (some 141) 255 fun K hK => ?_
             refine goes_ Try.func107 (by kernel_rfl) rfl #[.int .i64 t6, .int .i64 t4] (by rfl) rfl rfl mz ?_
             with_reducible refine (spec_l9Gcd.calls _ _ _ _ _ A4.out).mono ?_
             rintro e w' ⟨rfl, ⟨nd, rfl⟩⟩
             refine ⟨_, rfl, ?_⟩
             refine kk hK ⟨bc K1 0, bc K1 1, bc K2 0, bc K2 1⟩ fun hHeld => ?_
             clear hK K
             refine on 8 (some 147) 511 fun K hK => ?_
             refine ck hK Try.func106 (spec_l9Make.calls _ _ _ _ _ _ A5.out) (fun _ b => bk3 K1 K2 K3 HB b) fun w7 Q_ hHeld => ?_
             clear hK K
             obtain ⟨K1, K2, K3, HB⟩ := Q_
             refine on 9 none 1023 fun K hK => ?_
             have s1 : w7.cell? ⟨g3, 0, none⟩ = some (.int .i64 0) := bc K3 0
             have hfs111 := blk_frozen K3.out 0
             have z_ := ns4 N3 N5 N4 N6
             have s2 : w7.cell? ⟨g3, 1, none⟩ = some (.int .i64 0) := bc K3 1
             have hfs112 := blk_frozen K3.out 1
             have z_ := ns4 N3 N5 N4 N6
             refine skip_ (w1 := ?_) (by rfl) rfl ?_ ?_
             rotate_left
             ·go_simp
              rfl
             refine hK.out _ _ ⟨(cf N3 ((cf N3 (hHeld.1)))), (cf N3 ((cf N3 (hHeld.2.1)))), (cf N5 ((cf N5 (hHeld.2.2.1)))), (cf N5 ((cf N5 (hHeld.2.2.2))))⟩ (fun hHeld => ?_)
             clear hK K
             refine done_ (done_of HT_.out (by kernel_rfl)) ?_
             try go_wp2
             refine bodyPost_ret (results_cell_row rfl _ _ g3 86 #[.int .i64 t8, .int .i64 t9] (0, 0) _ rfl (by refine pf ?_; refine blk_put (cs := #[.int .i64 t8, .int .i64 0]) ?_ 1 _ rfl; refine pf ?_; refine blk_put (cs := #[.int .i64 0, .int .i64 0]) ?_ 0 _ rfl; exact Z K3) Try.underlying86 rfl (by kernel_rfl)) rfl ?_
             exact ⟨ez, YA HB⟩
end
section
attribute [local go_sem] max2_int min2_int max_two min_two max_three min_three max_four min_four
attribute [local go_sem high] eqA50
attribute [local go_sem] Go.Proofs.YthbkakcchgnhpaaSet.isSome_setCell
def spec_ValDo.j0 : Nat → Int → Bool → Int → Int → Int → Int → Int → Int → Int → Int → Option (Int × Int × Int × Int × List Int)
 | 0, _, _, _, _, _, _, _, _, _, _ => none
 | k + 1, x1, x2, x3, x4, x5, x6, x7, x8, x9, x10 => if x2 = true then ((spec_l10None.f).bind fun u1 => (some (u1.1, u1.2.1, u1.2.2.1, u1.2.2.2, (([] : List Int))))) else ((spec_l10Range.f x3 x4 x5 x6).bind fun u2 => ((spec_l10Range.f x7 x8 x9 x10).bind fun u3 => ((spec_RangeDo.f k x1 u2.1 u2.2 u3.1 u3.2).bind fun u4 => ((spec_l10Rest.f x3 x4 x5 x6).bind fun u5 => ((spec_l10Rest.f x7 x8 x9 x10).bind fun u6 => ((spec_RestDo.f k x1 u5.1 u5.2 u6.1 u6.2).bind fun u7 => ((spec_ValMake.f k u4.1 u4.2.1 u7.1 u7.2).bind fun u8 => (some (u8.1, u8.2.1, u8.2.2.1, u8.2.2.2, u4.2.2)))))))))
def spec_ValDo.f (k : Nat) (a0 : Int) (a1_0 : Int) (a1_1 : Int) (a1_2 : Int) (a1_3 : Int) (a2_0 : Int) (a2_1 : Int) (a2_2 : Int) (a2_3 : Int) : Option (Int × Int × Int × Int × List Int) := (spec_ValOk.f k a1_0 a1_1 a1_2 a1_3).bind fun t1 => (if t1 = true then ((spec_ValOk.f k a2_0 a2_1 a2_2 a2_3).bind fun t2 => (if t2 = true then ((spec_l10None.f).bind fun u1 => (if (a1_0 == u1.1 && (a1_1 == u1.2.1 && (a1_2 == u1.2.2.1 && (a1_3 == u1.2.2.2)))) = true then (spec_ValDo.j0 k a0 true a1_0 a1_1 a1_2 a1_3 a2_0 a2_1 a2_2 a2_3) else ((spec_l10None.f).bind fun u2 => (spec_ValDo.j0 k a0 (a2_0 == u2.1 && (a2_1 == u2.2.1 && (a2_2 == u2.2.2.1 && (a2_3 == u2.2.2.2)))) a1_0 a1_1 a1_2 a1_3 a2_0 a2_1 a2_2 a2_3)))) else (spec_ValDo.j0 k a0 true a1_0 a1_1 a1_2 a1_3 a2_0 a2_1 a2_2 a2_3))) else (spec_ValDo.j0 k a0 true a1_0 a1_1 a1_2 a1_3 a2_0 a2_1 a2_2 a2_3))
theorem spec_ValDo.mono_l : ∀ k, (∀ y0 y1 y2 y3 y4 y5 y6 y7 y8 y9, LeO (spec_ValDo.j0 k y0 y1 y2 y3 y4 y5 y6 y7 y8 y9) (spec_ValDo.j0 (k + 1) y0 y1 y2 y3 y4 y5 y6 y7 y8 y9))
 | 0 => fun _ _ _ _ _ _ _ _ _ _ r h => by simp [spec_ValDo.j0] at h
 | k + 1 => by
  have ih0 := spec_ValDo.mono_l k
  ·intro y0 y1 y2 y3 y4 y5 y6 y7 y8 y9
   unfold spec_ValDo.j0
   repeat' first | (with_reducible first | apply ih0 | apply spec_RangeDo.mono | apply spec_RestDo.mono | apply spec_ValMake.mono | apply spec_ValOk.mono | apply LeO.refl | apply LeO.none | refine LeO.ite ?_ ?_ | refine LeO.bind ?_ (fun _ => ?_)) | apply ih0 | apply spec_RangeDo.mono | apply spec_RestDo.mono | apply spec_ValMake.mono | apply spec_ValOk.mono | apply LeO.none | refine LeO.ite ?_ ?_ | refine LeO.bind ?_ (fun _ => ?_)
theorem spec_ValDo.mono : ∀ a0 a1 a2 a3 a4 a5 a6 a7 a8 k, LeO (spec_ValDo.f k a0 a1 a2 a3 a4 a5 a6 a7 a8) (spec_ValDo.f (k + 1) a0 a1 a2 a3 a4 a5 a6 a7 a8) := by
 intro a0 a1 a2 a3 a4 a5 a6 a7 a8 k
 have ih0 := spec_ValDo.mono_l k
 unfold spec_ValDo.f
 repeat' first | (with_reducible first | apply ih0 | apply spec_RangeDo.mono | apply spec_RestDo.mono | apply spec_ValMake.mono | apply spec_ValOk.mono | apply LeO.refl | apply LeO.none | refine LeO.ite ?_ ?_ | refine LeO.bind ?_ (fun _ => ?_)) | apply ih0 | apply spec_RangeDo.mono | apply spec_RestDo.mono | apply spec_ValMake.mono | apply spec_ValOk.mono | apply LeO.none | refine LeO.ite ?_ ?_ | refine LeO.bind ?_ (fun _ => ?_)
def spec_ValDo.T1 : Bool × List (List Nat × List Nat) := (true, [([], []), ([0], [0]), ([1], [1]), ([2, 1], [2]), ([3], [3]), ([4, 3, 3], [3, 4]), ([5, 3], [3, 5]), ([3, 6], [3, 6]), ([7, 5], [7]), ([8], [8]), ([8, 8], [8]), ([9, 10, 8], [8, 9, 10]), ([8, 11], [8, 11]), ([12, 10], [12]), ([13], [13]), ([13, 13], [13]), ([14, 15, 13], [13, 14, 15]), ([13, 16], [13, 16])])
def spec_ValDo.B1 : List Nat := [0, 1, 3, 7, 15, 31, 63, 127, 255, 511, 511, 2047, 4095, 8191, 16383, 16383, 65535, 131071]
theorem spec_ValDo.tab1 : rtab .any (opsOf Try.f28 1) = spec_ValDo.T1 := by kernel_rfl
theorem spec_ValDo.bits1 : waitsOk spec_ValDo.T1.2 spec_ValDo.B1 = true := by kernel_rfl
def spec_ValDo.T3 : Bool × List (List Nat × List Nat) := (true, [([], []), ([], []), ([1], [1]), ([], []), ([3, 2], [3]), ([0, 2, 4, 4], [0, 2, 4]), ([5], [5]), ([6], [6]), ([6], [6]), ([], []), ([9, 7, 5, 0, 1, 2, 3, 4, 5, 6, 7, 9], [7, 9]), ([8, 10, 0, 1, 2, 3, 4, 5, 6, 7, 8, 9, 10], [8])])
def spec_ValDo.B3 : List Nat := [0, 0, 2, 0, 14, 31, 63, 127, 127, 0, 767, 2047]
theorem spec_ValDo.tab3 : rtab .any (opsOf Try.f28 3) = spec_ValDo.T3 := by kernel_rfl
theorem spec_ValDo.bits3 : waitsOk spec_ValDo.T3.2 spec_ValDo.B3 = true := by kernel_rfl
def spec_ValDo.T4 : Bool × List (List Nat × List Nat) := (true, [([], []), ([], []), ([], []), ([2], [2]), ([], []), ([4, 3], [4]), ([1, 3, 5, 5], [1, 3, 5]), ([0, 6, 6], [0, 6]), ([], []), ([7, 7, 0, 1, 2, 3, 4, 5, 6, 7], [7]), ([8, 9, 0, 1, 2, 3, 4, 5, 6, 7, 8, 9], [8])])
def spec_ValDo.B4 : List Nat := [0, 0, 0, 4, 0, 28, 62, 127, 0, 255, 1023]
theorem spec_ValDo.tab4 : rtab .any (opsOf Try.f28 4) = spec_ValDo.T4 := by kernel_rfl
theorem spec_ValDo.bits4 : waitsOk spec_ValDo.T4.2 spec_ValDo.B4 = true := by kernel_rfl
set_option maxHeartbeats 8000000 in
set_option maxRecDepth 100000 in
theorem spec_ValDo.calls (k : Nat) (a0 : Int) (a1_0 : Int) (a1_1 : Int) (a1_2 : Int) (a1_3 : Int) (a2_0 : Int) (a2_1 : Int) (a2_2 : Int) (a2_3 : Int) (r1 : Int) (r2 : Int) (r3 : Int) (r4 : Int) (r5 : List Int) (w : World) (h : spec_ValDo.f k a0 a1_0 a1_1 a1_2 a1_3 a2_0 a2_1 a2_2 a2_3 = some (r1, r2, r3, r4, r5)) :
  Calls Try.prog 28 #[.int .i64 a0, .agg #[.int .i64 a1_0, .int .i64 a1_1, .int .i64 a1_2, .int .i64 a1_3], .agg #[.int .i64 a2_0, .int .i64 a2_1, .int .i64 a2_2, .int .i64 a2_3]] w fun e w' => ∃ v4_ : Value, e = .returned (.tuple #[.agg #[.int .i64 r1, .int .i64 r2, .int .i64 r3, .int .i64 r4], v4_]) ∧ Kd.R (Kd.int .i64) 3 w' w.heap.size (fun _ => True) v4_ r5 ∧ Below w.heap.size w w' := by
 have hu50 := Try.underlying50
 have hu24 := Try.underlying24
 have HB := am (Below.refl w.heap.size w)
 have H : ((spec_ValOk.f k a1_0 a1_1 a1_2 a1_3).bind fun t1 => (if t1 = true then ((spec_ValOk.f k a2_0 a2_1 a2_2 a2_3).bind fun t2 => (if t2 = true then ((spec_l10None.f).bind fun u1 => (if (a1_0 == u1.1 && (a1_1 == u1.2.1 && (a1_2 == u1.2.2.1 && (a1_3 == u1.2.2.2)))) = true then (spec_ValDo.j0 k a0 true a1_0 a1_1 a1_2 a1_3 a2_0 a2_1 a2_2 a2_3) else ((spec_l10None.f).bind fun u2 => (spec_ValDo.j0 k a0 (a2_0 == u2.1 && (a2_1 == u2.2.1 && (a2_2 == u2.2.2.1 && (a2_3 == u2.2.2.2)))) a1_0 a1_1 a1_2 a1_3 a2_0 a2_1 a2_2 a2_3)))) else (spec_ValDo.j0 k a0 true a1_0 a1_1 a1_2 a1_3 a2_0 a2_1 a2_2 a2_3))) else (spec_ValDo.j0 k a0 true a1_0 a1_1 a1_2 a1_3 a2_0 a2_1 a2_2 a2_3))) = some (r1, r2, r3, r4, r5) := h
 clear h
 have C1 := am H
 clear H
 go_enter Try.func28, Try.ntmps28
 go_upto_region 1 with (first | ((with_reducible refine gate_dst (N := 4) rfl ?_); refine bxn 4 #[.int .i64 a1_0, .int .i64 a1_1, .int .i64 a1_2, .int .i64 a1_3] 50 HB fun g1 w2 K1 G1 hg hb => ?_; replace HB := am (below_step (YA HB) hb); clear hb hg) | ((with_reducible refine gate_dst (N := 5) rfl ?_); refine bxn 5 #[.int .i64 a2_0, .int .i64 a2_1, .int .i64 a2_2, .int .i64 a2_3] 50 HB fun g2 w3 K2 G2 hg hb => ?_; obtain ⟨N1,N2⟩ := ne_ hg K1; obtain ⟨K1, HB⟩ := bk1 K1 HB hb; clear hb hg) | ((with_reducible refine gate_dst (N := 6) rfl ?_); refine bxn 6 #[.int .i64 0, .int .i64 0, .int .i64 0, .int .i64 0] 50 HB fun g3 w4 K3 G3 hg hb => ?_; obtain ⟨N3,N4⟩ := ne_ hg K1; obtain ⟨N5,N6⟩ := ne_ hg K2; obtain ⟨K1, K2, HB⟩ := bk2 K1 K2 HB hb; clear hb hg))
 (try simp only [Act.put, List.setIfInBounds_toArray, List.set_cons_zero, List.set_cons_succ])
 go_cut [27] (fun v1 wc => ∃ (kq : Nat) (x1 : Bool), v1 = .bool x1 ∧ Aside0 (spec_ValDo.j0 kq a0 x1 a1_0 a1_1 a1_2 a1_3 a2_0 a2_1 a2_2 a2_3 = some (r1, r2, r3, r4, r5)) ∧ Aside0 (kq ≤ k) ∧ Bx4 wc g1 a1_0 a1_1 a1_2 a1_3 50 ∧ Bx4 wc g2 a2_0 a2_1 a2_2 a2_3 50 ∧ Bx4 wc g3 0 0 0 0 50 ∧ Aside0 (Below w.heap.size w wc))
 case first =>
  have H := C1.out
  clear C1
  obtain ⟨t1, A1, H⟩ := bd H
  try dsimp only at H
  by_cases c1 : t1 = true
  rotate_left
  ·replace c1 := Bool.eq_false_iff.mpr c1
   subst c1
   rw [if_neg ff] at H
   have H' := am H
   clear H
   try go_wp2
   obtain ⟨K1, K2, K3, HB⟩ := dk3 K1 K2 K3 HB
   refine start_ (n := 18) (S := fun w' => w'.cell? ⟨g1, 0, none⟩ = some (.int .i64 a1_0) ∧ w'.cell? ⟨g1, 1, none⟩ = some (.int .i64 a1_1) ∧ w'.cell? ⟨g1, 2, none⟩ = some (.int .i64 a1_2) ∧ w'.cell? ⟨g1, 3, none⟩ = some (.int .i64 a1_3)) (ds := []) (lb 18 0) (by kernel_rfl) rfl rfl ⟨bc K1 0, bc K1 1, bc K1 2, bc K1 3⟩ (fun hHeld => ?_); refine with_tabW spec_ValDo.tab1 spec_ValDo.bits1 (fun HT_ HW_ => ?_)
   generalize w4.drew = w5 at K1 K2 K3 HB hHeld ⊢
   refine tk 0 10 1 hHeld ?_
   refine on 1 (some 11) 3 fun K hK => ?_
   refine ck hK Try.func70 (spec_ValOk.calls _ _ _ _ _ _ _ A1.out) (fun _ b => bk3 K1 K2 K3 HB b) fun w6 Q_ hHeld => ?_
   clear hK K
   obtain ⟨K1, K2, K3, HB⟩ := Q_
   refine pk 2 12 7 ?_
   refine pk 3 13 15 ?_
   refine uk 4 14 31 ?_
   refine uk 5 15 63 ?_
   refine uk 6 16 127 ?_
   refine pk 7 17 255 ?_
   refine pk 8 18 511 ?_
   refine uk 9 19 1023 ?_
   refine uk 10 20 2047 ?_
   refine uk 11 21 4095 ?_
   refine pk 12 22 8191 ?_
   refine pk 13 23 16383 ?_
   refine uk 14 24 32767 ?_
   refine uk 15 25 65535 ?_
   refine uk 16 26 131071 ?_
   refine pk 17 27 262143 ?_
   refine done_ (done_of HT_.out (by kernel_rfl)) ?_
   try go_wp2
   go_meet
   case rel => exact ⟨_, (true), ey, H', le0, ⟨Z K1⟩, ⟨Z K2⟩, ⟨Z K3⟩, ⟨YA HB⟩⟩
  subst c1
  rw [if_pos rfl] at H
  obtain ⟨t2, A2, H⟩ := bd H
  try dsimp only at H
  by_cases c2 : t2 = true
  rotate_left
  ·replace c2 := Bool.eq_false_iff.mpr c2
   subst c2
   rw [if_neg ff] at H
   have H' := am H
   clear H
   try go_wp2
   obtain ⟨K1, K2, K3, HB⟩ := dk3 K1 K2 K3 HB
   refine start_ (n := 18) (S := fun w' => w'.cell? ⟨g1, 0, none⟩ = some (.int .i64 a1_0) ∧ w'.cell? ⟨g1, 1, none⟩ = some (.int .i64 a1_1) ∧ w'.cell? ⟨g1, 2, none⟩ = some (.int .i64 a1_2) ∧ w'.cell? ⟨g1, 3, none⟩ = some (.int .i64 a1_3) ∧ w'.cell? ⟨g2, 0, none⟩ = some (.int .i64 a2_0) ∧ w'.cell? ⟨g2, 1, none⟩ = some (.int .i64 a2_1) ∧ w'.cell? ⟨g2, 2, none⟩ = some (.int .i64 a2_2) ∧ w'.cell? ⟨g2, 3, none⟩ = some (.int .i64 a2_3)) (ds := []) (lb 18 0) (by kernel_rfl) rfl rfl ⟨bc K1 0, bc K1 1, bc K1 2, bc K1 3, bc K2 0, bc K2 1, bc K2 2, bc K2 3⟩ (fun hHeld => ?_); refine with_tabW spec_ValDo.tab1 spec_ValDo.bits1 (fun HT_ HW_ => ?_)
   generalize w4.drew = w5 at K1 K2 K3 HB hHeld ⊢
   refine tk 0 10 1 hHeld ?_
   refine on 1 (some 11) 3 fun K hK => ?_
   refine ck hK Try.func70 (spec_ValOk.calls _ _ _ _ _ _ _ A1.out) (fun _ b => bk3 K1 K2 K3 HB b) fun w6 Q_ hHeld => ?_
   clear hK K
   obtain ⟨K1, K2, K3, HB⟩ := Q_
   refine pk 2 12 7 ?_
   refine pk 3 13 15 ?_
   refine tk 4 14 31 hHeld ?_
   refine on 5 (some 15) 63 fun K hK => ?_
   refine ck hK Try.func70 (spec_ValOk.calls _ _ _ _ _ _ _ A2.out) (fun _ b => bk3 K1 K2 K3 HB b) fun w7 Q_ hHeld => ?_
   clear hK K
   obtain ⟨K1, K2, K3, HB⟩ := Q_
   refine pk 6 16 127 ?_
   refine pk 7 17 255 ?_
   refine pk 8 18 511 ?_
   refine uk 9 19 1023 ?_
   refine uk 10 20 2047 ?_
   refine uk 11 21 4095 ?_
   refine pk 12 22 8191 ?_
   refine pk 13 23 16383 ?_
   refine uk 14 24 32767 ?_
   refine uk 15 25 65535 ?_
   refine uk 16 26 131071 ?_
   refine pk 17 27 262143 ?_
   refine done_ (done_of HT_.out (by kernel_rfl)) ?_
   try go_wp2
   go_meet
   case rel => exact ⟨_, (true), ey, H', le0, ⟨Z K1⟩, ⟨Z K2⟩, ⟨Z K3⟩, ⟨YA HB⟩⟩
  subst c2
  rw [if_pos rfl] at H
  obtain ⟨⟨t3, t4, t5, t6⟩, A3, H⟩ := bd H
  try dsimp only at H
  by_cases c3 : (a1_0 == t3 && (a1_1 == t4 && (a1_2 == t5 && (a1_3 == t6)))) = true
  ·rw [if_pos c3] at H
   have d1 : (a1_0 == t3 && (a1_1 == t4 && (a1_2 == t5 && (a1_3 == t6)))) = true := c3
   (try (have d2 : decide (a1_0 = t3 && (a1_1 == t4 && (a1_2 == t5 && (a1_3 == t6)))) = true := by simpa using c3))
   (try (have d3 : (a1_0 == t3 && (a1_1 == t4 && (a1_2 == t5 && (a1_3 == t6)))) = true := by simpa using c3))
   clear c3
   (first | rw [d1] | (simp only [i64_w, i32_w]; rw [d1]) | skip)
   have H' := am H
   clear H
   try go_wp2
   obtain ⟨K1, K2, K3, HB⟩ := dk3 K1 K2 K3 HB
   refine start_ (n := 18) (S := fun w' => w'.cell? ⟨g1, 0, none⟩ = some (.int .i64 a1_0) ∧ w'.cell? ⟨g1, 1, none⟩ = some (.int .i64 a1_1) ∧ w'.cell? ⟨g1, 2, none⟩ = some (.int .i64 a1_2) ∧ w'.cell? ⟨g1, 3, none⟩ = some (.int .i64 a1_3) ∧ w'.cell? ⟨g2, 0, none⟩ = some (.int .i64 a2_0) ∧ w'.cell? ⟨g2, 1, none⟩ = some (.int .i64 a2_1) ∧ w'.cell? ⟨g2, 2, none⟩ = some (.int .i64 a2_2) ∧ w'.cell? ⟨g2, 3, none⟩ = some (.int .i64 a2_3)) (ds := []) (lb 18 0) (by kernel_rfl) rfl rfl ⟨bc K1 0, bc K1 1, bc K1 2, bc K1 3, bc K2 0, bc K2 1, bc K2 2, bc K2 3⟩ (fun hHeld => ?_); refine with_tabW spec_ValDo.tab1 spec_ValDo.bits1 (fun HT_ HW_ => ?_)
   generalize w4.drew = w5 at K1 K2 K3 HB hHeld ⊢
   refine tk 0 10 1 hHeld ?_
   refine on 1 (some 11) 3 fun K hK => ?_
   refine ck hK Try.func70 (spec_ValOk.calls _ _ _ _ _ _ _ A1.out) (fun _ b => bk3 K1 K2 K3 HB b) fun w6 Q_ hHeld => ?_
   clear hK K
   obtain ⟨K1, K2, K3, HB⟩ := Q_
   refine pk 2 12 7 ?_
   refine pk 3 13 15 ?_
   refine tk 4 14 31 hHeld ?_
   refine on 5 (some 15) 63 fun K hK => ?_
   refine ck hK Try.func70 (spec_ValOk.calls _ _ _ _ _ _ _ A2.out) (fun _ b => bk3 K1 K2 K3 HB b) fun w7 Q_ hHeld => ?_
   clear hK K
   obtain ⟨K1, K2, K3, HB⟩ := Q_
   refine pk 6 16 127 ?_
   refine pk 7 17 255 ?_
   refine pk 8 18 511 ?_
   refine tk 9 19 1023 hHeld ?_
   refine on 10 (some 20) 2047 fun K hK => ?_
   refine ck hK Try.func71 (spec_l10None.calls _ _ _ _ _ A3.out) (fun _ b => bk3 K1 K2 K3 HB b) fun w8 Q_ hHeld => ?_
   clear hK K
   obtain ⟨K1, K2, K3, HB⟩ := Q_
   refine pk 11 21 4095 ?_
   refine pk 12 22 8191 ?_
   refine pk 13 23 16383 ?_
   refine uk 14 24 32767 ?_
   refine uk 15 25 65535 ?_
   refine uk 16 26 131071 ?_
   refine pk 17 27 262143 ?_
   refine done_ (done_of HT_.out (by kernel_rfl)) ?_
   try go_wp2
   go_meet
   case rel => exact ⟨_, (true), ey, H', le0, ⟨Z K1⟩, ⟨Z K2⟩, ⟨Z K3⟩, ⟨YA HB⟩⟩
  rw [if_neg c3] at H
  have d1 : (a1_0 == t3 && (a1_1 == t4 && (a1_2 == t5 && (a1_3 == t6)))) = false := by simpa using c3
  (try (have d2 : decide (a1_0 = t3 && (a1_1 == t4 && (a1_2 == t5 && (a1_3 == t6)))) = false := by simpa using c3))
  (try (have d3 : (a1_0 == t3 && (a1_1 == t4 && (a1_2 == t5 && (a1_3 == t6)))) = false := by simpa using c3))
  (try (have d4 : ¬ (a1_0 = t3 && (a1_1 == t4 && (a1_2 == t5 && (a1_3 == t6)))) := by simpa using c3))
  clear c3
  (first | rw [d1] | (simp only [i64_w, i32_w]; rw [d1]) | skip)
  obtain ⟨⟨t7, t8, t9, t10⟩, A4, H⟩ := bd H
  try dsimp only at H
  have H' := am H
  clear H
  try go_wp2
  obtain ⟨K1, K2, K3, HB⟩ := dk3 K1 K2 K3 HB
  refine start_ (n := 18) (S := fun w' => w'.cell? ⟨g1, 0, none⟩ = some (.int .i64 a1_0) ∧ w'.cell? ⟨g1, 1, none⟩ = some (.int .i64 a1_1) ∧ w'.cell? ⟨g1, 2, none⟩ = some (.int .i64 a1_2) ∧ w'.cell? ⟨g1, 3, none⟩ = some (.int .i64 a1_3) ∧ w'.cell? ⟨g2, 0, none⟩ = some (.int .i64 a2_0) ∧ w'.cell? ⟨g2, 1, none⟩ = some (.int .i64 a2_1) ∧ w'.cell? ⟨g2, 2, none⟩ = some (.int .i64 a2_2) ∧ w'.cell? ⟨g2, 3, none⟩ = some (.int .i64 a2_3)) (ds := []) (lb 18 0) (by kernel_rfl) rfl rfl ⟨bc K1 0, bc K1 1, bc K1 2, bc K1 3, bc K2 0, bc K2 1, bc K2 2, bc K2 3⟩ (fun hHeld => ?_); refine with_tabW spec_ValDo.tab1 spec_ValDo.bits1 (fun HT_ HW_ => ?_)
  generalize w4.drew = w5 at K1 K2 K3 HB hHeld ⊢
  refine tk 0 10 1 hHeld ?_
  refine on 1 (some 11) 3 fun K hK => ?_
  refine ck hK Try.func70 (spec_ValOk.calls _ _ _ _ _ _ _ A1.out) (fun _ b => bk3 K1 K2 K3 HB b) fun w6 Q_ hHeld => ?_
  clear hK K
  obtain ⟨K1, K2, K3, HB⟩ := Q_
  refine pk 2 12 7 ?_
  refine pk 3 13 15 ?_
  refine tk 4 14 31 hHeld ?_
  refine on 5 (some 15) 63 fun K hK => ?_
  refine ck hK Try.func70 (spec_ValOk.calls _ _ _ _ _ _ _ A2.out) (fun _ b => bk3 K1 K2 K3 HB b) fun w7 Q_ hHeld => ?_
  clear hK K
  obtain ⟨K1, K2, K3, HB⟩ := Q_
  refine pk 6 16 127 ?_
  refine pk 7 17 255 ?_
  refine pk 8 18 511 ?_
  refine tk 9 19 1023 hHeld ?_
  refine on 10 (some 20) 2047 fun K hK => ?_
  refine ck hK Try.func71 (spec_l10None.calls _ _ _ _ _ A3.out) (fun _ b => bk3 K1 K2 K3 HB b) fun w8 Q_ hHeld => ?_
  clear hK K
  obtain ⟨K1, K2, K3, HB⟩ := Q_
  refine pk 11 21 4095 ?_
  refine pk 12 22 8191 ?_
  refine pk 13 23 16383 ?_
  refine tk 14 24 32767 hHeld ?_
  refine on 15 (some 25) 65535 fun K hK => ?_
  refine ck hK Try.func71 (spec_l10None.calls _ _ _ _ _ A4.out) (fun _ b => bk3 K1 K2 K3 HB b) fun w9 Q_ hHeld => ?_
  clear hK K
  obtain ⟨K1, K2, K3, HB⟩ := Q_
  refine pk 16 26 131071 ?_
  refine pk 17 27 262143 ?_
  refine done_ (done_of HT_.out (by kernel_rfl)) ?_
  try go_wp2
  go_meet
  case rel => exact ⟨_, ((a2_0 == t7 && (a2_1 == t8 && (a2_2 == t9 && (a2_3 == t10))))), ey, H', le0, ⟨Z K1⟩, ⟨Z K2⟩, ⟨Z K3⟩, ⟨YA HB⟩⟩
 case rest =>
  clear C1
  obtain ⟨kq, x1, rfl, HA, J1, K1, K2, K3, HB⟩ := hcut
  cases kq with
  | zero => exact absurd HA.out (by simp [spec_ValDo.j0])
  | succ k1 =>
   have H := HA.out
   clear HA
   simp only [spec_ValDo.j0] at H
   by_cases c1 : x1 = true
   ·subst c1
    rw [if_pos rfl] at H
    obtain ⟨⟨t3, t4, t5, t6⟩, A1, H⟩ := bd H
    try dsimp only at H
    obtain ⟨y1, y2⟩ : ∃ y_ : List Int, y_ = (([] : List Int)) := ⟨_, rfl⟩
    replace H : (some (t3, t4, t5, t6, y1)) = some (r1, r2, r3, r4, r5) := by first | (rw [y2]; with_reducible exact H) | (have H2_ := (Option.bind_some _ _).symm.trans H; rw [y2]; with_reducible exact H2_) | (have H2_ := (Option.bind_some _ _).symm.trans H; with_reducible exact H2_) | with_reducible exact H | (rw [y2]; exact H) | exact H
    have Y25 := am y2
    clear y2
    simp only [Option.some.injEq, Prod.mk.injEq] at H
    obtain ⟨rfl, rfl, rfl, rfl, rfl⟩ := H
    go_wp2_with (first | ((with_reducible refine gate_callee (f := 71) rfl ?_); refine gL 28 Try.func71 (spec_l10None.calls _ _ _ _ _ A1.out) fun w5 hb => ?_; obtain ⟨K1, K2, K3, HB⟩ := bk3 K1 K2 K3 HB hb; (try clear hb)) | ((with_reducible refine gate_dst (N := 29) rfl ?_); refine Kd.R_lit (Kd.int .i64) _ 3 ?hg (N := 29) ?hd (xs := ([] : List Int)) (inner := []) (ok := fun _ => True) (okp := fun _ => True) ?hr ?hp (fun _ hk => hk) trivial (Below.refl _ _) (Nat.le_refl _) (by simp) ?_; (case hd => rfl); (case hg => rfl); (case hr => first | (go_simp; done) | (go_simp; rfl)); (case hp => exact (Reps.none _ _)); intro v2 w6 o1 hb hg_ hnew_; clear hg_ hnew_; (first | rw [← Y25.out] at o1 | (simp only [Int.reduceToNat] at o1; rw [← Y25.out] at o1)); have O1 := am (Kd.R_lower o1 (below_size (YA HB))); obtain ⟨K1, K2, K3, HB⟩ := bk3 K1 K2 K3 HB hb; clear hb o1; have z_ := ns2 N4 N6; have z_ := cB4 K3))
    refine bodyPost_ret (results_ct rfl _ _ g3 50 #[.int .i64 t3, .int .i64 t4, .int .i64 t5, .int .i64 t6] (0, 0) _ rfl (by refine pf ?_; refine blk_put (cs := #[.int .i64 t3, .int .i64 t4, .int .i64 t5, .int .i64 0]) ?_ 3 _ rfl; refine pf ?_; refine blk_put (cs := #[.int .i64 t3, .int .i64 t4, .int .i64 0, .int .i64 0]) ?_ 2 _ rfl; refine pf ?_; refine blk_put (cs := #[.int .i64 t3, .int .i64 0, .int .i64 0, .int .i64 0]) ?_ 1 _ rfl; refine pf ?_; refine blk_put (cs := #[.int .i64 0, .int .i64 0, .int .i64 0, .int .i64 0]) ?_ 0 _ rfl; exact Z K3) Try.underlying50 rfl (by kernel_rfl)) rfl ?_
    exact ⟨_, ez, by (with_reducible repeat (first | apply Kd.R_alloc | apply Kd.R_drewN | apply Kd.R_drew)); exact Kd.R_mono (Kd.R_far (p := ⟨g3, 3, none⟩) (Kd.R_far (p := ⟨g3, 2, none⟩) (Kd.R_far (p := ⟨g3, 1, none⟩) (Kd.R_far (p := ⟨g3, 0, none⟩) (Kd.R_types O1.out K3.out (by decide)) (fun _ hk => hk.2) (.int .i64 t3)) (fun _ hk => hk.2) (.int .i64 t4)) (fun _ hk => hk.2) (.int .i64 t5)) (fun _ hk => hk.2) (.int .i64 t6)) (fun _ hk => trivial), YA HB⟩
   replace c1 := Bool.eq_false_iff.mpr c1
   subst c1
   rw [if_neg ff] at H
   obtain ⟨⟨t3, t4⟩, A1, H⟩ := bd H
   try dsimp only at H
   obtain ⟨⟨t5, t6⟩, A2, H⟩ := bd H
   try dsimp only at H
   obtain ⟨⟨t7, t8, t9⟩, A3, H⟩ := bd H
   try dsimp only at H
   obtain ⟨⟨t10, t11⟩, A4, H⟩ := bd H
   try dsimp only at H
   obtain ⟨⟨t12, t13⟩, A5, H⟩ := bd H
   try dsimp only at H
   obtain ⟨⟨t14, t15⟩, A6, H⟩ := bd H
   try dsimp only at H
   obtain ⟨⟨t16, t17, t18, t19⟩, A7, H⟩ := bd H
   try dsimp only at H
   simp only [Option.some.injEq, Prod.mk.injEq] at H
   obtain ⟨rfl, rfl, rfl, rfl, rfl⟩ := H
   try go_wp2
   obtain ⟨K1, K2, K3, HB⟩ := dk3 K1 K2 K3 HB
   refine start_ (n := 12) (S := fun w' => w'.cell? ⟨g1, 0, none⟩ = some (.int .i64 a1_0) ∧ w'.cell? ⟨g1, 1, none⟩ = some (.int .i64 a1_1) ∧ w'.cell? ⟨g1, 2, none⟩ = some (.int .i64 a1_2) ∧ w'.cell? ⟨g1, 3, none⟩ = some (.int .i64 a1_3) ∧ w'.cell? ⟨g2, 0, none⟩ = some (.int .i64 a2_0) ∧ w'.cell? ⟨g2, 1, none⟩ = some (.int .i64 a2_1) ∧ w'.cell? ⟨g2, 2, none⟩ = some (.int .i64 a2_2) ∧ w'.cell? ⟨g2, 3, none⟩ = some (.int .i64 a2_3)) (ds := []) (lb 12 0) (by kernel_rfl) rfl rfl ⟨bc K1 0, bc K1 1, bc K1 2, bc K1 3, bc K2 0, bc K2 1, bc K2 2, bc K2 3⟩ (fun hHeld => ?_); refine with_tabW spec_ValDo.tab3 spec_ValDo.bits3 (fun HT_ HW_ => ?_)
   generalize wc.drew = w5 at K1 K2 K3 HB hHeld ⊢
   refine pk 0 31 1 ?_
   refine tk 1 32 3 hHeld ?_
   refine tk 3 34 11 hHeld ?_
   refine join_ (σ := Value × Nat) 2 (lb 12 1023) (fun s_ => [(33, .agg #[.int .i64 t3, .int .i64 t4]), (35, .agg #[.int .i64 t5, .int .i64 t6]), (36, .tuple #[.agg #[.int .i64 t7, .int .i64 t8], s_.1]), (8, .pointer (some ⟨s_.2, 0, none⟩)), (30, .tuple #[.agg #[.int .i64 t7, .int .i64 t8], s_.1]), (37, .agg #[.int .i64 t7, .int .i64 t8]), (38, s_.1)]) (fun s_ w' => (w'.cell? ⟨g1, 0, none⟩ = some (.int .i64 a1_0) ∧ w'.cell? ⟨g1, 1, none⟩ = some (.int .i64 a1_1) ∧ w'.cell? ⟨g1, 2, none⟩ = some (.int .i64 a1_2) ∧ w'.cell? ⟨g1, 3, none⟩ = some (.int .i64 a1_3) ∧ w'.cell? ⟨g2, 0, none⟩ = some (.int .i64 a2_0) ∧ w'.cell? ⟨g2, 1, none⟩ = some (.int .i64 a2_1) ∧ w'.cell? ⟨g2, 2, none⟩ = some (.int .i64 a2_2) ∧ w'.cell? ⟨g2, 3, none⟩ = some (.int .i64 a2_3)) ∧ (Kd.R (Kd.int .i64) 3 w' w.heap.size (fun _ => True) s_.1 t9) ∧ (w'.heap[g1]? = some (.cells #[.int .i64 a1_0, .int .i64 a1_1, .int .i64 a1_2, .int .i64 a1_3] 50 (0, 0))) ∧ (w'.heap[g2]? = some (.cells #[.int .i64 a2_0, .int .i64 a2_1, .int .i64 a2_2, .int .i64 a2_3] 50 (0, 0))) ∧ (w'.heap[g3]? = some (.cells #[.int .i64 0, .int .i64 0, .int .i64 0, .int .i64 0] 50 (0, 0))) ∧ (w'.heap[s_.2]? = some (.cells #[.int .i64 0, .int .i64 0] 24 (0, 0))) ∧ (w.heap.size ≤ s_.2) ∧ (w.heap.size ≤ s_.2) ∧ (g1 ≠ s_.2) ∧ (s_.2 ≠ g1) ∧ (g2 ≠ s_.2) ∧ (s_.2 ≠ g2) ∧ (g3 ≠ s_.2) ∧ (s_.2 ≠ g3) ∧ (Below w.heap.size w w')) ?_ ?_
   rotate_left
   ·intro hCont
    refine two_ (i := 2) (j := 9) (Ni := some 33) (Nj := some 8) (lb 12 15) (lb 12 523) rfl rfl rfl rfl (two_of HT_.out (by kernel_rfl)) (by decide) (by decide) (fun K hK => ?_) (fun K hK => ?_)
    rotate_left
    ·skip
     refine box_step ?hg (N := 8) ?hd (cs := #[.int .i64 0, .int .i64 0]) (t := 24) ?hr ?_; (case hd => rfl); (case hg => rfl); (case hr => first | (go_simp; done) | (go_simp; rfl))
     intro g4 hg w6 hbox hb
     have K4 := am (hbox)
     have G4 := am (bs hg (YA HB))
     have G5 := am (bs hg (YA HB))
     obtain ⟨N7,N8⟩ := ne_ hg K1
     obtain ⟨N9,N10⟩ := ne_ hg K2
     obtain ⟨N11,N12⟩ := ne_ hg K3
     obtain ⟨K1, K2, K3, HB⟩ := bk3 K1 K2 K3 HB hb
     clear hb hbox hg
     refine kk hK ⟨bc K1 0, bc K1 1, bc K1 2, bc K1 3, bc K2 0, bc K2 1, bc K2 2, bc K2 3⟩ fun hHeld => ?_
     clear hK K
     refine on 2 (some 33) 527 fun K hK => ?_
     refine ck hK Try.func72 (spec_l10Range.calls _ _ _ _ _ _ _ A1.out) (fun _ b => bk4 K1 K2 K3 K4 HB b) fun w7 Q_ hHeld => ?_
     clear hK K
     obtain ⟨K1, K2, K3, K4, HB⟩ := Q_
     refine on 4 (some 35) 543 fun K hK => ?_
     refine ck hK Try.func72 (spec_l10Range.calls _ _ _ _ _ _ _ A2.out) (fun _ b => bk4 K1 K2 K3 K4 HB b) fun w8 Q_ hHeld => ?_
     clear hK K
     obtain ⟨K1, K2, K3, K4, HB⟩ := Q_
     refine on 5 (some 36) 575 fun K hK => ?_
     refine goes_ Try.func9 (by kernel_rfl) rfl #[.int .i64 a0, .agg #[.int .i64 t3, .int .i64 t4], .agg #[.int .i64 t5, .int .i64 t6]] (by rfl) rfl rfl mz ?_
     with_reducible refine (spec_RangeDo.calls _ _ _ _ _ _ _ _ _ _ A3.out).mono ?_
     rintro e w9 ⟨v2, rfl, o1, hb⟩
     refine ⟨_, rfl, ?_⟩
     have O1 := am (Kd.R_lower o1 (below_size (YA HB)))
     obtain ⟨K1, K2, K3, K4, HB⟩ := bk4 K1 K2 K3 K4 HB hb
     clear hb
     (try clear o1)
     refine kk hK ⟨bc K1 0, bc K1 1, bc K1 2, bc K1 3, bc K2 0, bc K2 1, bc K2 2, bc K2 3⟩ fun hHeld => ?_
     clear hK K
     refine pk 6 30 639 ?_
     refine pk 7 37 767 ?_
     refine pk 8 38 1023 ?_
     exact norm_ nz (hCont (v2, g4) _ ⟨hHeld, (RZ O1), (Z K1), (Z K2), (Z K3), (Z K4), G4.out, G5.out, N7.out, N8.out, N9.out, N10.out, N11.out, N12.out, (YA HB)⟩)
    skip
    refine ck hK Try.func72 (spec_l10Range.calls _ _ _ _ _ _ _ A1.out) (fun _ b => bk3 K1 K2 K3 HB b) fun w6 Q_ hHeld => ?_
    clear hK K
    obtain ⟨K1, K2, K3, HB⟩ := Q_
    refine two_ (i := 4) (j := 9) (Ni := some 35) (Nj := some 8) (lb 12 31) (lb 12 527) rfl rfl rfl rfl (two_of HT_.out (by kernel_rfl)) (by decide) (by decide) (fun K hK => ?_) (fun K hK => ?_)
    rotate_left
    ·skip
     refine box_step ?hg (N := 8) ?hd (cs := #[.int .i64 0, .int .i64 0]) (t := 24) ?hr ?_; (case hd => rfl); (case hg => rfl); (case hr => first | (go_simp; done) | (go_simp; rfl))
     intro g4 hg w7 hbox hb
     have K4 := am (hbox)
     have G4 := am (bs hg (YA HB))
     have G5 := am (bs hg (YA HB))
     obtain ⟨N7,N8⟩ := ne_ hg K1
     obtain ⟨N9,N10⟩ := ne_ hg K2
     obtain ⟨N11,N12⟩ := ne_ hg K3
     obtain ⟨K1, K2, K3, HB⟩ := bk3 K1 K2 K3 HB hb
     clear hb hbox hg
     refine kk hK ⟨bc K1 0, bc K1 1, bc K1 2, bc K1 3, bc K2 0, bc K2 1, bc K2 2, bc K2 3⟩ fun hHeld => ?_
     clear hK K
     refine on 4 (some 35) 543 fun K hK => ?_
     refine ck hK Try.func72 (spec_l10Range.calls _ _ _ _ _ _ _ A2.out) (fun _ b => bk4 K1 K2 K3 K4 HB b) fun w8 Q_ hHeld => ?_
     clear hK K
     obtain ⟨K1, K2, K3, K4, HB⟩ := Q_
     refine on 5 (some 36) 575 fun K hK => ?_
     refine goes_ Try.func9 (by kernel_rfl) rfl #[.int .i64 a0, .agg #[.int .i64 t3, .int .i64 t4], .agg #[.int .i64 t5, .int .i64 t6]] (by rfl) rfl rfl mz ?_
     with_reducible refine (spec_RangeDo.calls _ _ _ _ _ _ _ _ _ _ A3.out).mono ?_
     rintro e w9 ⟨v2, rfl, o1, hb⟩
     refine ⟨_, rfl, ?_⟩
     have O1 := am (Kd.R_lower o1 (below_size (YA HB)))
     obtain ⟨K1, K2, K3, K4, HB⟩ := bk4 K1 K2 K3 K4 HB hb
     clear hb
     (try clear o1)
     refine kk hK ⟨bc K1 0, bc K1 1, bc K1 2, bc K1 3, bc K2 0, bc K2 1, bc K2 2, bc K2 3⟩ fun hHeld => ?_
     clear hK K
     refine pk 6 30 639 ?_
     refine pk 7 37 767 ?_
     refine pk 8 38 1023 ?_
     exact norm_ nz (hCont (v2, g4) _ ⟨hHeld, (RZ O1), (Z K1), (Z K2), (Z K3), (Z K4), G4.out, G5.out, N7.out, N8.out, N9.out, N10.out, N11.out, N12.out, (YA HB)⟩)
    skip
    refine ck hK Try.func72 (spec_l10Range.calls _ _ _ _ _ _ _ A2.out) (fun _ b => bk3 K1 K2 K3 HB b) fun w7 Q_ hHeld => ?_
    clear hK K
    obtain ⟨K1, K2, K3, HB⟩ := Q_
    refine two_ (i := 5) (j := 9) (Ni := some 36) (Nj := some 8) (lb 12 63) (lb 12 543) rfl rfl rfl rfl (two_of HT_.out (by kernel_rfl)) (by decide) (by decide) (fun K hK => ?_) (fun K hK => ?_)
    rotate_left
    ·skip
     refine box_step ?hg (N := 8) ?hd (cs := #[.int .i64 0, .int .i64 0]) (t := 24) ?hr ?_; (case hd => rfl); (case hg => rfl); (case hr => first | (go_simp; done) | (go_simp; rfl))
     intro g4 hg w8 hbox hb
     have K4 := am (hbox)
     have G4 := am (bs hg (YA HB))
     have G5 := am (bs hg (YA HB))
     obtain ⟨N7,N8⟩ := ne_ hg K1
     obtain ⟨N9,N10⟩ := ne_ hg K2
     obtain ⟨N11,N12⟩ := ne_ hg K3
     obtain ⟨K1, K2, K3, HB⟩ := bk3 K1 K2 K3 HB hb
     clear hb hbox hg
     refine kk hK ⟨bc K1 0, bc K1 1, bc K1 2, bc K1 3, bc K2 0, bc K2 1, bc K2 2, bc K2 3⟩ fun hHeld => ?_
     clear hK K
     refine on 5 (some 36) 575 fun K hK => ?_
     refine goes_ Try.func9 (by kernel_rfl) rfl #[.int .i64 a0, .agg #[.int .i64 t3, .int .i64 t4], .agg #[.int .i64 t5, .int .i64 t6]] (by rfl) rfl rfl mz ?_
     with_reducible refine (spec_RangeDo.calls _ _ _ _ _ _ _ _ _ _ A3.out).mono ?_
     rintro e w9 ⟨v2, rfl, o1, hb⟩
     refine ⟨_, rfl, ?_⟩
     have O1 := am (Kd.R_lower o1 (below_size (YA HB)))
     obtain ⟨K1, K2, K3, K4, HB⟩ := bk4 K1 K2 K3 K4 HB hb
     clear hb
     (try clear o1)
     refine kk hK ⟨bc K1 0, bc K1 1, bc K1 2, bc K1 3, bc K2 0, bc K2 1, bc K2 2, bc K2 3⟩ fun hHeld => ?_
     clear hK K
     refine pk 6 30 639 ?_
     refine pk 7 37 767 ?_
     refine pk 8 38 1023 ?_
     exact norm_ nz (hCont (v2, g4) _ ⟨hHeld, (RZ O1), (Z K1), (Z K2), (Z K3), (Z K4), G4.out, G5.out, N7.out, N8.out, N9.out, N10.out, N11.out, N12.out, (YA HB)⟩)
    skip
    refine goes_ Try.func9 (by kernel_rfl) rfl #[.int .i64 a0, .agg #[.int .i64 t3, .int .i64 t4], .agg #[.int .i64 t5, .int .i64 t6]] (by rfl) rfl rfl mz ?_
    with_reducible refine (spec_RangeDo.calls _ _ _ _ _ _ _ _ _ _ A3.out).mono ?_
    rintro e w8 ⟨v2, rfl, o1, hb⟩
    refine ⟨_, rfl, ?_⟩
    have O1 := am (Kd.R_lower o1 (below_size (YA HB)))
    obtain ⟨K1, K2, K3, HB⟩ := bk3 K1 K2 K3 HB hb
    clear hb
    (try clear o1)
    refine kk hK ⟨bc K1 0, bc K1 1, bc K1 2, bc K1 3, bc K2 0, bc K2 1, bc K2 2, bc K2 3⟩ fun hHeld => ?_
    clear hK K
    refine pk 6 30 127 ?_
    refine pk 7 37 255 ?_
    refine pk 8 38 511 ?_
    refine on 9 (some 8) 1023 fun K hK => ?_
    refine box_step ?hg (N := 8) ?hd (cs := #[.int .i64 0, .int .i64 0]) (t := 24) ?hr ?_; (case hd => rfl); (case hg => rfl); (case hr => first | (go_simp; done) | (go_simp; rfl))
    intro g4 hg w9 hbox hb
    have K4 := am (hbox)
    have G4 := am (bs hg (YA HB))
    have G5 := am (bs hg (YA HB))
    obtain ⟨N7,N8⟩ := ne_ hg K1
    obtain ⟨N9,N10⟩ := ne_ hg K2
    obtain ⟨N11,N12⟩ := ne_ hg K3
    replace O1 := am (Kd.R_below (RZ O1) hb)
    obtain ⟨K1, K2, K3, HB⟩ := bk3 K1 K2 K3 HB hb
    clear hb hbox hg
    refine kk hK ⟨bc K1 0, bc K1 1, bc K1 2, bc K1 3, bc K2 0, bc K2 1, bc K2 2, bc K2 3⟩ fun hHeld => ?_
    clear hK K
    exact norm_ nz (hCont (v2, g4) _ ⟨hHeld, (RZ O1), (Z K1), (Z K2), (Z K3), (Z K4), G4.out, G5.out, N7.out, N8.out, N9.out, N10.out, N11.out, N12.out, (YA HB)⟩)
   rintro ⟨v2, g4⟩ w6 ⟨hS_, h0_, h1_, h2_, h3_, h4_, h5_, h6_, h7_, h8_, h9_, h10_, h11_, h12_, h13_⟩
   have O1 : Aside0 (Kd.R (Kd.int .i64) 3 w6 w.heap.size (fun _ => True) v2 t9) := ⟨h0_⟩
   have K4 : Bx2 w6 g4 0 0 24 := ⟨h4_⟩
   have G4 : Aside0 (w.heap.size ≤ g4) := ⟨h5_⟩
   have G5 : Aside0 (w.heap.size ≤ g4) := ⟨h6_⟩
   have N7 : Aside0 (g1 ≠ g4) := ⟨h7_⟩
   have N8 : Aside0 (g4 ≠ g1) := ⟨h8_⟩
   have N9 : Aside0 (g2 ≠ g4) := ⟨h9_⟩
   have N10 : Aside0 (g4 ≠ g2) := ⟨h10_⟩
   have N11 : Aside0 (g3 ≠ g4) := ⟨h11_⟩
   have N12 : Aside0 (g4 ≠ g3) := ⟨h12_⟩
   replace K1 : Bx4 w6 g1 a1_0 a1_1 a1_2 a1_3 50 := ⟨h1_⟩
   replace K2 : Bx4 w6 g2 a2_0 a2_1 a2_2 a2_3 50 := ⟨h2_⟩
   replace K3 : Bx4 w6 g3 0 0 0 0 50 := ⟨h3_⟩
   replace HB : Aside0 (Below w.heap.size w w6) := ⟨h13_⟩
   clear h0_ h1_ h2_ h3_ h4_ h5_ h6_ h7_ h8_ h9_ h10_ h11_ h12_ h13_
   have hHeld : w6.cell? ⟨g1, 0, none⟩ = some (.int .i64 a1_0) ∧ w6.cell? ⟨g1, 1, none⟩ = some (.int .i64 a1_1) ∧ w6.cell? ⟨g1, 2, none⟩ = some (.int .i64 a1_2) ∧ w6.cell? ⟨g1, 3, none⟩ = some (.int .i64 a1_3) ∧ w6.cell? ⟨g2, 0, none⟩ = some (.int .i64 a2_0) ∧ w6.cell? ⟨g2, 1, none⟩ = some (.int .i64 a2_1) ∧ w6.cell? ⟨g2, 2, none⟩ = some (.int .i64 a2_2) ∧ w6.cell? ⟨g2, 3, none⟩ = some (.int .i64 a2_3) := hS_
   refine norm_ (a' := ?_) ?_ ?_
   rotate_left
   ·simp only [putAll, Act.put, List.setIfInBounds_toArray, List.set_cons_zero, List.set_cons_succ]
    rfl
   refine on 10 none 2047 fun K hK => ?_
   have s1 : w6.cell? ⟨g4, 0, none⟩ = some (.int .i64 0) := bc K4 0
   have hfs50 := blk_frozen K4.out 0
   have z_ := ns6 N7 N9 N11 N8 N10 N12
   have s2 : w6.cell? ⟨g4, 1, none⟩ = some (.int .i64 0) := bc K4 1
   have hfs51 := blk_frozen K4.out 1
   have z_ := ns6 N7 N9 N11 N8 N10 N12
   refine skip_ (w1 := ?_) (by rfl) rfl ?_ ?_
   rotate_left
   ·go_simp
    rfl
   refine hK.out _ _ ⟨(cf N7 ((cf N7 (hHeld.1)))), (cf N7 ((cf N7 (hHeld.2.1)))), (cf N7 ((cf N7 (hHeld.2.2.1)))), (cf N7 ((cf N7 (hHeld.2.2.2.1)))), (cf N9 ((cf N9 (hHeld.2.2.2.2.1)))), (cf N9 ((cf N9 (hHeld.2.2.2.2.2.1)))), (cf N9 ((cf N9 (hHeld.2.2.2.2.2.2.1)))), (cf N9 ((cf N9 (hHeld.2.2.2.2.2.2.2))))⟩ (fun hHeld => ?_)
   clear hK K
   refine pk 11 9 4095 ?_
   refine done_ (done_of HT_.out (by kernel_rfl)) ?_
   try go_wp2
   have n0_ : Aside0 (Kd.R (Kd.int .i64) 3 ((w6.setCell ⟨g4, 0, none⟩ (.int .i64 t7)).setCell ⟨g4, 1, none⟩ (.int .i64 t8)) w.heap.size (fun _ => True) v2 t9) := ⟨by (with_reducible repeat (first | apply Kd.R_alloc | apply Kd.R_drewN | apply Kd.R_drew)); exact Kd.R_mono (Kd.R_far (p := ⟨g4, 1, none⟩) (Kd.R_far (p := ⟨g4, 0, none⟩) (Kd.R_types O1.out K4.out (by decide)) (fun _ hk => hk.2) (.int .i64 t7)) (fun _ hk => hk.2) (.int .i64 t8)) (fun _ hk => trivial)⟩
   have n1_ : Aside0 (((w6.setCell ⟨g4, 0, none⟩ (.int .i64 t7)).setCell ⟨g4, 1, none⟩ (.int .i64 t8)).heap[g1]? = some (.cells #[.int .i64 a1_0, .int .i64 a1_1, .int .i64 a1_2, .int .i64 a1_3] 50 (0, 0))) := ⟨by refine fa N7 ?_; refine fa N7 ?_; exact Z K1⟩
   have n2_ : Aside0 (((w6.setCell ⟨g4, 0, none⟩ (.int .i64 t7)).setCell ⟨g4, 1, none⟩ (.int .i64 t8)).heap[g2]? = some (.cells #[.int .i64 a2_0, .int .i64 a2_1, .int .i64 a2_2, .int .i64 a2_3] 50 (0, 0))) := ⟨by refine fa N9 ?_; refine fa N9 ?_; exact Z K2⟩
   have n3_ : Aside0 (((w6.setCell ⟨g4, 0, none⟩ (.int .i64 t7)).setCell ⟨g4, 1, none⟩ (.int .i64 t8)).heap[g3]? = some (.cells #[.int .i64 0, .int .i64 0, .int .i64 0, .int .i64 0] 50 (0, 0))) := ⟨by refine fa N11 ?_; refine fa N11 ?_; exact Z K3⟩
   have n4_ : Aside0 (((w6.setCell ⟨g4, 0, none⟩ (.int .i64 t7)).setCell ⟨g4, 1, none⟩ (.int .i64 t8)).heap[g4]? = some (.cells #[.int .i64 t7, .int .i64 t8] 24 (0, 0))) := ⟨by refine pf ?_; refine blk_put (cs := #[.int .i64 t7, .int .i64 0]) ?_ 1 _ rfl; refine pf ?_; refine blk_put (cs := #[.int .i64 0, .int .i64 0]) ?_ 0 _ rfl; exact Z K4⟩
   have n5_ : Aside0 (Below w.heap.size w ((w6.setCell ⟨g4, 0, none⟩ (.int .i64 t7)).setCell ⟨g4, 1, none⟩ (.int .i64 t8))) := ⟨YA HB⟩
   (try clear O1)
   (try clear K1)
   (try clear K2)
   (try clear K3)
   (try clear K4)
   (try clear HB)
   generalize ((w6.setCell ⟨g4, 0, none⟩ (.int .i64 t7)).setCell ⟨g4, 1, none⟩ (.int .i64 t8)) = w7 at n0_ n1_ n2_ n3_ n4_ n5_ ⊢
   have O1 := n0_
   have K1 := n1_
   have K2 := n2_
   have K3 := n3_
   have K4 := n4_
   have HB := n5_
   clear n0_ n1_ n2_ n3_ n4_ n5_
   replace O1 := am (Kd.R_drew O1.out)
   obtain ⟨K1, K2, K3, K4, HB⟩ := dk4 K1 K2 K3 K4 HB
   refine start_ (n := 11) (S := fun w' => w'.cell? ⟨g4, 0, none⟩ = some (.int .i64 t7) ∧ w'.cell? ⟨g4, 1, none⟩ = some (.int .i64 t8) ∧ w'.cell? ⟨g1, 0, none⟩ = some (.int .i64 a1_0) ∧ w'.cell? ⟨g1, 1, none⟩ = some (.int .i64 a1_1) ∧ w'.cell? ⟨g1, 2, none⟩ = some (.int .i64 a1_2) ∧ w'.cell? ⟨g1, 3, none⟩ = some (.int .i64 a1_3) ∧ w'.cell? ⟨g2, 0, none⟩ = some (.int .i64 a2_0) ∧ w'.cell? ⟨g2, 1, none⟩ = some (.int .i64 a2_1) ∧ w'.cell? ⟨g2, 2, none⟩ = some (.int .i64 a2_2) ∧ w'.cell? ⟨g2, 3, none⟩ = some (.int .i64 a2_3)) (ds := []) (lb 11 0) (by kernel_rfl) rfl rfl ⟨bc K4 0, bc K4 1, bc K1 0, bc K1 1, bc K1 2, bc K1 3, bc K2 0, bc K2 1, bc K2 2, bc K2 3⟩ (fun hHeld => ?_); refine with_tabW spec_ValDo.tab4 spec_ValDo.bits4 (fun HT_ HW_ => ?_)
   generalize w7.drew = w8 at O1 K1 K2 K3 K4 HB hHeld ⊢
   refine pk 1 40 2 ?_
   refine pk 8 47 258 ?_
   refine tk 0 39 259 hHeld ?_
   refine tk 2 41 263 hHeld ?_
   refine tk 4 43 279 hHeld ?_
   refine on 3 (some 42) 287 fun K hK => ?_
   refine gq Try.func75 (spec_l10Rest.calls _ _ _ _ _ _ _ A4.out) fun w9 hb => ?_
   replace O1 := am (Kd.R_below (RZ O1) hb)
   obtain ⟨K1, K2, K3, K4, HB⟩ := bk4 K1 K2 K3 K4 HB hb
   clear hb
   refine kk hK ⟨bc K4 0, bc K4 1, bc K1 0, bc K1 1, bc K1 2, bc K1 3, bc K2 0, bc K2 1, bc K2 2, bc K2 3⟩ fun hHeld => ?_
   clear hK K
   refine on 5 (some 44) 319 fun K hK => ?_
   refine gq Try.func75 (spec_l10Rest.calls _ _ _ _ _ _ _ A5.out) fun w10 hb => ?_
   replace O1 := am (Kd.R_below (RZ O1) hb)
   obtain ⟨K1, K2, K3, K4, HB⟩ := bk4 K1 K2 K3 K4 HB hb
   clear hb
   refine kk hK ⟨bc K4 0, bc K4 1, bc K1 0, bc K1 1, bc K1 2, bc K1 3, bc K2 0, bc K2 1, bc K2 2, bc K2 3⟩ fun hHeld => ?_
   clear hK K
   refine on 6 (some 45) 383 fun K hK => ?_
   refine gq Try.func74 (spec_RestDo.calls _ _ _ _ _ _ _ _ _ A6.out) fun w11 hb => ?_
   replace O1 := am (Kd.R_below (RZ O1) hb)
   obtain ⟨K1, K2, K3, K4, HB⟩ := bk4 K1 K2 K3 K4 HB hb
   clear hb
   refine kk hK ⟨bc K4 0, bc K4 1, bc K1 0, bc K1 1, bc K1 2, bc K1 3, bc K2 0, bc K2 1, bc K2 2, bc K2 3⟩ fun hHeld => ?_
   clear hK K
   refine on 7 (some 46) 511 fun K hK => ?_
   refine gq Try.func73 (spec_ValMake.calls _ _ _ _ _ _ _ _ _ _ A7.out) fun w12 hb => ?_
   replace O1 := am (Kd.R_below (RZ O1) hb)
   obtain ⟨K1, K2, K3, K4, HB⟩ := bk4 K1 K2 K3 K4 HB hb
   clear hb
   refine kk hK ⟨bc K4 0, bc K4 1, bc K1 0, bc K1 1, bc K1 2, bc K1 3, bc K2 0, bc K2 1, bc K2 2, bc K2 3⟩ fun hHeld => ?_
   clear hK K
   refine on 9 none 1023 fun K hK => ?_
   have s3 : w12.cell? ⟨g3, 0, none⟩ = some (.int .i64 0) := bc K3 0
   have hfs58 := blk_frozen K3.out 0
   have z_ := ns6 N3 N5 N12 N4 N6 N11
   have s4 : w12.cell? ⟨g3, 1, none⟩ = some (.int .i64 0) := bc K3 1
   have hfs59 := blk_frozen K3.out 1
   have z_ := ns6 N3 N5 N12 N4 N6 N11
   have s5 : w12.cell? ⟨g3, 2, none⟩ = some (.int .i64 0) := bc K3 2
   have hfs60 := blk_frozen K3.out 2
   have z_ := ns6 N3 N5 N12 N4 N6 N11
   have s6 : w12.cell? ⟨g3, 3, none⟩ = some (.int .i64 0) := bc K3 3
   have hfs61 := blk_frozen K3.out 3
   have z_ := ns6 N3 N5 N12 N4 N6 N11
   refine skip_ (w1 := ?_) (by rfl) rfl ?_ ?_
   rotate_left
   ·go_simp
    rfl
   refine hK.out _ _ ⟨(cf N12 ((cf N12 ((cf N12 ((cf N12 (hHeld.1)))))))), (cf N12 ((cf N12 ((cf N12 ((cf N12 (hHeld.2.1)))))))), (cf N3 ((cf N3 ((cf N3 ((cf N3 (hHeld.2.2.1)))))))), (cf N3 ((cf N3 ((cf N3 ((cf N3 (hHeld.2.2.2.1)))))))), (cf N3 ((cf N3 ((cf N3 ((cf N3 (hHeld.2.2.2.2.1)))))))), (cf N3 ((cf N3 ((cf N3 ((cf N3 (hHeld.2.2.2.2.2.1)))))))), (cf N5 ((cf N5 ((cf N5 ((cf N5 (hHeld.2.2.2.2.2.2.1)))))))), (cf N5 ((cf N5 ((cf N5 ((cf N5 (hHeld.2.2.2.2.2.2.2.1)))))))), (cf N5 ((cf N5 ((cf N5 ((cf N5 (hHeld.2.2.2.2.2.2.2.2.1)))))))), (cf N5 ((cf N5 ((cf N5 ((cf N5 (hHeld.2.2.2.2.2.2.2.2.2))))))))⟩ (fun hHeld => ?_)
   clear hK K
   refine pk 10 7 2047 ?_
   refine done_ (done_of HT_.out (by kernel_rfl)) ?_
   try go_wp2
   refine bodyPost_ret (results_ct rfl _ _ g3 50 #[.int .i64 t16, .int .i64 t17, .int .i64 t18, .int .i64 t19] (0, 0) _ rfl (by refine pf ?_; refine blk_put (cs := #[.int .i64 t16, .int .i64 t17, .int .i64 t18, .int .i64 0]) ?_ 3 _ rfl; refine pf ?_; refine blk_put (cs := #[.int .i64 t16, .int .i64 t17, .int .i64 0, .int .i64 0]) ?_ 2 _ rfl; refine pf ?_; refine blk_put (cs := #[.int .i64 t16, .int .i64 0, .int .i64 0, .int .i64 0]) ?_ 1 _ rfl; refine pf ?_; refine blk_put (cs := #[.int .i64 0, .int .i64 0, .int .i64 0, .int .i64 0]) ?_ 0 _ rfl; exact Z K3) Try.underlying50 rfl (by kernel_rfl)) rfl ?_
   exact ⟨_, ez, by (with_reducible repeat (first | apply Kd.R_alloc | apply Kd.R_drewN | apply Kd.R_drew)); exact Kd.R_mono (Kd.R_far (p := ⟨g3, 3, none⟩) (Kd.R_far (p := ⟨g3, 2, none⟩) (Kd.R_far (p := ⟨g3, 1, none⟩) (Kd.R_far (p := ⟨g3, 0, none⟩) (Kd.R_types O1.out K3.out (by decide)) (fun _ hk => hk.2) (.int .i64 t16)) (fun _ hk => hk.2) (.int .i64 t17)) (fun _ hk => hk.2) (.int .i64 t18)) (fun _ hk => hk.2) (.int .i64 t19)) (fun _ hk => trivial), YA HB⟩
end
end Go.Proofs.Ythbkakcchgnhpaa.PFnExactValDo
