/- Written by this session's own driver (wip/dprint.py): the functions that the law FnExactValCmp reaches, as Lean functions, each with its contract. -/
import Derived.Test.YtdmadlfdibiejaaPFnExactValCmpx0
import Derived.Test.YtdmadlfdibiejaaSv
namespace Go.Proofs.Ytdmadlfdibiejaa.PFnExactValCmp
open Go.RowKit Go.Proofs.YtdmadlfdibiejaaV.PrintWords Go.Proofs.YtdmadlfdibiejaaV.PrintLast Go.Proofs.YtdmadlfdibiejaaV.PrintMore Go.Proofs.YtdmadlfdibiejaaSv
set_option linter.unusedVariables false
set_option linter.unusedSimpArgs false
section
attribute [local go_sem] max2_int min2_int max_two min_two max_three min_three max_four min_four
theorem eqA24 (d : Nat) (w : World) (x0 y0 : Int) (x1 y1 : Int) (x2 y2 : Int) (x3 y3 : Int) :
  (Op.equalIn (d + 2) 24 (.agg #[.int .i64 x0, .int .i64 x1, .int .i64 x2, .int .i64 x3]) (.agg #[.int .i64 y0, .int .i64 y1, .int .i64 y2, .int .i64 y3])).run Try.prog w = .ok (x0 == y0 && (x1 == y1 && (x2 == y2 && (x3 == y3)))) w := by
 refine eqA_of Try.underlying24 (by kernel_rfl) ?_
 refine eqf_cons (by rfl) (by go_simp; rfl) (by go_simp; rfl) (by go_simp) ?_
 refine eqf_cons (by rfl) (by go_simp; rfl) (by go_simp; rfl) (by go_simp) ?_
 refine eqf_cons (by rfl) (by go_simp; rfl) (by go_simp; rfl) (by go_simp) ?_
 exact eqf_last (by rfl) (by go_simp; rfl) (by go_simp; rfl) (by go_simp)
end
section
attribute [local go_sem] max2_int min2_int max_two min_two max_three min_three max_four min_four
theorem eqA33 (d : Nat) (w : World) (x0 y0 : Int) (x1 y1 : Int) :
  (Op.equalIn (d + 2) 33 (.agg #[.int .i64 x0, .int .i64 x1]) (.agg #[.int .i64 y0, .int .i64 y1])).run Try.prog w = .ok (x0 == y0 && (x1 == y1)) w := by
 refine eqA_of Try.underlying33 (by kernel_rfl) ?_
 refine eqf_cons (by rfl) (by go_simp; rfl) (by go_simp; rfl) (by go_simp) ?_
 exact eqf_last (by rfl) (by go_simp; rfl) (by go_simp; rfl) (by go_simp)
end
section
attribute [local go_sem] max2_int min2_int max_two min_two max_three min_three max_four min_four
attribute [local go_sem high] eqA33
attribute [local go_sem] Go.Proofs.YtdmadlfdibiejaaSet.isSome_setCell
def spec_l10None.f  : Option (Int × Int × Int × Int) := some (1, 0, 0, 0)
set_option maxHeartbeats 8000000 in
set_option maxRecDepth 100000 in
theorem spec_l10None.calls  (r1 : Int) (r2 : Int) (r3 : Int) (r4 : Int) (w : World) (h : spec_l10None.f  = some (r1, r2, r3, r4)) :
  Calls Try.prog 9 #[] w fun e w' => e = .returned (.agg #[.int .i64 r1, .int .i64 r2, .int .i64 r3, .int .i64 r4]) ∧ Below w.heap.size w w' := by
 have hu24 := Try.underlying24
 have HB := am (Below.refl w.heap.size w)
 have H : (some (1, 0, 0, 0)) = some (r1, r2, r3, r4) := h
 clear h
 simp only [Option.some.injEq, Prod.mk.injEq] at H
 obtain ⟨rfl, rfl, rfl, rfl⟩ := H
 go_enter Try.func9, Try.ntmps9
 go_wp2_with (first | ((with_reducible refine gate_dst (N := 0) rfl ?_); refine bxn 0 #[.int .i64 0, .int .i64 0, .int .i64 0, .int .i64 0] 24 HB fun g1 w1 K1 G1 hg hb => ?_; replace HB := am (below_step (YA HB) hb); clear hb hg; have z_ := cB4 K1))
 refine bodyPost_ret (results_cell_row rfl _ _ g1 24 #[.int .i64 1, .int .i64 0, .int .i64 0, .int .i64 0] (0, 0) _ rfl (by refine pf ?_; refine blk_put (cs := #[.int .i64 1, .int .i64 0, .int .i64 0, .int .i64 0]) ?_ 3 _ rfl; refine pf ?_; refine blk_put (cs := #[.int .i64 1, .int .i64 0, .int .i64 0, .int .i64 0]) ?_ 2 _ rfl; refine pf ?_; refine blk_put (cs := #[.int .i64 1, .int .i64 0, .int .i64 0, .int .i64 0]) ?_ 1 _ rfl; refine pf ?_; refine blk_put (cs := #[.int .i64 0, .int .i64 0, .int .i64 0, .int .i64 0]) ?_ 0 _ rfl; exact Z K1) Try.underlying24 rfl (by kernel_rfl)) rfl ?_
 exact ⟨ez, YA HB⟩

def spec_l10Range.f (a0_0 : Int) (a0_1 : Int) (a0_2 : Int) (a0_3 : Int) : Option (Int × Int) := some (a0_0, a0_1)
set_option maxHeartbeats 8000000 in
set_option maxRecDepth 100000 in
theorem spec_l10Range.calls (a0_0 : Int) (a0_1 : Int) (a0_2 : Int) (a0_3 : Int) (r1 : Int) (r2 : Int) (w : World) (h : spec_l10Range.f a0_0 a0_1 a0_2 a0_3 = some (r1, r2)) :
  Calls Try.prog 11 #[.agg #[.int .i64 a0_0, .int .i64 a0_1, .int .i64 a0_2, .int .i64 a0_3]] w fun e w' => e = .returned (.agg #[.int .i64 r1, .int .i64 r2]) ∧ Below w.heap.size w w' := by
 have hu24 := Try.underlying24
 have hu33 := Try.underlying33
 have HB := am (Below.refl w.heap.size w)
 have H : (some (a0_0, a0_1)) = some (r1, r2) := h
 clear h
 simp only [Option.some.injEq, Prod.mk.injEq] at H
 obtain ⟨rfl, rfl⟩ := H
 go_enter Try.func11, Try.ntmps11
 go_wp2_with (first | ((with_reducible refine gate_dst (N := 1) rfl ?_); refine bxn 1 #[.int .i64 a0_0, .int .i64 a0_1, .int .i64 a0_2, .int .i64 a0_3] 24 HB fun g1 w1 K1 G1 hg hb => ?_; replace HB := am (below_step (YA HB) hb); clear hb hg) | ((with_reducible refine gate_dst (N := 2) rfl ?_); refine bxn 2 #[.int .i64 0, .int .i64 0] 33 HB fun g2 w2 K2 G2 hg hb => ?_; obtain ⟨N1,N2⟩ := ne_ hg K1; obtain ⟨K1, HB⟩ := bk1 K1 HB hb; clear hb hg; have z_ := ns1 N1; have z_ := cB4 K1; have z_ := cB2 K2))
 refine bodyPost_ret (results_cell_row rfl _ _ g2 33 #[.int .i64 a0_0, .int .i64 a0_1] (0, 0) _ rfl (by refine pf ?_; refine blk_put (cs := #[.int .i64 a0_0, .int .i64 0]) ?_ 1 _ rfl; refine pf ?_; refine blk_put (cs := #[.int .i64 0, .int .i64 0]) ?_ 0 _ rfl; exact Z K2) Try.underlying33 rfl (by kernel_rfl)) rfl ?_
 exact ⟨ez, YA HB⟩

def spec_l8None.f  : Option (Int × Int) := some (1, 0)
set_option maxHeartbeats 8000000 in
set_option maxRecDepth 100000 in
theorem spec_l8None.calls  (r1 : Int) (r2 : Int) (w : World) (h : spec_l8None.f  = some (r1, r2)) :
  Calls Try.prog 25 #[] w fun e w' => e = .returned (.agg #[.int .i64 r1, .int .i64 r2]) ∧ Below w.heap.size w w' := by
 have hu33 := Try.underlying33
 have HB := am (Below.refl w.heap.size w)
 have H : (some (1, 0)) = some (r1, r2) := h
 clear h
 simp only [Option.some.injEq, Prod.mk.injEq] at H
 obtain ⟨rfl, rfl⟩ := H
 go_enter Try.func25, Try.ntmps25
 go_wp2_with (first | ((with_reducible refine gate_dst (N := 0) rfl ?_); refine bxn 0 #[.int .i64 0, .int .i64 0] 33 HB fun g1 w1 K1 G1 hg hb => ?_; replace HB := am (below_step (YA HB) hb); clear hb hg; have z_ := cB2 K1))
 refine bodyPost_ret (results_cell_row rfl _ _ g1 33 #[.int .i64 1, .int .i64 0] (0, 0) _ rfl (by refine pf ?_; refine blk_put (cs := #[.int .i64 1, .int .i64 0]) ?_ 1 _ rfl; refine pf ?_; refine blk_put (cs := #[.int .i64 0, .int .i64 0]) ?_ 0 _ rfl; exact Z K1) Try.underlying33 rfl (by kernel_rfl)) rfl ?_
 exact ⟨ez, YA HB⟩

def spec_l1In.f (a0 : Int) (a1 : Int) (a2 : Int) : Option (Bool) := if a0 ≥ a1 then (some (decide (a0 ≤ a2))) else (some false)
set_option maxHeartbeats 8000000 in
set_option maxRecDepth 100000 in
theorem spec_l1In.calls (a0 : Int) (a1 : Int) (a2 : Int) (r : Bool) (w : World) (h : spec_l1In.f a0 a1 a2 = some r) :
  Calls Try.prog 49 #[.int .i64 a0, .int .i64 a1, .int .i64 a2] w fun e w' => e = .returned (.bool r) ∧ Drawn0 w w' := by
 have H : (if a0 ≥ a1 then (some (decide (a0 ≤ a2))) else (some false)) = some r := h
 clear h
 by_cases c1 : a0 ≥ a1
 ·rw [if_pos c1] at H
  have d1 := dT c1
  clear c1
  obtain rfl := Option.some.inj H
  go_enter Try.func49, Try.ntmps49
  go_wp2
  go_ret
  exact ⟨by first | rfl | (simp; done) | (simp [*]; done), by repeat (first | exact Drawn0.refl _ | apply Drawn0.step)⟩
 rw [if_neg c1] at H
 have d1 := dF c1
 clear c1
 obtain rfl := Option.some.inj H
 go_enter Try.func49, Try.ntmps49
 go_wp2
 go_ret
 exact ⟨by first | rfl | (simp; done) | (simp [*]; done), by repeat (first | exact Drawn0.refl _ | apply Drawn0.step)⟩

def spec_NumOk.f (a0 : Int) : Option (Bool) := (spec_l1In.f a0 (-2147483648) 2147483647).bind fun t1 => (some t1)
set_option maxHeartbeats 8000000 in
set_option maxRecDepth 100000 in
theorem spec_NumOk.calls (a0 : Int) (r : Bool) (w : World) (h : spec_NumOk.f a0 = some r) :
  Calls Try.prog 48 #[.int .i64 a0] w fun e w' => e = .returned (.bool r) ∧ Drawn0 w w' := by
 have H : ((spec_l1In.f a0 (-2147483648) 2147483647).bind fun t1 => (some t1)) = some r := h
 clear h
 obtain ⟨t1, A1, H⟩ := bd H
 try dsimp only at H
 obtain rfl := Option.some.inj H
 go_enter Try.func48, Try.ntmps48
 go_wp2_with (first | ((with_reducible refine gate_callee (f := 49) rfl ?_); refine goesL_ (some 4) rfl rfl Try.func49 (by kernel_rfl) rfl #[.int .i64 a0, .int .i64 (-2147483648), .int .i64 2147483647] rfl mz ?_; (with_reducible refine (spec_l1In.calls _ _ _ _ _ A1.out).mono ?_); rintro e w' ⟨rfl, ⟨nd, rfl⟩⟩; refine ⟨_, rfl, ?_⟩))
 go_ret
 exact ⟨by first | rfl | (simp; done) | (simp [*]; done), by repeat (first | exact Drawn0.refl _ | apply Drawn0.step)⟩

def spec_RangeOk.f (a0_0 : Int) (a0_1 : Int) : Option (Bool) := (spec_l8None.f).bind fun u1 => (if (a0_0 == u1.1 && (a0_1 == u1.2)) = true then (some true) else ((spec_NumOk.f a0_0).bind fun t1 => (if t1 = true then ((spec_NumOk.f a0_1).bind fun t2 => (if t2 = true then (some (decide (a0_0 ≤ a0_1))) else (some false))) else (some false))))
def spec_RangeOk.T1 : Bool × List (List Nat × List Nat) := (true, [([], []), ([], []), ([0, 1], [0, 1]), ([2, 1], [2]), ([3], [3]), ([4, 3], [3, 4]), ([5, 3, 3], [3, 5]), ([6, 6, 3], [3, 6]), ([7], [7]), ([8, 7], [7, 8]), ([9, 7, 7], [7, 9]), ([7, 10, 3], [3, 7, 10]), ([11, 10, 3], [3, 11]), ([12], [12]), ([13, 12], [12, 13]), ([12], [12]), ([15, 12], [12, 15]), ([14, 16, 12], [12, 14, 16]), ([12, 17, 3], [3, 12, 17]), ([3, 18], [3, 18]), ([19, 12, 0, 1, 2, 3, 4, 5, 6, 7, 8, 9, 10, 11, 12, 13, 14, 15, 16, 17, 18, 19], [19])])
def spec_RangeOk.B1 : List Nat := [0, 0, 3, 7, 15, 31, 63, 127, 255, 511, 1023, 2047, 4095, 8191, 16383, 8191, 40959, 131071, 262143, 524287, 1048575]
theorem spec_RangeOk.tab1 : rtab .any (opsOf Try.f23 1) = spec_RangeOk.T1 := by kernel_rfl
theorem spec_RangeOk.bits1 : waitsOk spec_RangeOk.T1.2 spec_RangeOk.B1 = true := by kernel_rfl
set_option maxHeartbeats 8000000 in
set_option maxRecDepth 100000 in
theorem spec_RangeOk.calls (a0_0 : Int) (a0_1 : Int) (r : Bool) (w : World) (h : spec_RangeOk.f a0_0 a0_1 = some r) :
  Calls Try.prog 23 #[.agg #[.int .i64 a0_0, .int .i64 a0_1]] w fun e w' => e = .returned (.bool r) ∧ Below w.heap.size w w' := by
 have hu33 := Try.underlying33
 have HB := am (Below.refl w.heap.size w)
 have H : ((spec_l8None.f).bind fun u1 => (if (a0_0 == u1.1 && (a0_1 == u1.2)) = true then (some true) else ((spec_NumOk.f a0_0).bind fun t1 => (if t1 = true then ((spec_NumOk.f a0_1).bind fun t2 => (if t2 = true then (some (decide (a0_0 ≤ a0_1))) else (some false))) else (some false))))) = some r := h
 clear h
 obtain ⟨⟨t3, t4⟩, A1, H⟩ := bd H
 try dsimp only at H
 by_cases c1 : (a0_0 == t3 && (a0_1 == t4)) = true
 ·rw [if_pos c1] at H
  have d1 : (a0_0 == t3 && (a0_1 == t4)) = true := c1
  (try (have d2 : decide (a0_0 = t3 && (a0_1 == t4)) = true := by simpa using c1))
  (try (have d3 : (a0_0 == t3 && (a0_1 == t4)) = true := by simpa using c1))
  clear c1
  obtain rfl := Option.some.inj H
  go_enter Try.func23, Try.ntmps23
  try go_wp2_with (first | ((with_reducible refine gate_dst (N := 1) rfl ?_); refine bxn 1 #[.int .i64 a0_0, .int .i64 a0_1] 33 HB fun g1 w1 K1 G1 hg hb => ?_; replace HB := am (below_step (YA HB) hb); clear hb hg))
  obtain ⟨K1, HB⟩ := dk1 K1 HB
  refine start_ (n := 21) (S := fun w' => ce2 w' g1 a0_0 a0_1) (ds := []) (lb 21 0) (by kernel_rfl) rfl rfl (cc2 K1) (fun hHeld => ?_); refine with_tabW spec_RangeOk.tab1 spec_RangeOk.bits1 (fun HT_ HW_ => ?_)
  generalize w1.drew = w2 at K1 HB hHeld ⊢
  refine tk 0 3 1 hHeld ?_
  refine cl1 1 4 3 Try.func25 (spec_l8None.calls _ _ _ A1.out) K1 HB fun w3 K1 HB hHeld => ?_
  refine pk 2 5 7 ?_
  refine pk 3 6 15 ?_
  refine uk 4 7 31 ?_
  refine uk 5 8 63 ?_
  refine uk 6 9 127 ?_
  refine uk 7 10 255 ?_
  refine uk 8 11 511 ?_
  refine uk 9 12 1023 ?_
  refine uk 10 13 2047 ?_
  refine uk 11 14 4095 ?_
  refine uk 12 15 8191 ?_
  refine uk 13 16 16383 ?_
  refine uk 14 17 32767 ?_
  refine uk 15 18 65535 ?_
  refine uk 16 19 131071 ?_
  refine uk 17 20 262143 ?_
  refine uk 18 21 524287 ?_
  refine pk 19 22 1048575 ?_
  refine pk 20 2 2097151 ?_
  refine done_ (done_of HT_.out (by kernel_rfl)) ?_
  try go_wp2
  go_ret
  exact ⟨ez, YA HB⟩
 rw [if_neg c1] at H
 have d1 : (a0_0 == t3 && (a0_1 == t4)) = false := by simpa using c1
 (try (have d2 : decide (a0_0 = t3 && (a0_1 == t4)) = false := by simpa using c1))
 (try (have d3 : (a0_0 == t3 && (a0_1 == t4)) = false := by simpa using c1))
 (try (have d4 : ¬ (a0_0 = t3 && (a0_1 == t4)) := by simpa using c1))
 clear c1
 obtain ⟨t1, A2, H⟩ := bd H
 try dsimp only at H
 by_cases c2 : t1 = true
 rotate_left
 ·replace c2 := Bool.eq_false_iff.mpr c2
  subst c2
  rw [if_neg ff] at H
  obtain rfl := Option.some.inj H
  go_enter Try.func23, Try.ntmps23
  try go_wp2_with (first | ((with_reducible refine gate_dst (N := 1) rfl ?_); refine bxn 1 #[.int .i64 a0_0, .int .i64 a0_1] 33 HB fun g1 w1 K1 G1 hg hb => ?_; replace HB := am (below_step (YA HB) hb); clear hb hg))
  obtain ⟨K1, HB⟩ := dk1 K1 HB
  refine start_ (n := 21) (S := fun w' => ce2 w' g1 a0_0 a0_1) (ds := []) (lb 21 0) (by kernel_rfl) rfl rfl (cc2 K1) (fun hHeld => ?_); refine with_tabW spec_RangeOk.tab1 spec_RangeOk.bits1 (fun HT_ HW_ => ?_)
  generalize w1.drew = w2 at K1 HB hHeld ⊢
  refine tk 0 3 1 hHeld ?_
  refine cl1 1 4 3 Try.func25 (spec_l8None.calls _ _ _ A1.out) K1 HB fun w3 K1 HB hHeld => ?_
  refine pk 2 5 7 ?_
  refine pk 3 6 15 ?_
  refine pk 4 7 31 ?_
  refine tk 5 8 63 hHeld ?_
  refine on 6 (some 9) 127 fun K hK => ?_
  refine goes_ Try.func48 (by kernel_rfl) rfl #[.int .i64 a0_0] (by rfl) rfl rfl mz ?_
  with_reducible refine (spec_NumOk.calls _ _ _ A2.out).mono ?_
  rintro e w' ⟨rfl, ⟨nd, rfl⟩⟩
  refine ⟨_, rfl, ?_⟩
  refine kk hK (cc2 K1) fun hHeld => ?_
  clear hK K
  refine pk 7 10 255 ?_
  refine uk 8 11 511 ?_
  refine uk 9 12 1023 ?_
  refine uk 10 13 2047 ?_
  refine pk 11 14 4095 ?_
  refine pk 12 15 8191 ?_
  refine uk 13 16 16383 ?_
  refine uk 14 17 32767 ?_
  refine uk 15 18 65535 ?_
  refine uk 16 19 131071 ?_
  refine uk 17 20 262143 ?_
  refine pk 18 21 524287 ?_
  refine pk 19 22 1048575 ?_
  refine pk 20 2 2097151 ?_
  refine done_ (done_of HT_.out (by kernel_rfl)) ?_
  try go_wp2
  go_ret
  exact ⟨ez, YA HB⟩
 subst c2
 rw [if_pos rfl] at H
 obtain ⟨t2, A3, H⟩ := bd H
 try dsimp only at H
 by_cases c3 : t2 = true
 rotate_left
 ·replace c3 := Bool.eq_false_iff.mpr c3
  subst c3
  rw [if_neg ff] at H
  obtain rfl := Option.some.inj H
  go_enter Try.func23, Try.ntmps23
  try go_wp2_with (first | ((with_reducible refine gate_dst (N := 1) rfl ?_); refine bxn 1 #[.int .i64 a0_0, .int .i64 a0_1] 33 HB fun g1 w1 K1 G1 hg hb => ?_; replace HB := am (below_step (YA HB) hb); clear hb hg))
  obtain ⟨K1, HB⟩ := dk1 K1 HB
  refine start_ (n := 21) (S := fun w' => ce2 w' g1 a0_0 a0_1) (ds := []) (lb 21 0) (by kernel_rfl) rfl rfl (cc2 K1) (fun hHeld => ?_); refine with_tabW spec_RangeOk.tab1 spec_RangeOk.bits1 (fun HT_ HW_ => ?_)
  generalize w1.drew = w2 at K1 HB hHeld ⊢
  refine tk 0 3 1 hHeld ?_
  refine cl1 1 4 3 Try.func25 (spec_l8None.calls _ _ _ A1.out) K1 HB fun w3 K1 HB hHeld => ?_
  refine pk 2 5 7 ?_
  refine pk 3 6 15 ?_
  refine pk 4 7 31 ?_
  refine tk 5 8 63 hHeld ?_
  refine on 6 (some 9) 127 fun K hK => ?_
  refine goes_ Try.func48 (by kernel_rfl) rfl #[.int .i64 a0_0] (by rfl) rfl rfl mz ?_
  with_reducible refine (spec_NumOk.calls _ _ _ A2.out).mono ?_
  rintro e w' ⟨rfl, ⟨nd, rfl⟩⟩
  refine ⟨_, rfl, ?_⟩
  refine kk hK (cc2 K1) fun hHeld => ?_
  clear hK K
  refine pk 7 10 255 ?_
  refine pk 8 11 511 ?_
  refine tk 9 12 1023 hHeld ?_
  refine on 10 (some 13) 2047 fun K hK => ?_
  refine goes_ Try.func48 (by kernel_rfl) rfl #[.int .i64 a0_1] (by rfl) rfl rfl mz ?_
  with_reducible refine (spec_NumOk.calls _ _ _ A3.out).mono ?_
  rintro e w' ⟨rfl, ⟨nd, rfl⟩⟩
  refine ⟨_, rfl, ?_⟩
  refine kk hK (cc2 K1) fun hHeld => ?_
  clear hK K
  refine pk 11 14 4095 ?_
  refine pk 12 15 8191 ?_
  refine uk 13 16 16383 ?_
  refine uk 14 17 32767 ?_
  refine uk 15 18 65535 ?_
  refine uk 16 19 131071 ?_
  refine uk 17 20 262143 ?_
  refine pk 18 21 524287 ?_
  refine pk 19 22 1048575 ?_
  refine pk 20 2 2097151 ?_
  refine done_ (done_of HT_.out (by kernel_rfl)) ?_
  try go_wp2
  go_ret
  exact ⟨ez, YA HB⟩
 subst c3
 rw [if_pos rfl] at H
 obtain rfl := Option.some.inj H
 go_enter Try.func23, Try.ntmps23
 try go_wp2_with (first | ((with_reducible refine gate_dst (N := 1) rfl ?_); refine bxn 1 #[.int .i64 a0_0, .int .i64 a0_1] 33 HB fun g1 w1 K1 G1 hg hb => ?_; replace HB := am (below_step (YA HB) hb); clear hb hg))
 obtain ⟨K1, HB⟩ := dk1 K1 HB
 refine start_ (n := 21) (S := fun w' => ce2 w' g1 a0_0 a0_1) (ds := []) (lb 21 0) (by kernel_rfl) rfl rfl (cc2 K1) (fun hHeld => ?_); refine with_tabW spec_RangeOk.tab1 spec_RangeOk.bits1 (fun HT_ HW_ => ?_)
 generalize w1.drew = w2 at K1 HB hHeld ⊢
 refine tk 0 3 1 hHeld ?_
 refine cl1 1 4 3 Try.func25 (spec_l8None.calls _ _ _ A1.out) K1 HB fun w3 K1 HB hHeld => ?_
 refine pk 2 5 7 ?_
 refine pk 3 6 15 ?_
 refine pk 4 7 31 ?_
 refine tk 5 8 63 hHeld ?_
 refine on 6 (some 9) 127 fun K hK => ?_
 refine goes_ Try.func48 (by kernel_rfl) rfl #[.int .i64 a0_0] (by rfl) rfl rfl mz ?_
 with_reducible refine (spec_NumOk.calls _ _ _ A2.out).mono ?_
 rintro e w' ⟨rfl, ⟨nd, rfl⟩⟩
 refine ⟨_, rfl, ?_⟩
 refine kk hK (cc2 K1) fun hHeld => ?_
 clear hK K
 refine pk 7 10 255 ?_
 refine pk 8 11 511 ?_
 refine tk 9 12 1023 hHeld ?_
 refine on 10 (some 13) 2047 fun K hK => ?_
 refine goes_ Try.func48 (by kernel_rfl) rfl #[.int .i64 a0_1] (by rfl) rfl rfl mz ?_
 with_reducible refine (spec_NumOk.calls _ _ _ A3.out).mono ?_
 rintro e w' ⟨rfl, ⟨nd, rfl⟩⟩
 refine ⟨_, rfl, ?_⟩
 refine kk hK (cc2 K1) fun hHeld => ?_
 clear hK K
 refine pk 11 14 4095 ?_
 refine pk 12 15 8191 ?_
 refine pk 13 16 16383 ?_
 refine pk 15 18 49151 ?_
 refine tk 14 17 65535 hHeld ?_
 refine tk 16 19 131071 hHeld ?_
 refine pk 17 20 262143 ?_
 refine pk 18 21 524287 ?_
 refine pk 19 22 1048575 ?_
 refine pk 20 2 2097151 ?_
 refine done_ (done_of HT_.out (by kernel_rfl)) ?_
 try go_wp2
 go_ret
 exact ⟨ez, YA HB⟩
end
section
attribute [local go_sem] max2_int min2_int max_two min_two max_three min_three max_four min_four
attribute [local go_sem] Go.Proofs.YtdmadlfdibiejaaSet.isSome_setCell
def spec_RestOk.f (a0_0 : Int) (a0_1 : Int) : Option (Bool) := if a0_0 = 0 then ((spec_NumOk.f a0_1).bind fun t1 => (some t1)) else ((spec_l1In.f a0_0 1 65536).bind fun t2 => (if t2 = true then ((spec_l1In.f a0_1 0 (wrap64 (a0_0 - 1))).bind fun t3 => (some t3)) else (some false)))
set_option maxHeartbeats 8000000 in
set_option maxRecDepth 100000 in
theorem spec_RestOk.calls (a0_0 : Int) (a0_1 : Int) (r : Bool) (w : World) (h : spec_RestOk.f a0_0 a0_1 = some r) :
  Calls Try.prog 24 #[.agg #[.int .i64 a0_0, .int .i64 a0_1]] w fun e w' => e = .returned (.bool r) ∧ Below w.heap.size w w' := by
 have hu39 := Try.underlying39
 have HB := am (Below.refl w.heap.size w)
 have H : (if a0_0 = 0 then ((spec_NumOk.f a0_1).bind fun t1 => (some t1)) else ((spec_l1In.f a0_0 1 65536).bind fun t2 => (if t2 = true then ((spec_l1In.f a0_1 0 (wrap64 (a0_0 - 1))).bind fun t3 => (some t3)) else (some false)))) = some r := h
 clear h
 by_cases c1 : a0_0 = 0
 ·rw [if_pos c1] at H
  have d1 := eT c1
  have d2 := nF c1
  clear c1
  obtain ⟨t1, A1, H⟩ := bd H
  try dsimp only at H
  obtain rfl := Option.some.inj H
  go_enter Try.func24, Try.ntmps24
  go_wp2_with (first | ((with_reducible refine gate_dst (N := 1) rfl ?_); refine bxn 1 #[.int .i64 a0_0, .int .i64 a0_1] 39 HB fun g1 w1 K1 G1 hg hb => ?_; replace HB := am (below_step (YA HB) hb); clear hb hg; have z_ := cB2 K1) | ((with_reducible refine gate_callee (f := 48) rfl ?_); refine goesL_ (some 8) rfl rfl Try.func48 (by kernel_rfl) rfl #[.int .i64 a0_1] rfl mz ?_; (with_reducible refine (spec_NumOk.calls _ _ _ A1.out).mono ?_); rintro e w' ⟨rfl, ⟨nd, rfl⟩⟩; refine ⟨_, rfl, ?_⟩))
  go_ret
  exact ⟨ez, YA HB⟩
 rw [if_neg c1] at H
 have d1 := eF c1
 have d2 := nT c1
 obtain ⟨t2, A1, H⟩ := bd H
 try dsimp only at H
 by_cases c2 : t2 = true
 rotate_left
 ·replace c2 := Bool.eq_false_iff.mpr c2
  subst c2
  rw [if_neg ff] at H
  obtain rfl := Option.some.inj H
  go_enter Try.func24, Try.ntmps24
  go_wp2_with (first | ((with_reducible refine gate_dst (N := 1) rfl ?_); refine bxn 1 #[.int .i64 a0_0, .int .i64 a0_1] 39 HB fun g1 w1 K1 G1 hg hb => ?_; replace HB := am (below_step (YA HB) hb); clear hb hg; have z_ := cB2 K1) | ((with_reducible refine gate_callee (f := 49) rfl ?_); refine goesL_ (some 11) rfl rfl Try.func49 (by kernel_rfl) rfl #[.int .i64 a0_0, .int .i64 1, .int .i64 65536] rfl mz ?_; (with_reducible refine (spec_l1In.calls _ _ _ _ _ A1.out).mono ?_); rintro e w' ⟨rfl, ⟨nd, rfl⟩⟩; refine ⟨_, rfl, ?_⟩))
  go_ret
  exact ⟨ez, YA HB⟩
 subst c2
 rw [if_pos rfl] at H
 obtain ⟨t3, A2, H⟩ := bd H
 try dsimp only at H
 obtain rfl := Option.some.inj H
 go_enter Try.func24, Try.ntmps24
 go_wp2_with (first | ((with_reducible refine gate_dst (N := 1) rfl ?_); refine bxn 1 #[.int .i64 a0_0, .int .i64 a0_1] 39 HB fun g1 w1 K1 G1 hg hb => ?_; replace HB := am (below_step (YA HB) hb); clear hb hg; have z_ := cB2 K1) | ((with_reducible refine gate_callee (f := 49) rfl ?_); refine goesL_ (some 11) rfl rfl Try.func49 (by kernel_rfl) rfl #[.int .i64 a0_0, .int .i64 1, .int .i64 65536] rfl mz ?_; (with_reducible refine (spec_l1In.calls _ _ _ _ _ A1.out).mono ?_); rintro e w' ⟨rfl, ⟨nd, rfl⟩⟩; refine ⟨_, rfl, ?_⟩) | (go_at_call 49; (with_reducible refine (spec_l1In.calls _ _ _ _ _ A2.out).mono ?_); rintro e w' ⟨rfl, ⟨nd, rfl⟩⟩))
 go_ret
 exact ⟨ez, YA HB⟩

def spec_RangeHas.f (a0_0 : Int) (a0_1 : Int) (a1 : Int) : Option (Bool) := (spec_RangeOk.f a0_0 a0_1).bind fun t1 => (if t1 = true then ((spec_l1In.f a1 a0_0 a0_1).bind fun t2 => (some t2)) else (some false))
set_option maxHeartbeats 8000000 in
set_option maxRecDepth 100000 in
theorem spec_RangeHas.calls (a0_0 : Int) (a0_1 : Int) (a1 : Int) (r : Bool) (w : World) (h : spec_RangeHas.f a0_0 a0_1 a1 = some r) :
  Calls Try.prog 32 #[.agg #[.int .i64 a0_0, .int .i64 a0_1], .int .i64 a1] w fun e w' => e = .returned (.bool r) ∧ Below w.heap.size w w' := by
 have hu33 := Try.underlying33
 have HB := am (Below.refl w.heap.size w)
 have H : ((spec_RangeOk.f a0_0 a0_1).bind fun t1 => (if t1 = true then ((spec_l1In.f a1 a0_0 a0_1).bind fun t2 => (some t2)) else (some false))) = some r := h
 clear h
 obtain ⟨t1, A1, H⟩ := bd H
 try dsimp only at H
 by_cases c1 : t1 = true
 rotate_left
 ·replace c1 := Bool.eq_false_iff.mpr c1
  subst c1
  rw [if_neg ff] at H
  obtain rfl := Option.some.inj H
  go_enter Try.func32, Try.ntmps32
  go_wp2_with (first | ((with_reducible refine gate_dst (N := 2) rfl ?_); refine bxn 2 #[.int .i64 a0_0, .int .i64 a0_1] 33 HB fun g1 w1 K1 G1 hg hb => ?_; replace HB := am (below_step (YA HB) hb); clear hb hg; have z_ := cB2 K1) | ((with_reducible refine gate_callee (f := 23) rfl ?_); refine gL 6 Try.func23 (spec_RangeOk.calls _ _ _ _ A1.out) fun w2 hb => ?_; obtain ⟨K1, HB⟩ := bk1 K1 HB hb; (try clear hb)))
  go_ret
  exact ⟨ez, YA HB⟩
 subst c1
 rw [if_pos rfl] at H
 obtain ⟨t2, A2, H⟩ := bd H
 try dsimp only at H
 obtain rfl := Option.some.inj H
 go_enter Try.func32, Try.ntmps32
 go_wp2_with (first | ((with_reducible refine gate_dst (N := 2) rfl ?_); refine bxn 2 #[.int .i64 a0_0, .int .i64 a0_1] 33 HB fun g1 w1 K1 G1 hg hb => ?_; replace HB := am (below_step (YA HB) hb); clear hb hg; have z_ := cB2 K1) | ((with_reducible refine gate_callee (f := 23) rfl ?_); refine gL 6 Try.func23 (spec_RangeOk.calls _ _ _ _ A1.out) fun w2 hb => ?_; obtain ⟨K1, HB⟩ := bk1 K1 HB hb; (try clear hb); have z_ := cB2 K1) | (go_at_call 49; (with_reducible refine (spec_l1In.calls _ _ _ _ _ A2.out).mono ?_); rintro e w' ⟨rfl, ⟨nd, rfl⟩⟩))
 go_ret
 exact ⟨ez, YA HB⟩

def spec_l10One.f (a0 : Int) : Option (Int × Int × Int × Int) := some (a0, a0, 0, a0)
set_option maxHeartbeats 8000000 in
set_option maxRecDepth 100000 in
theorem spec_l10One.calls (a0 : Int) (r1 : Int) (r2 : Int) (r3 : Int) (r4 : Int) (w : World) (h : spec_l10One.f a0 = some (r1, r2, r3, r4)) :
  Calls Try.prog 33 #[.int .i64 a0] w fun e w' => e = .returned (.agg #[.int .i64 r1, .int .i64 r2, .int .i64 r3, .int .i64 r4]) ∧ Below w.heap.size w w' := by
 have hu24 := Try.underlying24
 have HB := am (Below.refl w.heap.size w)
 have H : (some (a0, a0, 0, a0)) = some (r1, r2, r3, r4) := h
 clear h
 simp only [Option.some.injEq, Prod.mk.injEq] at H
 obtain ⟨rfl, rfl, rfl, rfl⟩ := H
 go_enter Try.func33, Try.ntmps33
 go_wp2_with (first | ((with_reducible refine gate_dst (N := 2) rfl ?_); refine bxn 2 #[.int .i64 0, .int .i64 0, .int .i64 0, .int .i64 0] 24 HB fun g1 w1 K1 G1 hg hb => ?_; replace HB := am (below_step (YA HB) hb); clear hb hg; have z_ := cB4 K1))
 refine bodyPost_ret (results_cell_row rfl _ _ g1 24 #[.int .i64 a0, .int .i64 a0, .int .i64 0, .int .i64 a0] (0, 0) _ rfl (by refine pf ?_; refine blk_put (cs := #[.int .i64 a0, .int .i64 a0, .int .i64 0, .int .i64 0]) ?_ 3 _ rfl; refine pf ?_; refine blk_put (cs := #[.int .i64 a0, .int .i64 a0, .int .i64 0, .int .i64 0]) ?_ 2 _ rfl; refine pf ?_; refine blk_put (cs := #[.int .i64 a0, .int .i64 0, .int .i64 0, .int .i64 0]) ?_ 1 _ rfl; refine pf ?_; refine blk_put (cs := #[.int .i64 0, .int .i64 0, .int .i64 0, .int .i64 0]) ?_ 0 _ rfl; exact Z K1) Try.underlying24 rfl (by kernel_rfl)) rfl ?_
 exact ⟨ez, YA HB⟩

def spec_l1Mod.f (a0 : Int) (a1 : Int) : Option (Int) := if a1 = 0 then (none) else (if (Int.tmod a0 a1) < 0 then (some (wrap64 ((Int.tmod a0 a1) + a1))) else (some (Int.tmod a0 a1)))
set_option maxHeartbeats 8000000 in
set_option maxRecDepth 100000 in
theorem spec_l1Mod.calls (a0 : Int) (a1 : Int) (r : Int) (w : World) (h : spec_l1Mod.f a0 a1 = some r) :
  Calls Try.prog 34 #[.int .i64 a0, .int .i64 a1] w fun e w' => e = .returned (.int .i64 r) ∧ Drawn0 w w' := by
 have H : (if a1 = 0 then (none) else (if (Int.tmod a0 a1) < 0 then (some (wrap64 ((Int.tmod a0 a1) + a1))) else (some (Int.tmod a0 a1)))) = some r := h
 clear h
 by_cases c1 : a1 = 0
 ·rw [if_pos c1] at H
  exact absurd H (by simp)
 rw [if_neg c1] at H
 have d1 := eF c1
 have d2 := nT c1
 by_cases c2 : (Int.tmod a0 a1) < 0
 ·rw [if_pos c2] at H
  have d3 := dT c2
  clear c2
  obtain rfl := Option.some.inj H
  go_enter Try.func34, Try.ntmps34
  go_wp2
  go_ret
  exact ⟨by first | rfl | (simp; done) | (simp [*]; done), by repeat (first | exact Drawn0.refl _ | apply Drawn0.step)⟩
 rw [if_neg c2] at H
 have d3 := dF c2
 clear c2
 obtain rfl := Option.some.inj H
 go_enter Try.func34, Try.ntmps34
 go_wp2
 go_ret
 exact ⟨by first | rfl | (simp; done) | (simp [*]; done), by repeat (first | exact Drawn0.refl _ | apply Drawn0.step)⟩
end
section
attribute [local go_sem] max2_int min2_int max_two min_two max_three min_three max_four min_four
attribute [local go_sem high] eqA33
attribute [local go_sem] Go.Proofs.YtdmadlfdibiejaaSet.isSome_setCell
def spec_ValMake.j0 : Nat → Bool → Int → Int → Int → Int → Option (Int × Int × Int × Int)
 | 0, _, _, _, _, _ => none
 | k + 1, x1, x2, x3, x4, x5 => if x1 = true then ((spec_l10None.f).bind fun u1 => (some (u1.1, u1.2.1, u1.2.2.1, u1.2.2.2))) else (if x4 = 0 then ((spec_RangeHas.f x2 x3 x5).bind fun t1 => (if t1 = true then ((spec_l10One.f x5).bind fun u2 => (some (u2.1, u2.2.1, u2.2.2.1, u2.2.2.2))) else ((spec_l10None.f).bind fun u3 => (some (u3.1, u3.2.1, u3.2.2.1, u3.2.2.2))))) else ((spec_l1Mod.f (wrap64 (x5 - x2)) x4).bind fun t2 => ((spec_l1Mod.f (wrap64 (x3 - x5)) x4).bind fun t3 => (if (wrap64 (x2 + t2)) > (wrap64 (x3 - t3)) then ((spec_l10None.f).bind fun u4 => (some (u4.1, u4.2.1, u4.2.2.1, u4.2.2.2))) else (if (wrap64 (x2 + t2)) = (wrap64 (x3 - t3)) then ((spec_l10One.f (wrap64 (x2 + t2))).bind fun u5 => (some (u5.1, u5.2.1, u5.2.2.1, u5.2.2.2))) else (some (wrap64 (x2 + t2), wrap64 (x3 - t3), x4, x5)))))))
def spec_ValMake.f (k : Nat) (a0_0 : Int) (a0_1 : Int) (a1_0 : Int) (a1_1 : Int) : Option (Int × Int × Int × Int) := (spec_RangeOk.f a0_0 a0_1).bind fun t1 => (if t1 = true then ((spec_RestOk.f a1_0 a1_1).bind fun t2 => (if t2 = true then ((spec_l8None.f).bind fun u1 => (spec_ValMake.j0 k (a0_0 == u1.1 && (a0_1 == u1.2)) a0_0 a0_1 a1_0 a1_1)) else (spec_ValMake.j0 k true a0_0 a0_1 a1_0 a1_1))) else (spec_ValMake.j0 k true a0_0 a0_1 a1_0 a1_1))
theorem spec_ValMake.mono_l : ∀ k, (∀ y0 y1 y2 y3 y4, LeO (spec_ValMake.j0 k y0 y1 y2 y3 y4) (spec_ValMake.j0 (k + 1) y0 y1 y2 y3 y4))
 | 0 => fun _ _ _ _ _ r h => by simp [spec_ValMake.j0] at h
 | k + 1 => by
  have ih0 := spec_ValMake.mono_l k
  ·intro y0 y1 y2 y3 y4
   unfold spec_ValMake.j0
   repeat' first | (with_reducible first | apply ih0 | apply LeO.refl | apply LeO.none | refine LeO.ite ?_ ?_ | refine LeO.bind ?_ (fun _ => ?_)) | apply ih0 | apply LeO.none | refine LeO.ite ?_ ?_ | refine LeO.bind ?_ (fun _ => ?_)
theorem spec_ValMake.mono : ∀ a0 a1 a2 a3 k, LeO (spec_ValMake.f k a0 a1 a2 a3) (spec_ValMake.f (k + 1) a0 a1 a2 a3) := by
 intro a0 a1 a2 a3 k
 have ih0 := spec_ValMake.mono_l k
 unfold spec_ValMake.f
 repeat' first | (with_reducible first | apply ih0 | apply LeO.refl | apply LeO.none | refine LeO.ite ?_ ?_ | refine LeO.bind ?_ (fun _ => ?_)) | apply ih0 | apply LeO.none | refine LeO.ite ?_ ?_ | refine LeO.bind ?_ (fun _ => ?_)
def spec_ValMake.T1 : Bool × List (List Nat × List Nat) := (true, [([], []), ([0], [0]), ([1], [1]), ([2, 1], [2]), ([3], [3]), ([4, 3, 3], [3, 4]), ([5, 3], [3, 5]), ([3, 6], [3, 6]), ([7, 5], [7]), ([8], [8]), ([8, 8], [8]), ([9, 10, 8], [8, 9, 10]), ([8, 11], [8, 11])])
def spec_ValMake.B1 : List Nat := [0, 1, 3, 7, 15, 31, 63, 127, 255, 511, 511, 2047, 4095]
theorem spec_ValMake.tab1 : rtab .any (opsOf Try.f12 1) = spec_ValMake.T1 := by kernel_rfl
theorem spec_ValMake.bits1 : waitsOk spec_ValMake.T1.2 spec_ValMake.B1 = true := by kernel_rfl
def spec_ValMake.T7 : Bool × List (List Nat × List Nat) := (true, [([], []), ([0], [0]), ([], []), ([2], [2]), ([], []), ([4], [4]), ([3, 5], [3, 5]), ([], []), ([7], [7]), ([6, 8], [6, 8]), ([1, 9], [1, 9]), ([10, 9, 0, 1, 2, 3, 4, 5, 6, 7, 8, 9, 10], [10])])
def spec_ValMake.B7 : List Nat := [0, 1, 0, 4, 0, 16, 60, 0, 128, 508, 1023, 2047]
theorem spec_ValMake.tab7 : rtab .any (opsOf Try.f12 7) = spec_ValMake.T7 := by kernel_rfl
theorem spec_ValMake.bits7 : waitsOk spec_ValMake.T7.2 spec_ValMake.B7 = true := by kernel_rfl
def spec_ValMake.T8 : Bool × List (List Nat × List Nat) := (true, [([], []), ([0], [0]), ([], []), ([2], [2]), ([], []), ([4], [4]), ([3, 5], [3, 5]), ([], []), ([7], [7]), ([6, 8], [6, 8]), ([1, 9], [1, 9]), ([10, 9, 0, 1, 2, 3, 4, 5, 6, 7, 8, 9, 10], [10])])
def spec_ValMake.B8 : List Nat := [0, 1, 0, 4, 0, 16, 60, 0, 128, 508, 1023, 2047]
theorem spec_ValMake.tab8 : rtab .any (opsOf Try.f12 8) = spec_ValMake.T8 := by kernel_rfl
theorem spec_ValMake.bits8 : waitsOk spec_ValMake.T8.2 spec_ValMake.B8 = true := by kernel_rfl
set_option maxHeartbeats 8000000 in
set_option maxRecDepth 100000 in
theorem spec_ValMake.calls (k : Nat) (a0_0 : Int) (a0_1 : Int) (a1_0 : Int) (a1_1 : Int) (r1 : Int) (r2 : Int) (r3 : Int) (r4 : Int) (w : World) (h : spec_ValMake.f k a0_0 a0_1 a1_0 a1_1 = some (r1, r2, r3, r4)) :
  Calls Try.prog 12 #[.agg #[.int .i64 a0_0, .int .i64 a0_1], .agg #[.int .i64 a1_0, .int .i64 a1_1]] w fun e w' => e = .returned (.agg #[.int .i64 r1, .int .i64 r2, .int .i64 r3, .int .i64 r4]) ∧ Below w.heap.size w w' := by
 have hu33 := Try.underlying33
 have hu39 := Try.underlying39
 have hu24 := Try.underlying24
 have HB := am (Below.refl w.heap.size w)
 have H : ((spec_RangeOk.f a0_0 a0_1).bind fun t1 => (if t1 = true then ((spec_RestOk.f a1_0 a1_1).bind fun t2 => (if t2 = true then ((spec_l8None.f).bind fun u1 => (spec_ValMake.j0 k (a0_0 == u1.1 && (a0_1 == u1.2)) a0_0 a0_1 a1_0 a1_1)) else (spec_ValMake.j0 k true a0_0 a0_1 a1_0 a1_1))) else (spec_ValMake.j0 k true a0_0 a0_1 a1_0 a1_1))) = some (r1, r2, r3, r4) := h
 clear h
 have C1 := am H
 clear H
 go_enter Try.func12, Try.ntmps12
 go_upto_region 1 with (first | ((with_reducible refine gate_dst (N := 2) rfl ?_); refine bxn 2 #[.int .i64 a0_0, .int .i64 a0_1] 33 HB fun g1 w1 K1 G1 hg hb => ?_; replace HB := am (below_step (YA HB) hb); clear hb hg) | ((with_reducible refine gate_dst (N := 3) rfl ?_); refine bxn 3 #[.int .i64 a1_0, .int .i64 a1_1] 39 HB fun g2 w2 K2 G2 hg hb => ?_; obtain ⟨N1,N2⟩ := ne_ hg K1; obtain ⟨K1, HB⟩ := bk1 K1 HB hb; clear hb hg) | ((with_reducible refine gate_dst (N := 4) rfl ?_); refine bxn 4 #[.int .i64 0, .int .i64 0, .int .i64 0, .int .i64 0] 24 HB fun g3 w3 K3 G3 hg hb => ?_; obtain ⟨N3,N4⟩ := ne_ hg K1; obtain ⟨N5,N6⟩ := ne_ hg K2; obtain ⟨K1, K2, HB⟩ := bk2 K1 K2 HB hb; clear hb hg))
 (try simp only [Act.put, List.setIfInBounds_toArray, List.set_cons_zero, List.set_cons_succ])
 go_cut [19] (fun v1 wc => ∃ (kq : Nat) (x1 : Bool), v1 = .bool x1 ∧ Aside0 (spec_ValMake.j0 kq x1 a0_0 a0_1 a1_0 a1_1 = some (r1, r2, r3, r4)) ∧ Aside0 (kq ≤ k) ∧ Bx2 wc g1 a0_0 a0_1 33 ∧ Bx2 wc g2 a1_0 a1_1 39 ∧ Bx4 wc g3 0 0 0 0 24 ∧ Aside0 (Below w.heap.size w wc))
 case first =>
  have H := C1.out
  clear C1
  obtain ⟨t1, A1, H⟩ := bd H
  try dsimp only at H
  by_cases c1 : t1 = true
  rotate_left
  ·replace c1 := Bool.eq_false_iff.mpr c1
   subst c1
   rw [if_neg ff] at H
   have H' := am H
   clear H
   try go_wp2
   obtain ⟨K1, K2, K3, HB⟩ := dk3 K1 K2 K3 HB
   refine start_ (n := 13) (S := fun w' => ce2 w' g1 a0_0 a0_1) (ds := []) (lb 13 0) (by kernel_rfl) rfl rfl (cc2 K1) (fun hHeld => ?_); refine with_tabW spec_ValMake.tab1 spec_ValMake.bits1 (fun HT_ HW_ => ?_)
   generalize w3.drew = w4 at K1 K2 K3 HB hHeld ⊢
   refine tk 0 7 1 hHeld ?_
   refine cl3 1 8 3 Try.func23 (spec_RangeOk.calls _ _ _ _ A1.out) K1 K2 K3 HB fun w5 K1 K2 K3 HB hHeld => ?_
   refine pk 2 9 7 ?_
   refine pk 3 10 15 ?_
   refine uk 4 11 31 ?_
   refine uk 5 12 63 ?_
   refine uk 6 13 127 ?_
   refine pk 7 14 255 ?_
   refine pk 8 15 511 ?_
   refine uk 9 16 1023 ?_
   refine uk 10 17 2047 ?_
   refine uk 11 18 4095 ?_
   refine pk 12 19 8191 ?_
   refine done_ (done_of HT_.out (by kernel_rfl)) ?_
   try go_wp2
   go_meet
   case rel => exact ⟨_, (true), ey, H', le0, ⟨Z K1⟩, ⟨Z K2⟩, ⟨Z K3⟩, ⟨YA HB⟩⟩
  subst c1
  rw [if_pos rfl] at H
  obtain ⟨t2, A2, H⟩ := bd H
  try dsimp only at H
  by_cases c2 : t2 = true
  rotate_left
  ·replace c2 := Bool.eq_false_iff.mpr c2
   subst c2
   rw [if_neg ff] at H
   have H' := am H
   clear H
   try go_wp2
   obtain ⟨K1, K2, K3, HB⟩ := dk3 K1 K2 K3 HB
   refine start_ (n := 13) (S := fun w' => ce2 w' g1 a0_0 a0_1 ∧ ce2 w' g2 a1_0 a1_1) (ds := []) (lb 13 0) (by kernel_rfl) rfl rfl ⟨cc2 K1, cc2 K2⟩ (fun hHeld => ?_); refine with_tabW spec_ValMake.tab1 spec_ValMake.bits1 (fun HT_ HW_ => ?_)
   generalize w3.drew = w4 at K1 K2 K3 HB hHeld ⊢
   refine tk 0 7 1 hHeld ?_
   refine cl3 1 8 3 Try.func23 (spec_RangeOk.calls _ _ _ _ A1.out) K1 K2 K3 HB fun w5 K1 K2 K3 HB hHeld => ?_
   refine pk 2 9 7 ?_
   refine pk 3 10 15 ?_
   refine tk 4 11 31 hHeld ?_
   refine cl3 5 12 63 Try.func24 (spec_RestOk.calls _ _ _ _ A2.out) K1 K2 K3 HB fun w6 K1 K2 K3 HB hHeld => ?_
   refine pk 6 13 127 ?_
   refine pk 7 14 255 ?_
   refine pk 8 15 511 ?_
   refine uk 9 16 1023 ?_
   refine uk 10 17 2047 ?_
   refine uk 11 18 4095 ?_
   refine pk 12 19 8191 ?_
   refine done_ (done_of HT_.out (by kernel_rfl)) ?_
   try go_wp2
   go_meet
   case rel => exact ⟨_, (true), ey, H', le0, ⟨Z K1⟩, ⟨Z K2⟩, ⟨Z K3⟩, ⟨YA HB⟩⟩
  subst c2
  rw [if_pos rfl] at H
  obtain ⟨⟨t3, t4⟩, A3, H⟩ := bd H
  try dsimp only at H
  have H' := am H
  clear H
  try go_wp2
  obtain ⟨K1, K2, K3, HB⟩ := dk3 K1 K2 K3 HB
  refine start_ (n := 13) (S := fun w' => ce2 w' g1 a0_0 a0_1 ∧ ce2 w' g2 a1_0 a1_1) (ds := []) (lb 13 0) (by kernel_rfl) rfl rfl ⟨cc2 K1, cc2 K2⟩ (fun hHeld => ?_); refine with_tabW spec_ValMake.tab1 spec_ValMake.bits1 (fun HT_ HW_ => ?_)
  generalize w3.drew = w4 at K1 K2 K3 HB hHeld ⊢
  refine tk 0 7 1 hHeld ?_
  refine cl3 1 8 3 Try.func23 (spec_RangeOk.calls _ _ _ _ A1.out) K1 K2 K3 HB fun w5 K1 K2 K3 HB hHeld => ?_
  refine pk 2 9 7 ?_
  refine pk 3 10 15 ?_
  refine tk 4 11 31 hHeld ?_
  refine cl3 5 12 63 Try.func24 (spec_RestOk.calls _ _ _ _ A2.out) K1 K2 K3 HB fun w6 K1 K2 K3 HB hHeld => ?_
  refine pk 6 13 127 ?_
  refine pk 7 14 255 ?_
  refine pk 8 15 511 ?_
  refine tk 9 16 1023 hHeld ?_
  refine cl3 10 17 2047 Try.func25 (spec_l8None.calls _ _ _ A3.out) K1 K2 K3 HB fun w7 K1 K2 K3 HB hHeld => ?_
  refine pk 11 18 4095 ?_
  refine pk 12 19 8191 ?_
  refine done_ (done_of HT_.out (by kernel_rfl)) ?_
  try go_wp2
  go_meet
  case rel => exact ⟨_, ((a0_0 == t3 && (a0_1 == t4))), ey, H', le0, ⟨Z K1⟩, ⟨Z K2⟩, ⟨Z K3⟩, ⟨YA HB⟩⟩
 case rest =>
  clear C1
  obtain ⟨kq, x1, rfl, HA, J1, K1, K2, K3, HB⟩ := hcut
  cases kq with
  | zero => exact absurd HA.out (by simp [spec_ValMake.j0])
  | succ k1 =>
   have H := HA.out
   clear HA
   simp only [spec_ValMake.j0] at H
   by_cases c1 : x1 = true
   ·subst c1
    rw [if_pos rfl] at H
    obtain ⟨⟨t3, t4, t5, t6⟩, A1, H⟩ := bd H
    try dsimp only at H
    simp only [Option.some.injEq, Prod.mk.injEq] at H
    obtain ⟨rfl, rfl, rfl, rfl⟩ := H
    go_wp2_with (first | ((with_reducible refine gate_callee (f := 9) rfl ?_); refine gL 20 Try.func9 (spec_l10None.calls _ _ _ _ _ A1.out) fun w4 hb => ?_; obtain ⟨K1, K2, K3, HB⟩ := bk3 K1 K2 K3 HB hb; (try clear hb); have z_ := ns2 N4 N6; have z_ := cB4 K3))
    refine bodyPost_ret (results_cell_row rfl _ _ g3 24 #[.int .i64 t3, .int .i64 t4, .int .i64 t5, .int .i64 t6] (0, 0) _ rfl (by refine pf ?_; refine blk_put (cs := #[.int .i64 t3, .int .i64 t4, .int .i64 t5, .int .i64 0]) ?_ 3 _ rfl; refine pf ?_; refine blk_put (cs := #[.int .i64 t3, .int .i64 t4, .int .i64 0, .int .i64 0]) ?_ 2 _ rfl; refine pf ?_; refine blk_put (cs := #[.int .i64 t3, .int .i64 0, .int .i64 0, .int .i64 0]) ?_ 1 _ rfl; refine pf ?_; refine blk_put (cs := #[.int .i64 0, .int .i64 0, .int .i64 0, .int .i64 0]) ?_ 0 _ rfl; exact Z K3) Try.underlying24 rfl (by kernel_rfl)) rfl ?_
    exact ⟨ez, YA HB⟩
   replace c1 := Bool.eq_false_iff.mpr c1
   subst c1
   rw [if_neg ff] at H
   by_cases c2 : a1_0 = 0
   ·rw [if_pos c2] at H
    have d1 := eT c2
    have d2 := nF c2
    clear c2
    obtain ⟨t3, A1, H⟩ := bd H
    try dsimp only at H
    by_cases c3 : t3 = true
    rotate_left
    ·replace c3 := Bool.eq_false_iff.mpr c3
     subst c3
     rw [if_neg ff] at H
     obtain ⟨⟨t4, t5, t6, t7⟩, A2, H⟩ := bd H
     try dsimp only at H
     simp only [Option.some.injEq, Prod.mk.injEq] at H
     obtain ⟨rfl, rfl, rfl, rfl⟩ := H
     have z_ := ns3 N2 N5 N3
     have z_ := cB2 K2
     have z_ := cB2 K1
     go_wp2_with (first | ((with_reducible refine gate_callee (f := 32) rfl ?_); refine gL 27 Try.func32 (spec_RangeHas.calls _ _ _ _ _ A1.out) fun w4 hb => ?_; obtain ⟨K1, K2, K3, HB⟩ := bk3 K1 K2 K3 HB hb; (try clear hb)) | ((with_reducible refine gate_callee (f := 9) rfl ?_); refine gL 31 Try.func9 (spec_l10None.calls _ _ _ _ _ A2.out) fun w5 hb => ?_; obtain ⟨K1, K2, K3, HB⟩ := bk3 K1 K2 K3 HB hb; (try clear hb); have z_ := cB4 K3))
     refine bodyPost_ret (results_cell_row rfl _ _ g3 24 #[.int .i64 t4, .int .i64 t5, .int .i64 t6, .int .i64 t7] (0, 0) _ rfl (by refine pf ?_; refine blk_put (cs := #[.int .i64 t4, .int .i64 t5, .int .i64 t6, .int .i64 0]) ?_ 3 _ rfl; refine pf ?_; refine blk_put (cs := #[.int .i64 t4, .int .i64 t5, .int .i64 0, .int .i64 0]) ?_ 2 _ rfl; refine pf ?_; refine blk_put (cs := #[.int .i64 t4, .int .i64 0, .int .i64 0, .int .i64 0]) ?_ 1 _ rfl; refine pf ?_; refine blk_put (cs := #[.int .i64 0, .int .i64 0, .int .i64 0, .int .i64 0]) ?_ 0 _ rfl; exact Z K3) Try.underlying24 rfl (by kernel_rfl)) rfl ?_
     exact ⟨ez, YA HB⟩
    subst c3
    rw [if_pos rfl] at H
    obtain ⟨⟨t4, t5, t6, t7⟩, A2, H⟩ := bd H
    try dsimp only at H
    simp only [Option.some.injEq, Prod.mk.injEq] at H
    obtain ⟨rfl, rfl, rfl, rfl⟩ := H
    have z_ := ns3 N2 N5 N3
    have z_ := cB2 K2
    have z_ := cB2 K1
    go_wp2_with (first | ((with_reducible refine gate_callee (f := 32) rfl ?_); refine gL 27 Try.func32 (spec_RangeHas.calls _ _ _ _ _ A1.out) fun w4 hb => ?_; obtain ⟨K1, K2, K3, HB⟩ := bk3 K1 K2 K3 HB hb; (try clear hb); have z_ := cB2 K2) | ((with_reducible refine gate_callee (f := 33) rfl ?_); refine gL 30 Try.func33 (spec_l10One.calls _ _ _ _ _ _ A2.out) fun w5 hb => ?_; obtain ⟨K1, K2, K3, HB⟩ := bk3 K1 K2 K3 HB hb; (try clear hb); have z_ := cB4 K3))
    refine bodyPost_ret (results_cell_row rfl _ _ g3 24 #[.int .i64 t4, .int .i64 t5, .int .i64 t6, .int .i64 t7] (0, 0) _ rfl (by refine pf ?_; refine blk_put (cs := #[.int .i64 t4, .int .i64 t5, .int .i64 t6, .int .i64 0]) ?_ 3 _ rfl; refine pf ?_; refine blk_put (cs := #[.int .i64 t4, .int .i64 t5, .int .i64 0, .int .i64 0]) ?_ 2 _ rfl; refine pf ?_; refine blk_put (cs := #[.int .i64 t4, .int .i64 0, .int .i64 0, .int .i64 0]) ?_ 1 _ rfl; refine pf ?_; refine blk_put (cs := #[.int .i64 0, .int .i64 0, .int .i64 0, .int .i64 0]) ?_ 0 _ rfl; exact Z K3) Try.underlying24 rfl (by kernel_rfl)) rfl ?_
    exact ⟨ez, YA HB⟩
   rw [if_neg c2] at H
   have d1 := eF c2
   have d2 := nT c2
   obtain ⟨t3, A1, H⟩ := bd H
   try dsimp only at H
   obtain ⟨t4, A2, H⟩ := bd H
   try dsimp only at H
   by_cases c3 : (wrap64 (a0_0 + t3)) > (wrap64 (a0_1 - t4))
   ·rw [if_pos c3] at H
    have d3 := dT c3
    clear c3
    obtain ⟨⟨t5, t6, t7, t8⟩, A3, H⟩ := bd H
    try dsimp only at H
    simp only [Option.some.injEq, Prod.mk.injEq] at H
    obtain ⟨rfl, rfl, rfl, rfl⟩ := H
    have z_ := ns2 N2 N5
    have z_ := cB2 K2
    try go_wp2
    obtain ⟨K1, K2, K3, HB⟩ := dk3 K1 K2 K3 HB
    refine start_ (n := 12) (S := fun w' => ce2 w' g1 a0_0 a0_1 ∧ ce2 w' g2 a1_0 a1_1) (ds := []) (lb 12 0) (by kernel_rfl) rfl rfl ⟨cc2 K1, cc2 K2⟩ (fun hHeld => ?_); refine with_tabW spec_ValMake.tab7 spec_ValMake.bits7 (fun HT_ HW_ => ?_)
    generalize wc.drew = w4 at K1 K2 K3 HB hHeld ⊢
    refine pk 0 32 1 ?_
    refine pk 2 34 5 ?_
    refine pk 4 36 21 ?_
    refine pk 7 39 149 ?_
    refine tk 1 33 151 hHeld ?_
    refine tk 3 35 159 hHeld ?_
    refine tk 5 37 191 hHeld ?_
    refine pk 6 38 255 ?_
    refine tk 8 40 511 hHeld ?_
    refine on 9 (some 41) 1023 fun K hK => ?_
    refine goes_ Try.func34 (by kernel_rfl) rfl #[.int .i64 (wrap64 (a1_1 - a0_0)), .int .i64 a1_0] (by rfl) rfl rfl mz ?_
    with_reducible refine (spec_l1Mod.calls _ _ _ _ A1.out).mono ?_
    rintro e w' ⟨rfl, ⟨nd, rfl⟩⟩
    refine ⟨_, rfl, ?_⟩
    refine kk hK ⟨cc2 K1, cc2 K2⟩ fun hHeld => ?_
    clear hK K
    refine pk 10 42 2047 ?_
    refine pk 11 5 4095 ?_
    refine done_ (done_of HT_.out (by kernel_rfl)) ?_
    try go_wp2
    (try (rw [drewN_self w4]; generalize hq_ : World.drewN w4 _ = w4; replace K1 : Bx2 w4 g1 a0_0 a0_1 33 := ⟨by rw [← hq_]; exact (Z K1)⟩; replace K2 : Bx2 w4 g2 a1_0 a1_1 39 := ⟨by rw [← hq_]; exact (Z K2)⟩; replace K3 : Bx4 w4 g3 0 0 0 0 24 := ⟨by rw [← hq_]; exact (Z K3)⟩; replace HB : Aside0 (Below w.heap.size w w4) := ⟨by rw [← hq_]; exact (YA HB)⟩; clear hq_))
    obtain ⟨K1, K2, K3, HB⟩ := dk3 K1 K2 K3 HB
    refine start_ (n := 12) (S := fun w' => ce2 w' g1 a0_0 a0_1 ∧ ce2 w' g2 a1_0 a1_1) (ds := []) (lb 12 0) (by kernel_rfl) rfl rfl ⟨cc2 K1, cc2 K2⟩ (fun hHeld => ?_); refine with_tabW spec_ValMake.tab8 spec_ValMake.bits8 (fun HT_ HW_ => ?_)
    generalize w4.drew = w5 at K1 K2 K3 HB hHeld ⊢
    refine pk 0 43 1 ?_
    refine pk 2 45 5 ?_
    refine pk 4 47 21 ?_
    refine pk 7 50 149 ?_
    refine tk 1 44 151 hHeld ?_
    refine tk 3 46 159 hHeld ?_
    refine tk 5 48 191 hHeld ?_
    refine pk 6 49 255 ?_
    refine tk 8 51 511 hHeld ?_
    refine on 9 (some 52) 1023 fun K hK => ?_
    refine goes_ Try.func34 (by kernel_rfl) rfl #[.int .i64 (wrap64 (a0_1 - a1_1)), .int .i64 a1_0] (by rfl) rfl rfl mz ?_
    with_reducible refine (spec_l1Mod.calls _ _ _ _ A2.out).mono ?_
    rintro e w' ⟨rfl, ⟨nd, rfl⟩⟩
    refine ⟨_, rfl, ?_⟩
    refine kk hK ⟨cc2 K1, cc2 K2⟩ fun hHeld => ?_
    clear hK K
    refine pk 10 53 2047 ?_
    refine pk 11 6 4095 ?_
    refine done_ (done_of HT_.out (by kernel_rfl)) ?_
    try go_wp2_with (first | ((with_reducible refine gate_callee (f := 9) rfl ?_); refine gL 57 Try.func9 (spec_l10None.calls _ _ _ _ _ A3.out) fun w6 hb => ?_; obtain ⟨K1, K2, K3, HB⟩ := bk3 K1 K2 K3 HB hb; (try clear hb); have z_ := ns1 N4; have z_ := cB4 K3))
    refine bodyPost_ret (results_cell_row rfl _ _ g3 24 #[.int .i64 t5, .int .i64 t6, .int .i64 t7, .int .i64 t8] (0, 0) _ rfl (by refine pf ?_; refine blk_put (cs := #[.int .i64 t5, .int .i64 t6, .int .i64 t7, .int .i64 0]) ?_ 3 _ rfl; refine pf ?_; refine blk_put (cs := #[.int .i64 t5, .int .i64 t6, .int .i64 0, .int .i64 0]) ?_ 2 _ rfl; refine pf ?_; refine blk_put (cs := #[.int .i64 t5, .int .i64 0, .int .i64 0, .int .i64 0]) ?_ 1 _ rfl; refine pf ?_; refine blk_put (cs := #[.int .i64 0, .int .i64 0, .int .i64 0, .int .i64 0]) ?_ 0 _ rfl; exact Z K3) Try.underlying24 rfl (by kernel_rfl)) rfl ?_
    exact ⟨ez, YA HB⟩
   rw [if_neg c3] at H
   have d3 := dF c3
   clear c3
   by_cases c4 : (wrap64 (a0_0 + t3)) = (wrap64 (a0_1 - t4))
   rotate_left
   ·rw [if_neg c4] at H
    have d4 := eF c4
    have d5 := nT c4
    simp only [Option.some.injEq, Prod.mk.injEq] at H
    obtain ⟨rfl, rfl, rfl, rfl⟩ := H
    have z_ := ns2 N2 N5
    have z_ := cB2 K2
    try go_wp2
    obtain ⟨K1, K2, K3, HB⟩ := dk3 K1 K2 K3 HB
    refine start_ (n := 12) (S := fun w' => ce2 w' g1 a0_0 a0_1 ∧ ce2 w' g2 a1_0 a1_1) (ds := []) (lb 12 0) (by kernel_rfl) rfl rfl ⟨cc2 K1, cc2 K2⟩ (fun hHeld => ?_); refine with_tabW spec_ValMake.tab7 spec_ValMake.bits7 (fun HT_ HW_ => ?_)
    generalize wc.drew = w4 at K1 K2 K3 HB hHeld ⊢
    refine pk 0 32 1 ?_
    refine pk 2 34 5 ?_
    refine pk 4 36 21 ?_
    refine pk 7 39 149 ?_
    refine tk 1 33 151 hHeld ?_
    refine tk 3 35 159 hHeld ?_
    refine tk 5 37 191 hHeld ?_
    refine pk 6 38 255 ?_
    refine tk 8 40 511 hHeld ?_
    refine on 9 (some 41) 1023 fun K hK => ?_
    refine goes_ Try.func34 (by kernel_rfl) rfl #[.int .i64 (wrap64 (a1_1 - a0_0)), .int .i64 a1_0] (by rfl) rfl rfl mz ?_
    with_reducible refine (spec_l1Mod.calls _ _ _ _ A1.out).mono ?_
    rintro e w' ⟨rfl, ⟨nd, rfl⟩⟩
    refine ⟨_, rfl, ?_⟩
    refine kk hK ⟨cc2 K1, cc2 K2⟩ fun hHeld => ?_
    clear hK K
    refine pk 10 42 2047 ?_
    refine pk 11 5 4095 ?_
    refine done_ (done_of HT_.out (by kernel_rfl)) ?_
    try go_wp2
    (try (rw [drewN_self w4]; generalize hq_ : World.drewN w4 _ = w4; replace K1 : Bx2 w4 g1 a0_0 a0_1 33 := ⟨by rw [← hq_]; exact (Z K1)⟩; replace K2 : Bx2 w4 g2 a1_0 a1_1 39 := ⟨by rw [← hq_]; exact (Z K2)⟩; replace K3 : Bx4 w4 g3 0 0 0 0 24 := ⟨by rw [← hq_]; exact (Z K3)⟩; replace HB : Aside0 (Below w.heap.size w w4) := ⟨by rw [← hq_]; exact (YA HB)⟩; clear hq_))
    obtain ⟨K1, K2, K3, HB⟩ := dk3 K1 K2 K3 HB
    refine start_ (n := 12) (S := fun w' => ce2 w' g1 a0_0 a0_1 ∧ ce2 w' g2 a1_0 a1_1) (ds := []) (lb 12 0) (by kernel_rfl) rfl rfl ⟨cc2 K1, cc2 K2⟩ (fun hHeld => ?_); refine with_tabW spec_ValMake.tab8 spec_ValMake.bits8 (fun HT_ HW_ => ?_)
    generalize w4.drew = w5 at K1 K2 K3 HB hHeld ⊢
    refine pk 0 43 1 ?_
    refine pk 2 45 5 ?_
    refine pk 4 47 21 ?_
    refine pk 7 50 149 ?_
    refine tk 1 44 151 hHeld ?_
    refine tk 3 46 159 hHeld ?_
    refine tk 5 48 191 hHeld ?_
    refine pk 6 49 255 ?_
    refine tk 8 51 511 hHeld ?_
    refine on 9 (some 52) 1023 fun K hK => ?_
    refine goes_ Try.func34 (by kernel_rfl) rfl #[.int .i64 (wrap64 (a0_1 - a1_1)), .int .i64 a1_0] (by rfl) rfl rfl mz ?_
    with_reducible refine (spec_l1Mod.calls _ _ _ _ A2.out).mono ?_
    rintro e w' ⟨rfl, ⟨nd, rfl⟩⟩
    refine ⟨_, rfl, ?_⟩
    refine kk hK ⟨cc2 K1, cc2 K2⟩ fun hHeld => ?_
    clear hK K
    refine pk 10 53 2047 ?_
    refine pk 11 6 4095 ?_
    refine done_ (done_of HT_.out (by kernel_rfl)) ?_
    have z_ := ns1 N4
    have z_ := cB2 K2
    have z_ := cB4 K3
    try go_wp2
    refine bodyPost_ret (results_cell_row rfl _ _ g3 24 #[.int .i64 (wrap64 (a0_0 + t3)), .int .i64 (wrap64 (a0_1 - t4)), .int .i64 a1_0, .int .i64 a1_1] (0, 0) _ rfl (by refine pf ?_; refine blk_put (cs := #[.int .i64 (wrap64 (a0_0 + t3)), .int .i64 (wrap64 (a0_1 - t4)), .int .i64 a1_0, .int .i64 0]) ?_ 3 _ rfl; refine pf ?_; refine blk_put (cs := #[.int .i64 (wrap64 (a0_0 + t3)), .int .i64 (wrap64 (a0_1 - t4)), .int .i64 0, .int .i64 0]) ?_ 2 _ rfl; refine pf ?_; refine blk_put (cs := #[.int .i64 (wrap64 (a0_0 + t3)), .int .i64 0, .int .i64 0, .int .i64 0]) ?_ 1 _ rfl; refine pf ?_; refine blk_put (cs := #[.int .i64 0, .int .i64 0, .int .i64 0, .int .i64 0]) ?_ 0 _ rfl; exact Z K3) Try.underlying24 rfl (by kernel_rfl)) rfl ?_
    exact ⟨ez, YA HB⟩
   rw [if_pos c4] at H
   have d4 := eT c4
   have d5 := nF c4
   clear c4
   obtain ⟨⟨t5, t6, t7, t8⟩, A3, H⟩ := bd H
   try dsimp only at H
   simp only [Option.some.injEq, Prod.mk.injEq] at H
   obtain ⟨rfl, rfl, rfl, rfl⟩ := H
   have z_ := ns2 N2 N5
   have z_ := cB2 K2
   try go_wp2
   obtain ⟨K1, K2, K3, HB⟩ := dk3 K1 K2 K3 HB
   refine start_ (n := 12) (S := fun w' => ce2 w' g1 a0_0 a0_1 ∧ ce2 w' g2 a1_0 a1_1) (ds := []) (lb 12 0) (by kernel_rfl) rfl rfl ⟨cc2 K1, cc2 K2⟩ (fun hHeld => ?_); refine with_tabW spec_ValMake.tab7 spec_ValMake.bits7 (fun HT_ HW_ => ?_)
   generalize wc.drew = w4 at K1 K2 K3 HB hHeld ⊢
   refine pk 0 32 1 ?_
   refine pk 2 34 5 ?_
   refine pk 4 36 21 ?_
   refine pk 7 39 149 ?_
   refine tk 1 33 151 hHeld ?_
   refine tk 3 35 159 hHeld ?_
   refine tk 5 37 191 hHeld ?_
   refine pk 6 38 255 ?_
   refine tk 8 40 511 hHeld ?_
   refine on 9 (some 41) 1023 fun K hK => ?_
   refine goes_ Try.func34 (by kernel_rfl) rfl #[.int .i64 (wrap64 (a1_1 - a0_0)), .int .i64 a1_0] (by rfl) rfl rfl mz ?_
   with_reducible refine (spec_l1Mod.calls _ _ _ _ A1.out).mono ?_
   rintro e w' ⟨rfl, ⟨nd, rfl⟩⟩
   refine ⟨_, rfl, ?_⟩
   refine kk hK ⟨cc2 K1, cc2 K2⟩ fun hHeld => ?_
   clear hK K
   refine pk 10 42 2047 ?_
   refine pk 11 5 4095 ?_
   refine done_ (done_of HT_.out (by kernel_rfl)) ?_
   try go_wp2
   (try (rw [drewN_self w4]; generalize hq_ : World.drewN w4 _ = w4; replace K1 : Bx2 w4 g1 a0_0 a0_1 33 := ⟨by rw [← hq_]; exact (Z K1)⟩; replace K2 : Bx2 w4 g2 a1_0 a1_1 39 := ⟨by rw [← hq_]; exact (Z K2)⟩; replace K3 : Bx4 w4 g3 0 0 0 0 24 := ⟨by rw [← hq_]; exact (Z K3)⟩; replace HB : Aside0 (Below w.heap.size w w4) := ⟨by rw [← hq_]; exact (YA HB)⟩; clear hq_))
   obtain ⟨K1, K2, K3, HB⟩ := dk3 K1 K2 K3 HB
   refine start_ (n := 12) (S := fun w' => ce2 w' g1 a0_0 a0_1 ∧ ce2 w' g2 a1_0 a1_1) (ds := []) (lb 12 0) (by kernel_rfl) rfl rfl ⟨cc2 K1, cc2 K2⟩ (fun hHeld => ?_); refine with_tabW spec_ValMake.tab8 spec_ValMake.bits8 (fun HT_ HW_ => ?_)
   generalize w4.drew = w5 at K1 K2 K3 HB hHeld ⊢
   refine pk 0 43 1 ?_
   refine pk 2 45 5 ?_
   refine pk 4 47 21 ?_
   refine pk 7 50 149 ?_
   refine tk 1 44 151 hHeld ?_
   refine tk 3 46 159 hHeld ?_
   refine tk 5 48 191 hHeld ?_
   refine pk 6 49 255 ?_
   refine tk 8 51 511 hHeld ?_
   refine on 9 (some 52) 1023 fun K hK => ?_
   refine goes_ Try.func34 (by kernel_rfl) rfl #[.int .i64 (wrap64 (a0_1 - a1_1)), .int .i64 a1_0] (by rfl) rfl rfl mz ?_
   with_reducible refine (spec_l1Mod.calls _ _ _ _ A2.out).mono ?_
   rintro e w' ⟨rfl, ⟨nd, rfl⟩⟩
   refine ⟨_, rfl, ?_⟩
   refine kk hK ⟨cc2 K1, cc2 K2⟩ fun hHeld => ?_
   clear hK K
   refine pk 10 53 2047 ?_
   refine pk 11 6 4095 ?_
   refine done_ (done_of HT_.out (by kernel_rfl)) ?_
   try go_wp2_with (first | ((with_reducible refine gate_callee (f := 33) rfl ?_); refine gL 62 Try.func33 (spec_l10One.calls _ _ _ _ _ _ A3.out) fun w6 hb => ?_; obtain ⟨K1, K2, K3, HB⟩ := bk3 K1 K2 K3 HB hb; (try clear hb); have z_ := ns1 N4; have z_ := cB4 K3))
   refine bodyPost_ret (results_cell_row rfl _ _ g3 24 #[.int .i64 t5, .int .i64 t6, .int .i64 t7, .int .i64 t8] (0, 0) _ rfl (by refine pf ?_; refine blk_put (cs := #[.int .i64 t5, .int .i64 t6, .int .i64 t7, .int .i64 0]) ?_ 3 _ rfl; refine pf ?_; refine blk_put (cs := #[.int .i64 t5, .int .i64 t6, .int .i64 0, .int .i64 0]) ?_ 2 _ rfl; refine pf ?_; refine blk_put (cs := #[.int .i64 t5, .int .i64 0, .int .i64 0, .int .i64 0]) ?_ 1 _ rfl; refine pf ?_; refine blk_put (cs := #[.int .i64 0, .int .i64 0, .int .i64 0, .int .i64 0]) ?_ 0 _ rfl; exact Z K3) Try.underlying24 rfl (by kernel_rfl)) rfl ?_
   exact ⟨ez, YA HB⟩
end
section
attribute [local go_sem] max2_int min2_int max_two min_two max_three min_three max_four min_four
attribute [local go_sem] Go.Proofs.YtdmadlfdibiejaaSet.isSome_setCell
def spec_l10Rest.f (a0_0 : Int) (a0_1 : Int) (a0_2 : Int) (a0_3 : Int) : Option (Int × Int) := some (a0_2, a0_3)
set_option maxHeartbeats 8000000 in
set_option maxRecDepth 100000 in
theorem spec_l10Rest.calls (a0_0 : Int) (a0_1 : Int) (a0_2 : Int) (a0_3 : Int) (r1 : Int) (r2 : Int) (w : World) (h : spec_l10Rest.f a0_0 a0_1 a0_2 a0_3 = some (r1, r2)) :
  Calls Try.prog 13 #[.agg #[.int .i64 a0_0, .int .i64 a0_1, .int .i64 a0_2, .int .i64 a0_3]] w fun e w' => e = .returned (.agg #[.int .i64 r1, .int .i64 r2]) ∧ Below w.heap.size w w' := by
 have hu24 := Try.underlying24
 have hu39 := Try.underlying39
 have HB := am (Below.refl w.heap.size w)
 have H : (some (a0_2, a0_3)) = some (r1, r2) := h
 clear h
 simp only [Option.some.injEq, Prod.mk.injEq] at H
 obtain ⟨rfl, rfl⟩ := H
 go_enter Try.func13, Try.ntmps13
 go_wp2_with (first | ((with_reducible refine gate_dst (N := 1) rfl ?_); refine bxn 1 #[.int .i64 a0_0, .int .i64 a0_1, .int .i64 a0_2, .int .i64 a0_3] 24 HB fun g1 w1 K1 G1 hg hb => ?_; replace HB := am (below_step (YA HB) hb); clear hb hg) | ((with_reducible refine gate_dst (N := 2) rfl ?_); refine bxn 2 #[.int .i64 0, .int .i64 0] 39 HB fun g2 w2 K2 G2 hg hb => ?_; obtain ⟨N1,N2⟩ := ne_ hg K1; obtain ⟨K1, HB⟩ := bk1 K1 HB hb; clear hb hg; have z_ := ns1 N1; have z_ := cB4 K1; have z_ := cB2 K2))
 refine bodyPost_ret (results_cell_row rfl _ _ g2 39 #[.int .i64 a0_2, .int .i64 a0_3] (0, 0) _ rfl (by refine pf ?_; refine blk_put (cs := #[.int .i64 a0_2, .int .i64 0]) ?_ 1 _ rfl; refine pf ?_; refine blk_put (cs := #[.int .i64 0, .int .i64 0]) ?_ 0 _ rfl; exact Z K2) Try.underlying39 rfl (by kernel_rfl)) rfl ?_
 exact ⟨ez, YA HB⟩
end
section
attribute [local go_sem] max2_int min2_int max_two min_two max_three min_three max_four min_four
attribute [local go_sem high] eqA24
attribute [local go_sem] Go.Proofs.YtdmadlfdibiejaaSet.isSome_setCell
def spec_ValOk.f (k : Nat) (a0_0 : Int) (a0_1 : Int) (a0_2 : Int) (a0_3 : Int) : Option (Bool) := (spec_l10None.f).bind fun u1 => (if (a0_0 == u1.1 && (a0_1 == u1.2.1 && (a0_2 == u1.2.2.1 && (a0_3 == u1.2.2.2)))) = true then (some true) else ((spec_l10Range.f a0_0 a0_1 a0_2 a0_3).bind fun u2 => ((spec_RangeOk.f u2.1 u2.2).bind fun t1 => (if t1 = true then ((spec_l10Rest.f a0_0 a0_1 a0_2 a0_3).bind fun u3 => ((spec_RestOk.f u3.1 u3.2).bind fun t2 => (if t2 = true then ((spec_l10Range.f a0_0 a0_1 a0_2 a0_3).bind fun u4 => ((spec_l10Rest.f a0_0 a0_1 a0_2 a0_3).bind fun u5 => ((spec_ValMake.f k u4.1 u4.2 u5.1 u5.2).bind fun u6 => (some (a0_0 == u6.1 && (a0_1 == u6.2.1 && (a0_2 == u6.2.2.1 && (a0_3 == u6.2.2.2)))))))) else (some false)))) else (some false)))))
theorem spec_ValOk.mono : ∀ a0 a1 a2 a3 k, LeO (spec_ValOk.f k a0 a1 a2 a3) (spec_ValOk.f (k + 1) a0 a1 a2 a3) := by
 intro a0 a1 a2 a3 k
 unfold spec_ValOk.f
 repeat' first | (with_reducible first | apply spec_ValMake.mono | apply LeO.refl | apply LeO.none | refine LeO.ite ?_ ?_ | refine LeO.bind ?_ (fun _ => ?_)) | apply spec_ValMake.mono | apply LeO.none | refine LeO.ite ?_ ?_ | refine LeO.bind ?_ (fun _ => ?_)
def spec_ValOk.T1 : Bool × List (List Nat × List Nat) := (true, [([], []), ([], []), ([0, 1], [0, 1]), ([2, 1], [2]), ([3], [3]), ([4, 3, 3], [3, 4]), ([5, 5, 3], [3, 5]), ([6, 6, 3], [3, 6]), ([7], [7]), ([8, 7, 7], [7, 8]), ([9, 9, 7], [7, 9]), ([7, 10, 3], [3, 7, 10]), ([11, 10, 3], [3, 11]), ([12], [12]), ([12], [12]), ([14, 12, 12], [12, 14]), ([12], [12]), ([16, 15, 12], [12, 16]), ([15, 17, 17, 12], [12, 15, 17]), ([13, 18, 12], [12, 13, 18]), ([12, 19, 3], [3, 12, 19]), ([3, 20], [3, 20]), ([21, 18, 0, 1, 2, 3, 4, 5, 6, 7, 8, 9, 10, 11, 12, 13, 14, 15, 16, 17, 18, 19, 20, 21], [21])])
def spec_ValOk.B1 : List Nat := [0, 0, 3, 7, 15, 31, 63, 127, 255, 511, 1023, 2047, 4095, 8191, 8191, 24575, 8191, 122879, 253951, 524287, 1048575, 2097151, 4194303]
theorem spec_ValOk.tab1 : rtab .any (opsOf Try.f8 1) = spec_ValOk.T1 := by kernel_rfl
theorem spec_ValOk.bits1 : waitsOk spec_ValOk.T1.2 spec_ValOk.B1 = true := by kernel_rfl
set_option maxHeartbeats 8000000 in
set_option maxRecDepth 100000 in
theorem spec_ValOk.calls (k : Nat) (a0_0 : Int) (a0_1 : Int) (a0_2 : Int) (a0_3 : Int) (r : Bool) (w : World) (h : spec_ValOk.f k a0_0 a0_1 a0_2 a0_3 = some r) :
  Calls Try.prog 8 #[.agg #[.int .i64 a0_0, .int .i64 a0_1, .int .i64 a0_2, .int .i64 a0_3]] w fun e w' => e = .returned (.bool r) ∧ Below w.heap.size w w' := by
 have hu24 := Try.underlying24
 have HB := am (Below.refl w.heap.size w)
 have H : ((spec_l10None.f).bind fun u1 => (if (a0_0 == u1.1 && (a0_1 == u1.2.1 && (a0_2 == u1.2.2.1 && (a0_3 == u1.2.2.2)))) = true then (some true) else ((spec_l10Range.f a0_0 a0_1 a0_2 a0_3).bind fun u2 => ((spec_RangeOk.f u2.1 u2.2).bind fun t1 => (if t1 = true then ((spec_l10Rest.f a0_0 a0_1 a0_2 a0_3).bind fun u3 => ((spec_RestOk.f u3.1 u3.2).bind fun t2 => (if t2 = true then ((spec_l10Range.f a0_0 a0_1 a0_2 a0_3).bind fun u4 => ((spec_l10Rest.f a0_0 a0_1 a0_2 a0_3).bind fun u5 => ((spec_ValMake.f k u4.1 u4.2 u5.1 u5.2).bind fun u6 => (some (a0_0 == u6.1 && (a0_1 == u6.2.1 && (a0_2 == u6.2.2.1 && (a0_3 == u6.2.2.2)))))))) else (some false)))) else (some false)))))) = some r := h
 clear h
 obtain ⟨⟨t3, t4, t5, t6⟩, A1, H⟩ := bd H
 try dsimp only at H
 by_cases c1 : (a0_0 == t3 && (a0_1 == t4 && (a0_2 == t5 && (a0_3 == t6)))) = true
 ·rw [if_pos c1] at H
  have d1 : (a0_0 == t3 && (a0_1 == t4 && (a0_2 == t5 && (a0_3 == t6)))) = true := c1
  (try (have d2 : decide (a0_0 = t3 && (a0_1 == t4 && (a0_2 == t5 && (a0_3 == t6)))) = true := by simpa using c1))
  (try (have d3 : (a0_0 == t3 && (a0_1 == t4 && (a0_2 == t5 && (a0_3 == t6)))) = true := by simpa using c1))
  clear c1
  obtain rfl := Option.some.inj H
  go_enter Try.func8, Try.ntmps8
  try go_wp2_with (first | ((with_reducible refine gate_dst (N := 1) rfl ?_); refine bxn 1 #[.int .i64 a0_0, .int .i64 a0_1, .int .i64 a0_2, .int .i64 a0_3] 24 HB fun g1 w1 K1 G1 hg hb => ?_; replace HB := am (below_step (YA HB) hb); clear hb hg))
  obtain ⟨K1, HB⟩ := dk1 K1 HB
  refine start_ (n := 23) (S := fun w' => ce4 w' g1 a0_0 a0_1 a0_2 a0_3) (ds := []) (lb 23 0) (by kernel_rfl) rfl rfl (cc4 K1) (fun hHeld => ?_); refine with_tabW spec_ValOk.tab1 spec_ValOk.bits1 (fun HT_ HW_ => ?_)
  generalize w1.drew = w2 at K1 HB hHeld ⊢
  refine tk 0 3 1 hHeld ?_
  refine cl1 1 4 3 Try.func9 (spec_l10None.calls _ _ _ _ _ A1.out) K1 HB fun w3 K1 HB hHeld => ?_
  refine pk 2 5 7 ?_
  refine pk 3 6 15 ?_
  refine uk 4 7 31 ?_
  refine uk 5 8 63 ?_
  refine uk 6 9 127 ?_
  refine uk 7 10 255 ?_
  refine uk 8 11 511 ?_
  refine uk 9 12 1023 ?_
  refine uk 10 13 2047 ?_
  refine uk 11 14 4095 ?_
  refine uk 12 15 8191 ?_
  refine uk 13 16 16383 ?_
  refine uk 14 17 32767 ?_
  refine uk 15 18 65535 ?_
  refine uk 16 19 131071 ?_
  refine uk 17 20 262143 ?_
  refine uk 18 21 524287 ?_
  refine uk 19 22 1048575 ?_
  refine uk 20 23 2097151 ?_
  refine pk 21 24 4194303 ?_
  refine pk 22 2 8388607 ?_
  refine done_ (done_of HT_.out (by kernel_rfl)) ?_
  try go_wp2
  go_ret
  exact ⟨ez, YA HB⟩
 rw [if_neg c1] at H
 have d1 : (a0_0 == t3 && (a0_1 == t4 && (a0_2 == t5 && (a0_3 == t6)))) = false := by simpa using c1
 (try (have d2 : decide (a0_0 = t3 && (a0_1 == t4 && (a0_2 == t5 && (a0_3 == t6)))) = false := by simpa using c1))
 (try (have d3 : (a0_0 == t3 && (a0_1 == t4 && (a0_2 == t5 && (a0_3 == t6)))) = false := by simpa using c1))
 (try (have d4 : ¬ (a0_0 = t3 && (a0_1 == t4 && (a0_2 == t5 && (a0_3 == t6)))) := by simpa using c1))
 clear c1
 obtain ⟨⟨t7, t8⟩, A2, H⟩ := bd H
 try dsimp only at H
 obtain ⟨t1, A3, H⟩ := bd H
 try dsimp only at H
 by_cases c2 : t1 = true
 rotate_left
 ·replace c2 := Bool.eq_false_iff.mpr c2
  subst c2
  rw [if_neg ff] at H
  obtain rfl := Option.some.inj H
  go_enter Try.func8, Try.ntmps8
  try go_wp2_with (first | ((with_reducible refine gate_dst (N := 1) rfl ?_); refine bxn 1 #[.int .i64 a0_0, .int .i64 a0_1, .int .i64 a0_2, .int .i64 a0_3] 24 HB fun g1 w1 K1 G1 hg hb => ?_; replace HB := am (below_step (YA HB) hb); clear hb hg))
  obtain ⟨K1, HB⟩ := dk1 K1 HB
  refine start_ (n := 23) (S := fun w' => ce4 w' g1 a0_0 a0_1 a0_2 a0_3) (ds := []) (lb 23 0) (by kernel_rfl) rfl rfl (cc4 K1) (fun hHeld => ?_); refine with_tabW spec_ValOk.tab1 spec_ValOk.bits1 (fun HT_ HW_ => ?_)
  generalize w1.drew = w2 at K1 HB hHeld ⊢
  refine tk 0 3 1 hHeld ?_
  refine cl1 1 4 3 Try.func9 (spec_l10None.calls _ _ _ _ _ A1.out) K1 HB fun w3 K1 HB hHeld => ?_
  refine pk 2 5 7 ?_
  refine pk 3 6 15 ?_
  refine tk 4 7 31 hHeld ?_
  refine cl1 5 8 63 Try.func11 (spec_l10Range.calls _ _ _ _ _ _ _ A2.out) K1 HB fun w4 K1 HB hHeld => ?_
  refine cl1 6 9 127 Try.func23 (spec_RangeOk.calls _ _ _ _ A3.out) K1 HB fun w5 K1 HB hHeld => ?_
  refine pk 7 10 255 ?_
  refine uk 8 11 511 ?_
  refine uk 9 12 1023 ?_
  refine uk 10 13 2047 ?_
  refine pk 11 14 4095 ?_
  refine pk 12 15 8191 ?_
  refine uk 13 16 16383 ?_
  refine uk 14 17 32767 ?_
  refine uk 15 18 65535 ?_
  refine uk 16 19 131071 ?_
  refine uk 17 20 262143 ?_
  refine uk 18 21 524287 ?_
  refine uk 19 22 1048575 ?_
  refine pk 20 23 2097151 ?_
  refine pk 21 24 4194303 ?_
  refine pk 22 2 8388607 ?_
  refine done_ (done_of HT_.out (by kernel_rfl)) ?_
  try go_wp2
  go_ret
  exact ⟨ez, YA HB⟩
 subst c2
 rw [if_pos rfl] at H
 obtain ⟨⟨t9, t10⟩, A4, H⟩ := bd H
 try dsimp only at H
 obtain ⟨t2, A5, H⟩ := bd H
 try dsimp only at H
 by_cases c3 : t2 = true
 rotate_left
 ·replace c3 := Bool.eq_false_iff.mpr c3
  subst c3
  rw [if_neg ff] at H
  obtain rfl := Option.some.inj H
  go_enter Try.func8, Try.ntmps8
  try go_wp2_with (first | ((with_reducible refine gate_dst (N := 1) rfl ?_); refine bxn 1 #[.int .i64 a0_0, .int .i64 a0_1, .int .i64 a0_2, .int .i64 a0_3] 24 HB fun g1 w1 K1 G1 hg hb => ?_; replace HB := am (below_step (YA HB) hb); clear hb hg))
  obtain ⟨K1, HB⟩ := dk1 K1 HB
  refine start_ (n := 23) (S := fun w' => ce4 w' g1 a0_0 a0_1 a0_2 a0_3) (ds := []) (lb 23 0) (by kernel_rfl) rfl rfl (cc4 K1) (fun hHeld => ?_); refine with_tabW spec_ValOk.tab1 spec_ValOk.bits1 (fun HT_ HW_ => ?_)
  generalize w1.drew = w2 at K1 HB hHeld ⊢
  refine tk 0 3 1 hHeld ?_
  refine cl1 1 4 3 Try.func9 (spec_l10None.calls _ _ _ _ _ A1.out) K1 HB fun w3 K1 HB hHeld => ?_
  refine pk 2 5 7 ?_
  refine pk 3 6 15 ?_
  refine tk 4 7 31 hHeld ?_
  refine cl1 5 8 63 Try.func11 (spec_l10Range.calls _ _ _ _ _ _ _ A2.out) K1 HB fun w4 K1 HB hHeld => ?_
  refine cl1 6 9 127 Try.func23 (spec_RangeOk.calls _ _ _ _ A3.out) K1 HB fun w5 K1 HB hHeld => ?_
  refine pk 7 10 255 ?_
  refine tk 8 11 511 hHeld ?_
  refine cl1 9 12 1023 Try.func13 (spec_l10Rest.calls _ _ _ _ _ _ _ A4.out) K1 HB fun w6 K1 HB hHeld => ?_
  refine cl1 10 13 2047 Try.func24 (spec_RestOk.calls _ _ _ _ A5.out) K1 HB fun w7 K1 HB hHeld => ?_
  refine pk 11 14 4095 ?_
  refine pk 12 15 8191 ?_
  refine uk 13 16 16383 ?_
  refine uk 14 17 32767 ?_
  refine uk 15 18 65535 ?_
  refine uk 16 19 131071 ?_
  refine uk 17 20 262143 ?_
  refine uk 18 21 524287 ?_
  refine uk 19 22 1048575 ?_
  refine pk 20 23 2097151 ?_
  refine pk 21 24 4194303 ?_
  refine pk 22 2 8388607 ?_
  refine done_ (done_of HT_.out (by kernel_rfl)) ?_
  try go_wp2
  go_ret
  exact ⟨ez, YA HB⟩
 subst c3
 rw [if_pos rfl] at H
 obtain ⟨⟨t11, t12⟩, A6, H⟩ := bd H
 try dsimp only at H
 obtain ⟨⟨t13, t14⟩, A7, H⟩ := bd H
 try dsimp only at H
 obtain ⟨⟨t15, t16, t17, t18⟩, A8, H⟩ := bd H
 try dsimp only at H
 obtain rfl := Option.some.inj H
 go_enter Try.func8, Try.ntmps8
 try go_wp2_with (first | ((with_reducible refine gate_dst (N := 1) rfl ?_); refine bxn 1 #[.int .i64 a0_0, .int .i64 a0_1, .int .i64 a0_2, .int .i64 a0_3] 24 HB fun g1 w1 K1 G1 hg hb => ?_; replace HB := am (below_step (YA HB) hb); clear hb hg))
 obtain ⟨K1, HB⟩ := dk1 K1 HB
 refine start_ (n := 23) (S := fun w' => ce4 w' g1 a0_0 a0_1 a0_2 a0_3) (ds := []) (lb 23 0) (by kernel_rfl) rfl rfl (cc4 K1) (fun hHeld => ?_); refine with_tabW spec_ValOk.tab1 spec_ValOk.bits1 (fun HT_ HW_ => ?_)
 generalize w1.drew = w2 at K1 HB hHeld ⊢
 refine tk 0 3 1 hHeld ?_
 refine cl1 1 4 3 Try.func9 (spec_l10None.calls _ _ _ _ _ A1.out) K1 HB fun w3 K1 HB hHeld => ?_
 refine pk 2 5 7 ?_
 refine pk 3 6 15 ?_
 refine tk 4 7 31 hHeld ?_
 refine cl1 5 8 63 Try.func11 (spec_l10Range.calls _ _ _ _ _ _ _ A2.out) K1 HB fun w4 K1 HB hHeld => ?_
 refine cl1 6 9 127 Try.func23 (spec_RangeOk.calls _ _ _ _ A3.out) K1 HB fun w5 K1 HB hHeld => ?_
 refine pk 7 10 255 ?_
 refine tk 8 11 511 hHeld ?_
 refine cl1 9 12 1023 Try.func13 (spec_l10Rest.calls _ _ _ _ _ _ _ A4.out) K1 HB fun w6 K1 HB hHeld => ?_
 refine cl1 10 13 2047 Try.func24 (spec_RestOk.calls _ _ _ _ A5.out) K1 HB fun w7 K1 HB hHeld => ?_
 refine pk 11 14 4095 ?_
 refine pk 12 15 8191 ?_
 refine tk 13 16 16383 hHeld ?_
 refine tk 14 17 32767 hHeld ?_
 refine tk 16 19 98303 hHeld ?_
 refine cl1 15 18 131071 Try.func11 (spec_l10Range.calls _ _ _ _ _ _ _ A6.out) K1 HB fun w8 K1 HB hHeld => ?_
 refine cl1 17 20 262143 Try.func13 (spec_l10Rest.calls _ _ _ _ _ _ _ A7.out) K1 HB fun w9 K1 HB hHeld => ?_
 refine cl1 18 21 524287 Try.func12 (spec_ValMake.calls _ _ _ _ _ _ _ _ _ _ A8.out) K1 HB fun w10 K1 HB hHeld => ?_
 refine pk 19 22 1048575 ?_
 refine pk 20 23 2097151 ?_
 refine pk 21 24 4194303 ?_
 refine pk 22 2 8388607 ?_
 refine done_ (done_of HT_.out (by kernel_rfl)) ?_
 try go_wp2
 go_ret
 exact ⟨ez, YA HB⟩
end
section
attribute [local go_sem] max2_int min2_int max_two min_two max_three min_three max_four min_four
attribute [local go_sem] Go.Proofs.YtdmadlfdibiejaaSet.isSome_setCell
def spec_l8Min.f (a0 : Int) (a1 : Int) : Option (Int) := if a0 < a1 then (some a0) else (some a1)
set_option maxHeartbeats 8000000 in
set_option maxRecDepth 100000 in
theorem spec_l8Min.calls (a0 : Int) (a1 : Int) (r : Int) (w : World) (h : spec_l8Min.f a0 a1 = some r) :
  Calls Try.prog 29 #[.int .i64 a0, .int .i64 a1] w fun e w' => e = .returned (.int .i64 r) ∧ Drawn0 w w' := by
 have H : (if a0 < a1 then (some a0) else (some a1)) = some r := h
 clear h
 by_cases c1 : a0 < a1
 ·rw [if_pos c1] at H
  have d1 := dT c1
  clear c1
  obtain rfl := Option.some.inj H
  go_enter Try.func29, Try.ntmps29
  go_wp2
  go_ret
  exact ⟨by first | rfl | (simp; done) | (simp [*]; done), by repeat (first | exact Drawn0.refl _ | apply Drawn0.step)⟩
 rw [if_neg c1] at H
 have d1 := dF c1
 clear c1
 obtain rfl := Option.some.inj H
 go_enter Try.func29, Try.ntmps29
 go_wp2
 go_ret
 exact ⟨by first | rfl | (simp; done) | (simp [*]; done), by repeat (first | exact Drawn0.refl _ | apply Drawn0.step)⟩

def spec_l8Max.f (a0 : Int) (a1 : Int) : Option (Int) := if a0 > a1 then (some a0) else (some a1)
set_option maxHeartbeats 8000000 in
set_option maxRecDepth 100000 in
theorem spec_l8Max.calls (a0 : Int) (a1 : Int) (r : Int) (w : World) (h : spec_l8Max.f a0 a1 = some r) :
  Calls Try.prog 30 #[.int .i64 a0, .int .i64 a1] w fun e w' => e = .returned (.int .i64 r) ∧ Drawn0 w w' := by
 have H : (if a0 > a1 then (some a0) else (some a1)) = some r := h
 clear h
 by_cases c1 : a0 > a1
 ·rw [if_pos c1] at H
  have d1 := dT c1
  clear c1
  obtain rfl := Option.some.inj H
  go_enter Try.func30, Try.ntmps30
  go_wp2
  go_ret
  exact ⟨by first | rfl | (simp; done) | (simp [*]; done), by repeat (first | exact Drawn0.refl _ | apply Drawn0.step)⟩
 rw [if_neg c1] at H
 have d1 := dF c1
 clear c1
 obtain rfl := Option.some.inj H
 go_enter Try.func30, Try.ntmps30
 go_wp2
 go_ret
 exact ⟨by first | rfl | (simp; done) | (simp [*]; done), by repeat (first | exact Drawn0.refl _ | apply Drawn0.step)⟩

def spec_l8Cut.f (a0 : Int) (a1 : Int) : Option (Int × Int) := (spec_l8Max.f a0 (-2147483648)).bind fun t1 => ((spec_l8Min.f a1 2147483647).bind fun t2 => (if t1 > t2 then ((spec_l8None.f).bind fun u1 => (some (u1.1, u1.2))) else (some (t1, t2))))
set_option maxHeartbeats 8000000 in
set_option maxRecDepth 100000 in
theorem spec_l8Cut.calls (a0 : Int) (a1 : Int) (r1 : Int) (r2 : Int) (w : World) (h : spec_l8Cut.f a0 a1 = some (r1, r2)) :
  Calls Try.prog 28 #[.int .i64 a0, .int .i64 a1] w fun e w' => e = .returned (.agg #[.int .i64 r1, .int .i64 r2]) ∧ Below w.heap.size w w' := by
 have hu33 := Try.underlying33
 have HB := am (Below.refl w.heap.size w)
 have H : ((spec_l8Max.f a0 (-2147483648)).bind fun t1 => ((spec_l8Min.f a1 2147483647).bind fun t2 => (if t1 > t2 then ((spec_l8None.f).bind fun u1 => (some (u1.1, u1.2))) else (some (t1, t2))))) = some (r1, r2) := h
 clear h
 obtain ⟨t1, A1, H⟩ := bd H
 try dsimp only at H
 obtain ⟨t2, A2, H⟩ := bd H
 try dsimp only at H
 by_cases c1 : t1 > t2
 rotate_left
 ·rw [if_neg c1] at H
  have d1 := dF c1
  clear c1
  simp only [Option.some.injEq, Prod.mk.injEq] at H
  obtain ⟨rfl, rfl⟩ := H
  go_enter Try.func28, Try.ntmps28
  go_wp2_with (first | ((with_reducible refine gate_dst (N := 4) rfl ?_); refine bxn 4 #[.int .i64 0, .int .i64 0] 33 HB fun g1 w1 K1 G1 hg hb => ?_; replace HB := am (below_step (YA HB) hb); clear hb hg) | ((with_reducible refine gate_callee (f := 30) rfl ?_); refine goesL_ (some 8) rfl rfl Try.func30 (by kernel_rfl) rfl #[.int .i64 a0, .int .i64 (-2147483648)] rfl mz ?_; (with_reducible refine (spec_l8Max.calls _ _ _ _ A1.out).mono ?_); rintro e w' ⟨rfl, ⟨nd, rfl⟩⟩; refine ⟨_, rfl, ?_⟩; (try (rw [drewN_self w1]; generalize hq_ : World.drewN w1 _ = w1; replace K1 : Bx2 w1 g1 0 0 33 := ⟨by rw [← hq_]; exact (Z K1)⟩; replace HB : Aside0 (Below w.heap.size w w1) := ⟨by rw [← hq_]; exact (YA HB)⟩; clear hq_))) | ((with_reducible refine gate_callee (f := 29) rfl ?_); refine goesL_ (some 10) rfl rfl Try.func29 (by kernel_rfl) rfl #[.int .i64 a1, .int .i64 2147483647] rfl mz ?_; (with_reducible refine (spec_l8Min.calls _ _ _ _ A2.out).mono ?_); rintro e w' ⟨rfl, ⟨nd, rfl⟩⟩; refine ⟨_, rfl, ?_⟩; (try (rw [drewN_self w1]; generalize hq_ : World.drewN w1 _ = w1; replace K1 : Bx2 w1 g1 0 0 33 := ⟨by rw [← hq_]; exact (Z K1)⟩; replace HB : Aside0 (Below w.heap.size w w1) := ⟨by rw [← hq_]; exact (YA HB)⟩; clear hq_)); have z_ := cB2 K1))
  refine bodyPost_ret (results_cell_row rfl _ _ g1 33 #[.int .i64 t1, .int .i64 t2] (0, 0) _ rfl (by refine pf ?_; refine blk_put (cs := #[.int .i64 t1, .int .i64 0]) ?_ 1 _ rfl; refine pf ?_; refine blk_put (cs := #[.int .i64 0, .int .i64 0]) ?_ 0 _ rfl; exact Z K1) Try.underlying33 rfl (by kernel_rfl)) rfl ?_
  exact ⟨ez, YA HB⟩
 rw [if_pos c1] at H
 have d1 := dT c1
 clear c1
 obtain ⟨⟨t3, t4⟩, A3, H⟩ := bd H
 try dsimp only at H
 simp only [Option.some.injEq, Prod.mk.injEq] at H
 obtain ⟨rfl, rfl⟩ := H
 go_enter Try.func28, Try.ntmps28
 go_wp2_with (first | ((with_reducible refine gate_dst (N := 4) rfl ?_); refine bxn 4 #[.int .i64 0, .int .i64 0] 33 HB fun g1 w1 K1 G1 hg hb => ?_; replace HB := am (below_step (YA HB) hb); clear hb hg) | ((with_reducible refine gate_callee (f := 30) rfl ?_); refine goesL_ (some 8) rfl rfl Try.func30 (by kernel_rfl) rfl #[.int .i64 a0, .int .i64 (-2147483648)] rfl mz ?_; (with_reducible refine (spec_l8Max.calls _ _ _ _ A1.out).mono ?_); rintro e w' ⟨rfl, ⟨nd, rfl⟩⟩; refine ⟨_, rfl, ?_⟩; (try (rw [drewN_self w1]; generalize hq_ : World.drewN w1 _ = w1; replace K1 : Bx2 w1 g1 0 0 33 := ⟨by rw [← hq_]; exact (Z K1)⟩; replace HB : Aside0 (Below w.heap.size w w1) := ⟨by rw [← hq_]; exact (YA HB)⟩; clear hq_))) | ((with_reducible refine gate_callee (f := 29) rfl ?_); refine goesL_ (some 10) rfl rfl Try.func29 (by kernel_rfl) rfl #[.int .i64 a1, .int .i64 2147483647] rfl mz ?_; (with_reducible refine (spec_l8Min.calls _ _ _ _ A2.out).mono ?_); rintro e w' ⟨rfl, ⟨nd, rfl⟩⟩; refine ⟨_, rfl, ?_⟩; (try (rw [drewN_self w1]; generalize hq_ : World.drewN w1 _ = w1; replace K1 : Bx2 w1 g1 0 0 33 := ⟨by rw [← hq_]; exact (Z K1)⟩; replace HB : Aside0 (Below w.heap.size w w1) := ⟨by rw [← hq_]; exact (YA HB)⟩; clear hq_))) | ((with_reducible refine gate_callee (f := 25) rfl ?_); refine gL 14 Try.func25 (spec_l8None.calls _ _ _ A3.out) fun w2 hb => ?_; obtain ⟨K1, HB⟩ := bk1 K1 HB hb; (try clear hb); have z_ := cB2 K1))
 refine bodyPost_ret (results_cell_row rfl _ _ g1 33 #[.int .i64 t3, .int .i64 t4] (0, 0) _ rfl (by refine pf ?_; refine blk_put (cs := #[.int .i64 t3, .int .i64 0]) ?_ 1 _ rfl; refine pf ?_; refine blk_put (cs := #[.int .i64 0, .int .i64 0]) ?_ 0 _ rfl; exact Z K1) Try.underlying33 rfl (by kernel_rfl)) rfl ?_
 exact ⟨ez, YA HB⟩
end
section
attribute [local go_sem] max2_int min2_int max_two min_two max_three min_three max_four min_four
attribute [local go_sem high] eqA33
attribute [local go_sem] Go.Proofs.YtdmadlfdibiejaaSet.isSome_setCell
def spec_RangeMeet.j0 : Nat → Bool → Int → Int → Int → Int → Option (Int × Int)
 | 0, _, _, _, _, _ => none
 | k + 1, x1, x2, x3, x4, x5 => if x1 = true then ((spec_l8None.f).bind fun u1 => (some (u1.1, u1.2))) else ((spec_l8Max.f x2 x4).bind fun t1 => ((spec_l8Min.f x3 x5).bind fun t2 => ((spec_l8Cut.f t1 t2).bind fun u2 => (some (u2.1, u2.2)))))
def spec_RangeMeet.f (k : Nat) (a0_0 : Int) (a0_1 : Int) (a1_0 : Int) (a1_1 : Int) : Option (Int × Int) := (spec_RangeOk.f a0_0 a0_1).bind fun t1 => (if t1 = true then ((spec_RangeOk.f a1_0 a1_1).bind fun t2 => (if t2 = true then ((spec_l8None.f).bind fun u1 => (if (a0_0 == u1.1 && (a0_1 == u1.2)) = true then (spec_RangeMeet.j0 k true a0_0 a0_1 a1_0 a1_1) else ((spec_l8None.f).bind fun u2 => (spec_RangeMeet.j0 k (a1_0 == u2.1 && (a1_1 == u2.2)) a0_0 a0_1 a1_0 a1_1)))) else (spec_RangeMeet.j0 k true a0_0 a0_1 a1_0 a1_1))) else (spec_RangeMeet.j0 k true a0_0 a0_1 a1_0 a1_1))
theorem spec_RangeMeet.mono_l : ∀ k, (∀ y0 y1 y2 y3 y4, LeO (spec_RangeMeet.j0 k y0 y1 y2 y3 y4) (spec_RangeMeet.j0 (k + 1) y0 y1 y2 y3 y4))
 | 0 => fun _ _ _ _ _ r h => by simp [spec_RangeMeet.j0] at h
 | k + 1 => by
  have ih0 := spec_RangeMeet.mono_l k
  ·intro y0 y1 y2 y3 y4
   unfold spec_RangeMeet.j0
   repeat' first | (with_reducible first | apply ih0 | apply LeO.refl | apply LeO.none | refine LeO.ite ?_ ?_ | refine LeO.bind ?_ (fun _ => ?_)) | apply ih0 | apply LeO.none | refine LeO.ite ?_ ?_ | refine LeO.bind ?_ (fun _ => ?_)
theorem spec_RangeMeet.mono : ∀ a0 a1 a2 a3 k, LeO (spec_RangeMeet.f k a0 a1 a2 a3) (spec_RangeMeet.f (k + 1) a0 a1 a2 a3) := by
 intro a0 a1 a2 a3 k
 have ih0 := spec_RangeMeet.mono_l k
 unfold spec_RangeMeet.f
 repeat' first | (with_reducible first | apply ih0 | apply LeO.refl | apply LeO.none | refine LeO.ite ?_ ?_ | refine LeO.bind ?_ (fun _ => ?_)) | apply ih0 | apply LeO.none | refine LeO.ite ?_ ?_ | refine LeO.bind ?_ (fun _ => ?_)
def spec_RangeMeet.T1 : Bool × List (List Nat × List Nat) := (true, [([], []), ([0], [0]), ([1], [1]), ([2, 1], [2]), ([3], [3]), ([4, 3, 3], [3, 4]), ([5, 3], [3, 5]), ([3, 6], [3, 6]), ([7, 5], [7]), ([8], [8]), ([8, 8], [8]), ([9, 10, 8], [8, 9, 10]), ([8, 11], [8, 11]), ([12, 10], [12]), ([13], [13]), ([13, 13], [13]), ([14, 15, 13], [13, 14, 15]), ([13, 16], [13, 16])])
def spec_RangeMeet.B1 : List Nat := [0, 1, 3, 7, 15, 31, 63, 127, 255, 511, 511, 2047, 4095, 8191, 16383, 16383, 65535, 131071]
theorem spec_RangeMeet.tab1 : rtab .any (opsOf Try.f26 1) = spec_RangeMeet.T1 := by kernel_rfl
theorem spec_RangeMeet.bits1 : waitsOk spec_RangeMeet.T1.2 spec_RangeMeet.B1 = true := by kernel_rfl
def spec_RangeMeet.T3 : Bool × List (List Nat × List Nat) := (true, [([], []), ([0], [0]), ([], []), ([2], [2]), ([1, 3], [1, 3]), ([], []), ([5], [5]), ([], []), ([7], [7]), ([6, 8, 4], [6, 8]), ([4, 9, 9], [4, 9]), ([10, 10, 0, 1, 2, 3, 4, 5, 6, 7, 8, 9, 10], [10])])
def spec_RangeMeet.B3 : List Nat := [0, 1, 0, 4, 15, 0, 32, 0, 128, 511, 1023, 2047]
theorem spec_RangeMeet.tab3 : rtab .any (opsOf Try.f26 3) = spec_RangeMeet.T3 := by kernel_rfl
theorem spec_RangeMeet.bits3 : waitsOk spec_RangeMeet.T3.2 spec_RangeMeet.B3 = true := by kernel_rfl
set_option maxHeartbeats 8000000 in
set_option maxRecDepth 100000 in
theorem spec_RangeMeet.calls (k : Nat) (a0_0 : Int) (a0_1 : Int) (a1_0 : Int) (a1_1 : Int) (r1 : Int) (r2 : Int) (w : World) (h : spec_RangeMeet.f k a0_0 a0_1 a1_0 a1_1 = some (r1, r2)) :
  Calls Try.prog 26 #[.agg #[.int .i64 a0_0, .int .i64 a0_1], .agg #[.int .i64 a1_0, .int .i64 a1_1]] w fun e w' => e = .returned (.agg #[.int .i64 r1, .int .i64 r2]) ∧ Below w.heap.size w w' := by
 have hu33 := Try.underlying33
 have HB := am (Below.refl w.heap.size w)
 have H : ((spec_RangeOk.f a0_0 a0_1).bind fun t1 => (if t1 = true then ((spec_RangeOk.f a1_0 a1_1).bind fun t2 => (if t2 = true then ((spec_l8None.f).bind fun u1 => (if (a0_0 == u1.1 && (a0_1 == u1.2)) = true then (spec_RangeMeet.j0 k true a0_0 a0_1 a1_0 a1_1) else ((spec_l8None.f).bind fun u2 => (spec_RangeMeet.j0 k (a1_0 == u2.1 && (a1_1 == u2.2)) a0_0 a0_1 a1_0 a1_1)))) else (spec_RangeMeet.j0 k true a0_0 a0_1 a1_0 a1_1))) else (spec_RangeMeet.j0 k true a0_0 a0_1 a1_0 a1_1))) = some (r1, r2) := h
 clear h
 have C1 := am H
 clear H
 go_enter Try.func26, Try.ntmps26
 go_upto_region 1 with (first | ((with_reducible refine gate_dst (N := 2) rfl ?_); refine bxn 2 #[.int .i64 a0_0, .int .i64 a0_1] 33 HB fun g1 w2 K1 G1 hg hb => ?_; replace HB := am (below_step (YA HB) hb); clear hb hg) | ((with_reducible refine gate_dst (N := 3) rfl ?_); refine bxn 3 #[.int .i64 a1_0, .int .i64 a1_1] 33 HB fun g2 w3 K2 G2 hg hb => ?_; obtain ⟨N1,N2⟩ := ne_ hg K1; obtain ⟨K1, HB⟩ := bk1 K1 HB hb; clear hb hg) | ((with_reducible refine gate_dst (N := 4) rfl ?_); refine bxn 4 #[.int .i64 0, .int .i64 0] 33 HB fun g3 w4 K3 G3 hg hb => ?_; obtain ⟨N3,N4⟩ := ne_ hg K1; obtain ⟨N5,N6⟩ := ne_ hg K2; obtain ⟨K1, K2, HB⟩ := bk2 K1 K2 HB hb; clear hb hg))
 (try simp only [Act.put, List.setIfInBounds_toArray, List.set_cons_zero, List.set_cons_succ])
 go_cut [22] (fun v1 wc => ∃ (kq : Nat) (x1 : Bool), v1 = .bool x1 ∧ Aside0 (spec_RangeMeet.j0 kq x1 a0_0 a0_1 a1_0 a1_1 = some (r1, r2)) ∧ Aside0 (kq ≤ k) ∧ Bx2 wc g1 a0_0 a0_1 33 ∧ Bx2 wc g2 a1_0 a1_1 33 ∧ Bx2 wc g3 0 0 33 ∧ Aside0 (Below w.heap.size w wc))
 case first =>
  have H := C1.out
  clear C1
  obtain ⟨t1, A1, H⟩ := bd H
  try dsimp only at H
  by_cases c1 : t1 = true
  rotate_left
  ·replace c1 := Bool.eq_false_iff.mpr c1
   subst c1
   rw [if_neg ff] at H
   have H' := am H
   clear H
   try go_wp2
   obtain ⟨K1, K2, K3, HB⟩ := dk3 K1 K2 K3 HB
   refine start_ (n := 18) (S := fun w' => w'.cell? ⟨g1, 0, none⟩ = some (.int .i64 a0_0) ∧ w'.cell? ⟨g1, 1, none⟩ = some (.int .i64 a0_1)) (ds := []) (lb 18 0) (by kernel_rfl) rfl rfl ⟨bc K1 0, bc K1 1⟩ (fun hHeld => ?_); refine with_tabW spec_RangeMeet.tab1 spec_RangeMeet.bits1 (fun HT_ HW_ => ?_)
   generalize w4.drew = w5 at K1 K2 K3 HB hHeld ⊢
   refine tk 0 5 1 hHeld ?_
   refine cl3 1 6 3 Try.func23 (spec_RangeOk.calls _ _ _ _ A1.out) K1 K2 K3 HB fun w6 K1 K2 K3 HB hHeld => ?_
   refine pk 2 7 7 ?_
   refine pk 3 8 15 ?_
   refine uk 4 9 31 ?_
   refine uk 5 10 63 ?_
   refine uk 6 11 127 ?_
   refine pk 7 12 255 ?_
   refine pk 8 13 511 ?_
   refine uk 9 14 1023 ?_
   refine uk 10 15 2047 ?_
   refine uk 11 16 4095 ?_
   refine pk 12 17 8191 ?_
   refine pk 13 18 16383 ?_
   refine uk 14 19 32767 ?_
   refine uk 15 20 65535 ?_
   refine uk 16 21 131071 ?_
   refine pk 17 22 262143 ?_
   refine done_ (done_of HT_.out (by kernel_rfl)) ?_
   try go_wp2
   go_meet
   case rel => exact ⟨_, (true), ey, H', le0, ⟨Z K1⟩, ⟨Z K2⟩, ⟨Z K3⟩, ⟨YA HB⟩⟩
  subst c1
  rw [if_pos rfl] at H
  obtain ⟨t2, A2, H⟩ := bd H
  try dsimp only at H
  by_cases c2 : t2 = true
  rotate_left
  ·replace c2 := Bool.eq_false_iff.mpr c2
   subst c2
   rw [if_neg ff] at H
   have H' := am H
   clear H
   try go_wp2
   obtain ⟨K1, K2, K3, HB⟩ := dk3 K1 K2 K3 HB
   refine start_ (n := 18) (S := fun w' => w'.cell? ⟨g1, 0, none⟩ = some (.int .i64 a0_0) ∧ w'.cell? ⟨g1, 1, none⟩ = some (.int .i64 a0_1) ∧ w'.cell? ⟨g2, 0, none⟩ = some (.int .i64 a1_0) ∧ w'.cell? ⟨g2, 1, none⟩ = some (.int .i64 a1_1)) (ds := []) (lb 18 0) (by kernel_rfl) rfl rfl ⟨bc K1 0, bc K1 1, bc K2 0, bc K2 1⟩ (fun hHeld => ?_); refine with_tabW spec_RangeMeet.tab1 spec_RangeMeet.bits1 (fun HT_ HW_ => ?_)
   generalize w4.drew = w5 at K1 K2 K3 HB hHeld ⊢
   refine tk 0 5 1 hHeld ?_
   refine cl3 1 6 3 Try.func23 (spec_RangeOk.calls _ _ _ _ A1.out) K1 K2 K3 HB fun w6 K1 K2 K3 HB hHeld => ?_
   refine pk 2 7 7 ?_
   refine pk 3 8 15 ?_
   refine tk 4 9 31 hHeld ?_
   refine cl3 5 10 63 Try.func23 (spec_RangeOk.calls _ _ _ _ A2.out) K1 K2 K3 HB fun w7 K1 K2 K3 HB hHeld => ?_
   refine pk 6 11 127 ?_
   refine pk 7 12 255 ?_
   refine pk 8 13 511 ?_
   refine uk 9 14 1023 ?_
   refine uk 10 15 2047 ?_
   refine uk 11 16 4095 ?_
   refine pk 12 17 8191 ?_
   refine pk 13 18 16383 ?_
   refine uk 14 19 32767 ?_
   refine uk 15 20 65535 ?_
   refine uk 16 21 131071 ?_
   refine pk 17 22 262143 ?_
   refine done_ (done_of HT_.out (by kernel_rfl)) ?_
   try go_wp2
   go_meet
   case rel => exact ⟨_, (true), ey, H', le0, ⟨Z K1⟩, ⟨Z K2⟩, ⟨Z K3⟩, ⟨YA HB⟩⟩
  subst c2
  rw [if_pos rfl] at H
  obtain ⟨⟨t3, t4⟩, A3, H⟩ := bd H
  try dsimp only at H
  by_cases c3 : (a0_0 == t3 && (a0_1 == t4)) = true
  ·rw [if_pos c3] at H
   have d1 : (a0_0 == t3 && (a0_1 == t4)) = true := c3
   (try (have d2 : decide (a0_0 = t3 && (a0_1 == t4)) = true := by simpa using c3))
   (try (have d3 : (a0_0 == t3 && (a0_1 == t4)) = true := by simpa using c3))
   clear c3
   (first | rw [d1] | (simp only [i64_w, i32_w]; rw [d1]) | skip)
   have H' := am H
   clear H
   try go_wp2
   obtain ⟨K1, K2, K3, HB⟩ := dk3 K1 K2 K3 HB
   refine start_ (n := 18) (S := fun w' => w'.cell? ⟨g1, 0, none⟩ = some (.int .i64 a0_0) ∧ w'.cell? ⟨g1, 1, none⟩ = some (.int .i64 a0_1) ∧ w'.cell? ⟨g2, 0, none⟩ = some (.int .i64 a1_0) ∧ w'.cell? ⟨g2, 1, none⟩ = some (.int .i64 a1_1)) (ds := []) (lb 18 0) (by kernel_rfl) rfl rfl ⟨bc K1 0, bc K1 1, bc K2 0, bc K2 1⟩ (fun hHeld => ?_); refine with_tabW spec_RangeMeet.tab1 spec_RangeMeet.bits1 (fun HT_ HW_ => ?_)
   generalize w4.drew = w5 at K1 K2 K3 HB hHeld ⊢
   refine tk 0 5 1 hHeld ?_
   refine cl3 1 6 3 Try.func23 (spec_RangeOk.calls _ _ _ _ A1.out) K1 K2 K3 HB fun w6 K1 K2 K3 HB hHeld => ?_
   refine pk 2 7 7 ?_
   refine pk 3 8 15 ?_
   refine tk 4 9 31 hHeld ?_
   refine cl3 5 10 63 Try.func23 (spec_RangeOk.calls _ _ _ _ A2.out) K1 K2 K3 HB fun w7 K1 K2 K3 HB hHeld => ?_
   refine pk 6 11 127 ?_
   refine pk 7 12 255 ?_
   refine pk 8 13 511 ?_
   refine tk 9 14 1023 hHeld ?_
   refine cl3 10 15 2047 Try.func25 (spec_l8None.calls _ _ _ A3.out) K1 K2 K3 HB fun w8 K1 K2 K3 HB hHeld => ?_
   refine pk 11 16 4095 ?_
   refine pk 12 17 8191 ?_
   refine pk 13 18 16383 ?_
   refine uk 14 19 32767 ?_
   refine uk 15 20 65535 ?_
   refine uk 16 21 131071 ?_
   refine pk 17 22 262143 ?_
   refine done_ (done_of HT_.out (by kernel_rfl)) ?_
   try go_wp2
   go_meet
   case rel => exact ⟨_, (true), ey, H', le0, ⟨Z K1⟩, ⟨Z K2⟩, ⟨Z K3⟩, ⟨YA HB⟩⟩
  rw [if_neg c3] at H
  have d1 : (a0_0 == t3 && (a0_1 == t4)) = false := by simpa using c3
  (try (have d2 : decide (a0_0 = t3 && (a0_1 == t4)) = false := by simpa using c3))
  (try (have d3 : (a0_0 == t3 && (a0_1 == t4)) = false := by simpa using c3))
  (try (have d4 : ¬ (a0_0 = t3 && (a0_1 == t4)) := by simpa using c3))
  clear c3
  (first | rw [d1] | (simp only [i64_w, i32_w]; rw [d1]) | skip)
  obtain ⟨⟨t5, t6⟩, A4, H⟩ := bd H
  try dsimp only at H
  have H' := am H
  clear H
  try go_wp2
  obtain ⟨K1, K2, K3, HB⟩ := dk3 K1 K2 K3 HB
  refine start_ (n := 18) (S := fun w' => w'.cell? ⟨g1, 0, none⟩ = some (.int .i64 a0_0) ∧ w'.cell? ⟨g1, 1, none⟩ = some (.int .i64 a0_1) ∧ w'.cell? ⟨g2, 0, none⟩ = some (.int .i64 a1_0) ∧ w'.cell? ⟨g2, 1, none⟩ = some (.int .i64 a1_1)) (ds := []) (lb 18 0) (by kernel_rfl) rfl rfl ⟨bc K1 0, bc K1 1, bc K2 0, bc K2 1⟩ (fun hHeld => ?_); refine with_tabW spec_RangeMeet.tab1 spec_RangeMeet.bits1 (fun HT_ HW_ => ?_)
  generalize w4.drew = w5 at K1 K2 K3 HB hHeld ⊢
  refine tk 0 5 1 hHeld ?_
  refine cl3 1 6 3 Try.func23 (spec_RangeOk.calls _ _ _ _ A1.out) K1 K2 K3 HB fun w6 K1 K2 K3 HB hHeld => ?_
  refine pk 2 7 7 ?_
  refine pk 3 8 15 ?_
  refine tk 4 9 31 hHeld ?_
  refine cl3 5 10 63 Try.func23 (spec_RangeOk.calls _ _ _ _ A2.out) K1 K2 K3 HB fun w7 K1 K2 K3 HB hHeld => ?_
  refine pk 6 11 127 ?_
  refine pk 7 12 255 ?_
  refine pk 8 13 511 ?_
  refine tk 9 14 1023 hHeld ?_
  refine cl3 10 15 2047 Try.func25 (spec_l8None.calls _ _ _ A3.out) K1 K2 K3 HB fun w8 K1 K2 K3 HB hHeld => ?_
  refine pk 11 16 4095 ?_
  refine pk 12 17 8191 ?_
  refine pk 13 18 16383 ?_
  refine tk 14 19 32767 hHeld ?_
  refine cl3 15 20 65535 Try.func25 (spec_l8None.calls _ _ _ A4.out) K1 K2 K3 HB fun w9 K1 K2 K3 HB hHeld => ?_
  refine pk 16 21 131071 ?_
  refine pk 17 22 262143 ?_
  refine done_ (done_of HT_.out (by kernel_rfl)) ?_
  try go_wp2
  go_meet
  case rel => exact ⟨_, ((a1_0 == t5 && (a1_1 == t6))), ey, H', le0, ⟨Z K1⟩, ⟨Z K2⟩, ⟨Z K3⟩, ⟨YA HB⟩⟩
 case rest =>
  clear C1
  obtain ⟨kq, x1, rfl, HA, J1, K1, K2, K3, HB⟩ := hcut
  cases kq with
  | zero => exact absurd HA.out (by simp [spec_RangeMeet.j0])
  | succ k1 =>
   have H := HA.out
   clear HA
   simp only [spec_RangeMeet.j0] at H
   by_cases c1 : x1 = true
   ·subst c1
    rw [if_pos rfl] at H
    obtain ⟨⟨t3, t4⟩, A1, H⟩ := bd H
    try dsimp only at H
    simp only [Option.some.injEq, Prod.mk.injEq] at H
    obtain ⟨rfl, rfl⟩ := H
    go_wp2_with (first | ((with_reducible refine gate_callee (f := 25) rfl ?_); refine gL 23 Try.func25 (spec_l8None.calls _ _ _ A1.out) fun w5 hb => ?_; obtain ⟨K1, K2, K3, HB⟩ := bk3 K1 K2 K3 HB hb; (try clear hb); have z_ := ns2 N4 N6; have z_ := cB2 K3))
    refine bodyPost_ret (results_cell_row rfl _ _ g3 33 #[.int .i64 t3, .int .i64 t4] (0, 0) _ rfl (by refine pf ?_; refine blk_put (cs := #[.int .i64 t3, .int .i64 0]) ?_ 1 _ rfl; refine pf ?_; refine blk_put (cs := #[.int .i64 0, .int .i64 0]) ?_ 0 _ rfl; exact Z K3) Try.underlying33 rfl (by kernel_rfl)) rfl ?_
    exact ⟨ez, YA HB⟩
   replace c1 := Bool.eq_false_iff.mpr c1
   subst c1
   rw [if_neg ff] at H
   obtain ⟨t3, A1, H⟩ := bd H
   try dsimp only at H
   obtain ⟨t4, A2, H⟩ := bd H
   try dsimp only at H
   obtain ⟨⟨t5, t6⟩, A3, H⟩ := bd H
   try dsimp only at H
   simp only [Option.some.injEq, Prod.mk.injEq] at H
   obtain ⟨rfl, rfl⟩ := H
   try go_wp2
   obtain ⟨K1, K2, K3, HB⟩ := dk3 K1 K2 K3 HB
   refine start_ (n := 12) (S := fun w' => w'.cell? ⟨g1, 0, none⟩ = some (.int .i64 a0_0) ∧ w'.cell? ⟨g1, 1, none⟩ = some (.int .i64 a0_1) ∧ w'.cell? ⟨g2, 0, none⟩ = some (.int .i64 a1_0) ∧ w'.cell? ⟨g2, 1, none⟩ = some (.int .i64 a1_1)) (ds := []) (lb 12 0) (by kernel_rfl) rfl rfl ⟨bc K1 0, bc K1 1, bc K2 0, bc K2 1⟩ (fun hHeld => ?_); refine with_tabW spec_RangeMeet.tab3 spec_RangeMeet.bits3 (fun HT_ HW_ => ?_)
   generalize wc.drew = w5 at K1 K2 K3 HB hHeld ⊢
   refine pk 0 24 1 ?_
   refine pk 2 26 5 ?_
   refine pk 5 29 37 ?_
   refine pk 7 31 165 ?_
   refine tk 1 25 167 hHeld ?_
   refine tk 3 27 175 hHeld ?_
   refine tk 6 30 239 hHeld ?_
   refine tk 8 32 495 hHeld ?_
   refine on 4 (some 28) 511 fun K hK => ?_
   refine goes_ Try.func30 (by kernel_rfl) rfl #[.int .i64 a0_0, .int .i64 a1_0] (by rfl) rfl rfl mz ?_
   with_reducible refine (spec_l8Max.calls _ _ _ _ A1.out).mono ?_
   rintro e w' ⟨rfl, ⟨nd, rfl⟩⟩
   refine ⟨_, rfl, ?_⟩
   refine kk hK ⟨bc K1 0, bc K1 1, bc K2 0, bc K2 1⟩ fun hHeld => ?_
   clear hK K
   refine on 9 (some 33) 1023 fun K hK => ?_
   refine goes_ Try.func29 (by kernel_rfl) rfl #[.int .i64 a0_1, .int .i64 a1_1] (by rfl) rfl rfl mz ?_
   with_reducible refine (spec_l8Min.calls _ _ _ _ A2.out).mono ?_
   rintro e w' ⟨rfl, ⟨nd, rfl⟩⟩
   refine ⟨_, rfl, ?_⟩
   refine kk hK ⟨bc K1 0, bc K1 1, bc K2 0, bc K2 1⟩ fun hHeld => ?_
   clear hK K
   refine cl3 10 34 2047 Try.func28 (spec_l8Cut.calls _ _ _ _ _ A3.out) K1 K2 K3 HB fun w6 K1 K2 K3 HB hHeld => ?_
   refine on 11 none 4095 fun K hK => ?_
   have s1 : w6.cell? ⟨g3, 0, none⟩ = some (.int .i64 0) := bc K3 0
   have hfs39 := blk_frozen K3.out 0
   have z_ := ns4 N3 N5 N4 N6
   have s2 : w6.cell? ⟨g3, 1, none⟩ = some (.int .i64 0) := bc K3 1
   have hfs40 := blk_frozen K3.out 1
   have z_ := ns4 N3 N5 N4 N6
   refine skip_ (w1 := ?_) (by rfl) rfl ?_ ?_
   rotate_left
   ·go_simp
    rfl
   refine hK.out _ _ ⟨(cf N3 ((cf N3 (hHeld.1)))), (cf N3 ((cf N3 (hHeld.2.1)))), (cf N5 ((cf N5 (hHeld.2.2.1)))), (cf N5 ((cf N5 (hHeld.2.2.2))))⟩ (fun hHeld => ?_)
   clear hK K
   refine done_ (done_of HT_.out (by kernel_rfl)) ?_
   try go_wp2
   refine bodyPost_ret (results_cell_row rfl _ _ g3 33 #[.int .i64 t5, .int .i64 t6] (0, 0) _ rfl (by refine pf ?_; refine blk_put (cs := #[.int .i64 t5, .int .i64 0]) ?_ 1 _ rfl; refine pf ?_; refine blk_put (cs := #[.int .i64 0, .int .i64 0]) ?_ 0 _ rfl; exact Z K3) Try.underlying33 rfl (by kernel_rfl)) rfl ?_
   exact ⟨ez, YA HB⟩
end
section
attribute [local go_sem] max2_int min2_int max_two min_two max_three min_three max_four min_four
attribute [local go_sem] Go.Proofs.YtdmadlfdibiejaaSet.isSome_setCell
def spec_l8Ne.f (a0_0 : Int) (a0_1 : Int) (a1_0 : Int) (a1_1 : Int) : Option (Int × Int) := if a1_0 = a1_1 then (if a0_0 = a1_0 then ((spec_l8Cut.f (wrap64 (a0_0 + 1)) a0_1).bind fun u1 => (some (u1.1, u1.2))) else (if a0_1 = a1_0 then ((spec_l8Cut.f a0_0 (wrap64 (a0_1 - 1))).bind fun u2 => (some (u2.1, u2.2))) else (some (a0_0, a0_1)))) else (some (a0_0, a0_1))
set_option maxHeartbeats 8000000 in
set_option maxRecDepth 100000 in
theorem spec_l8Ne.calls (a0_0 : Int) (a0_1 : Int) (a1_0 : Int) (a1_1 : Int) (r1 : Int) (r2 : Int) (w : World) (h : spec_l8Ne.f a0_0 a0_1 a1_0 a1_1 = some (r1, r2)) :
  Calls Try.prog 27 #[.agg #[.int .i64 a0_0, .int .i64 a0_1], .agg #[.int .i64 a1_0, .int .i64 a1_1]] w fun e w' => e = .returned (.agg #[.int .i64 r1, .int .i64 r2]) ∧ Below w.heap.size w w' := by
 have hu33 := Try.underlying33
 have HB := am (Below.refl w.heap.size w)
 have H : (if a1_0 = a1_1 then (if a0_0 = a1_0 then ((spec_l8Cut.f (wrap64 (a0_0 + 1)) a0_1).bind fun u1 => (some (u1.1, u1.2))) else (if a0_1 = a1_0 then ((spec_l8Cut.f a0_0 (wrap64 (a0_1 - 1))).bind fun u2 => (some (u2.1, u2.2))) else (some (a0_0, a0_1)))) else (some (a0_0, a0_1))) = some (r1, r2) := h
 clear h
 by_cases c1 : a1_0 = a1_1
 rotate_left
 ·rw [if_neg c1] at H
  have d1 := eF c1
  have d2 := nT c1
  simp only [Option.some.injEq, Prod.mk.injEq] at H
  obtain ⟨rfl, rfl⟩ := H
  go_enter Try.func27, Try.ntmps27
  go_wp2_with (first | ((with_reducible refine gate_dst (N := 2) rfl ?_); refine bxn 2 #[.int .i64 a0_0, .int .i64 a0_1] 33 HB fun g1 w1 K1 G1 hg hb => ?_; replace HB := am (below_step (YA HB) hb); clear hb hg) | ((with_reducible refine gate_dst (N := 3) rfl ?_); refine bxn 3 #[.int .i64 a1_0, .int .i64 a1_1] 33 HB fun g2 w2 K2 G2 hg hb => ?_; obtain ⟨N1,N2⟩ := ne_ hg K1; obtain ⟨K1, HB⟩ := bk1 K1 HB hb; clear hb hg) | ((with_reducible refine gate_dst (N := 4) rfl ?_); refine bxn 4 #[.int .i64 0, .int .i64 0] 33 HB fun g3 w3 K3 G3 hg hb => ?_; obtain ⟨N3,N4⟩ := ne_ hg K1; obtain ⟨N5,N6⟩ := ne_ hg K2; obtain ⟨K1, K2, HB⟩ := bk2 K1 K2 HB hb; clear hb hg; have z_ := ns3 N2 N5 N3; have z_ := cB2 K2; have z_ := cB2 K1; have z_ := cB2 K3))
  refine bodyPost_ret (results_cell_row rfl _ _ g3 33 #[.int .i64 a0_0, .int .i64 a0_1] (0, 0) _ rfl (by refine pf ?_; refine blk_put (cs := #[.int .i64 a0_0, .int .i64 0]) ?_ 1 _ rfl; refine pf ?_; refine blk_put (cs := #[.int .i64 0, .int .i64 0]) ?_ 0 _ rfl; exact Z K3) Try.underlying33 rfl (by kernel_rfl)) rfl ?_
  exact ⟨ez, YA HB⟩
 rw [if_pos c1] at H
 have d1 := eT c1
 have d2 := nF c1
 clear c1
 by_cases c2 : a0_0 = a1_0
 ·rw [if_pos c2] at H
  have d3 := eT c2
  have d4 := nF c2
  clear c2
  obtain ⟨⟨t1, t2⟩, A1, H⟩ := bd H
  try dsimp only at H
  simp only [Option.some.injEq, Prod.mk.injEq] at H
  obtain ⟨rfl, rfl⟩ := H
  go_enter Try.func27, Try.ntmps27
  go_wp2_with (first | ((with_reducible refine gate_dst (N := 2) rfl ?_); refine bxn 2 #[.int .i64 a0_0, .int .i64 a0_1] 33 HB fun g1 w1 K1 G1 hg hb => ?_; replace HB := am (below_step (YA HB) hb); clear hb hg) | ((with_reducible refine gate_dst (N := 3) rfl ?_); refine bxn 3 #[.int .i64 a1_0, .int .i64 a1_1] 33 HB fun g2 w2 K2 G2 hg hb => ?_; obtain ⟨N1,N2⟩ := ne_ hg K1; obtain ⟨K1, HB⟩ := bk1 K1 HB hb; clear hb hg) | ((with_reducible refine gate_dst (N := 4) rfl ?_); refine bxn 4 #[.int .i64 0, .int .i64 0] 33 HB fun g3 w3 K3 G3 hg hb => ?_; obtain ⟨N3,N4⟩ := ne_ hg K1; obtain ⟨N5,N6⟩ := ne_ hg K2; obtain ⟨K1, K2, HB⟩ := bk2 K1 K2 HB hb; clear hb hg; have z_ := ns3 N2 N5 N3; have z_ := cB2 K2; have z_ := cB2 K1) | ((with_reducible refine gate_callee (f := 28) rfl ?_); refine gL 21 Try.func28 (spec_l8Cut.calls _ _ _ _ _ A1.out) fun w4 hb => ?_; obtain ⟨K1, K2, K3, HB⟩ := bk3 K1 K2 K3 HB hb; (try clear hb); have z_ := cB2 K3))
  refine bodyPost_ret (results_cell_row rfl _ _ g3 33 #[.int .i64 t1, .int .i64 t2] (0, 0) _ rfl (by refine pf ?_; refine blk_put (cs := #[.int .i64 t1, .int .i64 0]) ?_ 1 _ rfl; refine pf ?_; refine blk_put (cs := #[.int .i64 0, .int .i64 0]) ?_ 0 _ rfl; exact Z K3) Try.underlying33 rfl (by kernel_rfl)) rfl ?_
  exact ⟨ez, YA HB⟩
 rw [if_neg c2] at H
 have d3 := eF c2
 have d4 := nT c2
 by_cases c3 : a0_1 = a1_0
 rotate_left
 ·rw [if_neg c3] at H
  have d5 := eF c3
  have d6 := nT c3
  simp only [Option.some.injEq, Prod.mk.injEq] at H
  obtain ⟨rfl, rfl⟩ := H
  go_enter Try.func27, Try.ntmps27
  go_wp2_with (first | ((with_reducible refine gate_dst (N := 2) rfl ?_); refine bxn 2 #[.int .i64 a0_0, .int .i64 a0_1] 33 HB fun g1 w1 K1 G1 hg hb => ?_; replace HB := am (below_step (YA HB) hb); clear hb hg) | ((with_reducible refine gate_dst (N := 3) rfl ?_); refine bxn 3 #[.int .i64 a1_0, .int .i64 a1_1] 33 HB fun g2 w2 K2 G2 hg hb => ?_; obtain ⟨N1,N2⟩ := ne_ hg K1; obtain ⟨K1, HB⟩ := bk1 K1 HB hb; clear hb hg) | ((with_reducible refine gate_dst (N := 4) rfl ?_); refine bxn 4 #[.int .i64 0, .int .i64 0] 33 HB fun g3 w3 K3 G3 hg hb => ?_; obtain ⟨N3,N4⟩ := ne_ hg K1; obtain ⟨N5,N6⟩ := ne_ hg K2; obtain ⟨K1, K2, HB⟩ := bk2 K1 K2 HB hb; clear hb hg; have z_ := ns3 N2 N5 N3; have z_ := cB2 K2; have z_ := cB2 K1; have z_ := cB2 K3))
  refine bodyPost_ret (results_cell_row rfl _ _ g3 33 #[.int .i64 a0_0, .int .i64 a0_1] (0, 0) _ rfl (by refine pf ?_; refine blk_put (cs := #[.int .i64 a0_0, .int .i64 0]) ?_ 1 _ rfl; refine pf ?_; refine blk_put (cs := #[.int .i64 0, .int .i64 0]) ?_ 0 _ rfl; exact Z K3) Try.underlying33 rfl (by kernel_rfl)) rfl ?_
  exact ⟨ez, YA HB⟩
 rw [if_pos c3] at H
 have d5 := eT c3
 have d6 := nF c3
 clear c3
 obtain ⟨⟨t1, t2⟩, A1, H⟩ := bd H
 try dsimp only at H
 simp only [Option.some.injEq, Prod.mk.injEq] at H
 obtain ⟨rfl, rfl⟩ := H
 go_enter Try.func27, Try.ntmps27
 go_wp2_with (first | ((with_reducible refine gate_dst (N := 2) rfl ?_); refine bxn 2 #[.int .i64 a0_0, .int .i64 a0_1] 33 HB fun g1 w1 K1 G1 hg hb => ?_; replace HB := am (below_step (YA HB) hb); clear hb hg) | ((with_reducible refine gate_dst (N := 3) rfl ?_); refine bxn 3 #[.int .i64 a1_0, .int .i64 a1_1] 33 HB fun g2 w2 K2 G2 hg hb => ?_; obtain ⟨N1,N2⟩ := ne_ hg K1; obtain ⟨K1, HB⟩ := bk1 K1 HB hb; clear hb hg) | ((with_reducible refine gate_dst (N := 4) rfl ?_); refine bxn 4 #[.int .i64 0, .int .i64 0] 33 HB fun g3 w3 K3 G3 hg hb => ?_; obtain ⟨N3,N4⟩ := ne_ hg K1; obtain ⟨N5,N6⟩ := ne_ hg K2; obtain ⟨K1, K2, HB⟩ := bk2 K1 K2 HB hb; clear hb hg; have z_ := ns3 N2 N5 N3; have z_ := cB2 K2; have z_ := cB2 K1) | ((with_reducible refine gate_callee (f := 28) rfl ?_); refine gL 32 Try.func28 (spec_l8Cut.calls _ _ _ _ _ A1.out) fun w4 hb => ?_; obtain ⟨K1, K2, K3, HB⟩ := bk3 K1 K2 K3 HB hb; (try clear hb); have z_ := cB2 K3))
 refine bodyPost_ret (results_cell_row rfl _ _ g3 33 #[.int .i64 t1, .int .i64 t2] (0, 0) _ rfl (by refine pf ?_; refine blk_put (cs := #[.int .i64 t1, .int .i64 0]) ?_ 1 _ rfl; refine pf ?_; refine blk_put (cs := #[.int .i64 0, .int .i64 0]) ?_ 0 _ rfl; exact Z K3) Try.underlying33 rfl (by kernel_rfl)) rfl ?_
 exact ⟨ez, YA HB⟩

def spec_CmpTurn.f (a0 : Int) : Option (Int) := if a0 = 3 then (some 5) else (if a0 = 4 then (some 6) else (if a0 = 5 then (some 3) else (if a0 = 6 then (some 4) else (if a0 = 1 then (some a0) else (if a0 = 2 then (some a0) else (some 0))))))
set_option maxHeartbeats 8000000 in
set_option maxRecDepth 100000 in
theorem spec_CmpTurn.calls (a0 : Int) (r : Int) (w : World) (h : spec_CmpTurn.f a0 = some r) :
  Calls Try.prog 31 #[.int .i64 a0] w fun e w' => e = .returned (.int .i64 r) ∧ Drawn0 w w' := by
 have H : (if a0 = 3 then (some 5) else (if a0 = 4 then (some 6) else (if a0 = 5 then (some 3) else (if a0 = 6 then (some 4) else (if a0 = 1 then (some a0) else (if a0 = 2 then (some a0) else (some 0))))))) = some r := h
 clear h
 by_cases c1 : a0 = 3
 ·rw [if_pos c1] at H
  have d1 := eT c1
  have d2 := nF c1
  clear c1
  obtain rfl := Option.some.inj H
  go_enter Try.func31, Try.ntmps31
  go_wp2
  go_ret
  exact ⟨by first | rfl | (simp; done) | (simp [*]; done), by repeat (first | exact Drawn0.refl _ | apply Drawn0.step)⟩
 rw [if_neg c1] at H
 have d1 := eF c1
 have d2 := nT c1
 by_cases c2 : a0 = 4
 ·rw [if_pos c2] at H
  have d3 := eT c2
  have d4 := nF c2
  clear c2
  obtain rfl := Option.some.inj H
  go_enter Try.func31, Try.ntmps31
  go_wp2
  go_ret
  exact ⟨by first | rfl | (simp; done) | (simp [*]; done), by repeat (first | exact Drawn0.refl _ | apply Drawn0.step)⟩
 rw [if_neg c2] at H
 have d3 := eF c2
 have d4 := nT c2
 by_cases c3 : a0 = 5
 ·rw [if_pos c3] at H
  have d5 := eT c3
  have d6 := nF c3
  clear c3
  obtain rfl := Option.some.inj H
  go_enter Try.func31, Try.ntmps31
  go_wp2
  go_ret
  exact ⟨by first | rfl | (simp; done) | (simp [*]; done), by repeat (first | exact Drawn0.refl _ | apply Drawn0.step)⟩
 rw [if_neg c3] at H
 have d5 := eF c3
 have d6 := nT c3
 by_cases c4 : a0 = 6
 ·rw [if_pos c4] at H
  have d7 := eT c4
  have d8 := nF c4
  clear c4
  obtain rfl := Option.some.inj H
  go_enter Try.func31, Try.ntmps31
  go_wp2
  go_ret
  exact ⟨by first | rfl | (simp; done) | (simp [*]; done), by repeat (first | exact Drawn0.refl _ | apply Drawn0.step)⟩
 rw [if_neg c4] at H
 have d7 := eF c4
 have d8 := nT c4
 by_cases c5 : a0 = 1
 ·rw [if_pos c5] at H
  have d9 := eT c5
  have d10 := nF c5
  clear c5
  obtain rfl := Option.some.inj H
  go_enter Try.func31, Try.ntmps31
  go_wp2
  go_ret
  exact ⟨by first | rfl | (simp; done) | (simp [*]; done), by repeat (first | exact Drawn0.refl _ | apply Drawn0.step)⟩
 rw [if_neg c5] at H
 have d9 := eF c5
 have d10 := nT c5
 by_cases c6 : a0 = 2
 rotate_left
 ·rw [if_neg c6] at H
  have d11 := eF c6
  have d12 := nT c6
  obtain rfl := Option.some.inj H
  go_enter Try.func31, Try.ntmps31
  go_wp2
  go_ret
  exact ⟨by first | rfl | (simp; done) | (simp [*]; done), by repeat (first | exact Drawn0.refl _ | apply Drawn0.step)⟩
 rw [if_pos c6] at H
 have d11 := eT c6
 have d12 := nF c6
 clear c6
 obtain rfl := Option.some.inj H
 go_enter Try.func31, Try.ntmps31
 go_wp2
 go_ret
 exact ⟨by first | rfl | (simp; done) | (simp [*]; done), by repeat (first | exact Drawn0.refl _ | apply Drawn0.step)⟩
end
end Go.Proofs.Ytdmadlfdibiejaa.PFnExactValCmp
