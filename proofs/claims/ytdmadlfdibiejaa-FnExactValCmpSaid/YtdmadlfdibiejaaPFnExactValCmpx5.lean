/- Written by this session's own driver (wip/dprint.py): the functions that the law FnExactValCmp reaches, as Lean functions, each with its contract. -/
import Derived.Test.YtdmadlfdibiejaaPFnExactValCmpx0
import Derived.Test.YtdmadlfdibiejaaPFnExactValCmpx1
import Derived.Test.YtdmadlfdibiejaaSv
namespace Go.Proofs.Ytdmadlfdibiejaa.PFnExactValCmp
open Go.RowKit Go.Proofs.YtdmadlfdibiejaaV.PrintWords Go.Proofs.YtdmadlfdibiejaaV.PrintLast Go.Proofs.YtdmadlfdibiejaaV.PrintMore Go.Proofs.YtdmadlfdibiejaaSv
set_option linter.unusedVariables false
set_option linter.unusedSimpArgs false
section
attribute [local go_sem] max2_int min2_int max_two min_two max_three min_three max_four min_four
attribute [local go_sem high] eqA33
attribute [local go_sem] Go.Proofs.YtdmadlfdibiejaaSet.isSome_setCell
def laws_toVal.f (a0_0 : Int) (a0_1 : Int) (a0_2 : Int) (a0_3 : Int) : Option (Int × Int × Int × Int) := some (a0_0, a0_1, a0_2, a0_3)
set_option maxHeartbeats 8000000 in
set_option maxRecDepth 100000 in
theorem laws_toVal.calls (a0_0 : Int) (a0_1 : Int) (a0_2 : Int) (a0_3 : Int) (r1 : Int) (r2 : Int) (r3 : Int) (r4 : Int) (w : World) (h : laws_toVal.f a0_0 a0_1 a0_2 a0_3 = some (r1, r2, r3, r4)) :
  Calls Try.prog 5 #[.agg #[.int .i64 a0_0, .int .i64 a0_1, .int .i64 a0_2, .int .i64 a0_3]] w fun e w' => e = .returned (.agg #[.int .i64 r1, .int .i64 r2, .int .i64 r3, .int .i64 r4]) ∧ Below w.heap.size w w' := by
 have hu23 := Try.underlying23
 have hu24 := Try.underlying24
 have HB := am (Below.refl w.heap.size w)
 have H : (some (a0_0, a0_1, a0_2, a0_3)) = some (r1, r2, r3, r4) := h
 clear h
 simp only [Option.some.injEq, Prod.mk.injEq] at H
 obtain ⟨rfl, rfl, rfl, rfl⟩ := H
 go_enter Try.func5, Try.ntmps5
 go_wp2_with (first | ((with_reducible refine gate_dst (N := 1) rfl ?_); refine bxn 1 #[.int .i64 a0_0, .int .i64 a0_1, .int .i64 a0_2, .int .i64 a0_3] 23 HB fun g1 w1 K1 G1 hg hb => ?_; replace HB := am (below_step (YA HB) hb); clear hb hg) | ((with_reducible refine gate_dst (N := 2) rfl ?_); refine bxn 2 #[.int .i64 0, .int .i64 0, .int .i64 0, .int .i64 0] 24 HB fun g2 w2 K2 G2 hg hb => ?_; obtain ⟨N1,N2⟩ := ne_ hg K1; obtain ⟨K1, HB⟩ := bk1 K1 HB hb; clear hb hg) | ((with_reducible refine gate_dst (N := 3) rfl ?_); refine bxn 3 #[.int .i64 0, .int .i64 0, .int .i64 0, .int .i64 0] 24 HB fun g3 w3 K3 G3 hg hb => ?_; obtain ⟨N3,N4⟩ := ne_ hg K1; obtain ⟨N5,N6⟩ := ne_ hg K2; obtain ⟨K1, K2, HB⟩ := bk2 K1 K2 HB hb; clear hb hg; have z_ := ns3 N1 N3 N6; have z_ := cB4 K1; have z_ := cB4 K3; have z_ := cB4 K2))
 refine bodyPost_ret (results_cell_row rfl _ _ g2 24 #[.int .i64 a0_0, .int .i64 a0_1, .int .i64 a0_2, .int .i64 a0_3] (0, 0) _ rfl (by refine pf ?_; refine blk_put (cs := #[.int .i64 a0_0, .int .i64 a0_1, .int .i64 a0_2, .int .i64 0]) ?_ 3 _ rfl; refine pf ?_; refine blk_put (cs := #[.int .i64 a0_0, .int .i64 a0_1, .int .i64 0, .int .i64 0]) ?_ 2 _ rfl; refine pf ?_; refine blk_put (cs := #[.int .i64 a0_0, .int .i64 0, .int .i64 0, .int .i64 0]) ?_ 1 _ rfl; refine pf ?_; refine blk_put (cs := #[.int .i64 0, .int .i64 0, .int .i64 0, .int .i64 0]) ?_ 0 _ rfl; refine fa N5 ?_; refine fa N5 ?_; refine fa N5 ?_; refine fa N5 ?_; exact Z K2) Try.underlying24 rfl (by kernel_rfl)) rfl ?_
 exact ⟨ez, YA HB⟩

def impl_Val_span.f (a0_0 : Int) (a0_1 : Int) (a0_2 : Int) (a0_3 : Int) : Option (Int × Int) := some (a0_0, a0_1)
set_option maxHeartbeats 8000000 in
set_option maxRecDepth 100000 in
theorem impl_Val_span.calls (a0_0 : Int) (a0_1 : Int) (a0_2 : Int) (a0_3 : Int) (r1 : Int) (r2 : Int) (w : World) (h : impl_Val_span.f a0_0 a0_1 a0_2 a0_3 = some (r1, r2)) :
  Calls Try.prog 19 #[.agg #[.int .i64 a0_0, .int .i64 a0_1, .int .i64 a0_2, .int .i64 a0_3]] w fun e w' => e = .returned (.agg #[.int .i64 r1, .int .i64 r2]) ∧ Below w.heap.size w w' := by
 have hu24 := Try.underlying24
 have hu33 := Try.underlying33
 have HB := am (Below.refl w.heap.size w)
 have H : (some (a0_0, a0_1)) = some (r1, r2) := h
 clear h
 simp only [Option.some.injEq, Prod.mk.injEq] at H
 obtain ⟨rfl, rfl⟩ := H
 go_enter Try.func19, Try.ntmps19
 go_wp2_with (first | ((with_reducible refine gate_dst (N := 1) rfl ?_); refine bxn 1 #[.int .i64 a0_0, .int .i64 a0_1, .int .i64 a0_2, .int .i64 a0_3] 24 HB fun g1 w1 K1 G1 hg hb => ?_; replace HB := am (below_step (YA HB) hb); clear hb hg) | ((with_reducible refine gate_dst (N := 2) rfl ?_); refine bxn 2 #[.int .i64 0, .int .i64 0] 33 HB fun g2 w2 K2 G2 hg hb => ?_; obtain ⟨N1,N2⟩ := ne_ hg K1; obtain ⟨K1, HB⟩ := bk1 K1 HB hb; clear hb hg; have z_ := ns1 N1; have z_ := cB4 K1; have z_ := cB2 K2))
 refine bodyPost_ret (results_cell_row rfl _ _ g2 33 #[.int .i64 a0_0, .int .i64 a0_1] (0, 0) _ rfl (by refine pf ?_; refine blk_put (cs := #[.int .i64 a0_0, .int .i64 0]) ?_ 1 _ rfl; refine pf ?_; refine blk_put (cs := #[.int .i64 0, .int .i64 0]) ?_ 0 _ rfl; exact Z K2) Try.underlying33 rfl (by kernel_rfl)) rfl ?_
 exact ⟨ez, YA HB⟩

def impl_valNone.f  : Option (Int × Int × Int × Int) := some (1, 0, 0, 0)
set_option maxHeartbeats 8000000 in
set_option maxRecDepth 100000 in
theorem impl_valNone.calls  (r1 : Int) (r2 : Int) (r3 : Int) (r4 : Int) (w : World) (h : impl_valNone.f  = some (r1, r2, r3, r4)) :
  Calls Try.prog 17 #[] w fun e w' => e = .returned (.agg #[.int .i64 r1, .int .i64 r2, .int .i64 r3, .int .i64 r4]) ∧ Below w.heap.size w w' := by
 have hu24 := Try.underlying24
 have HB := am (Below.refl w.heap.size w)
 have H : (some (1, 0, 0, 0)) = some (r1, r2, r3, r4) := h
 clear h
 simp only [Option.some.injEq, Prod.mk.injEq] at H
 obtain ⟨rfl, rfl, rfl, rfl⟩ := H
 go_enter Try.func17, Try.ntmps17
 go_wp2_with (first | ((with_reducible refine gate_dst (N := 0) rfl ?_); refine bxn 0 #[.int .i64 0, .int .i64 0, .int .i64 0, .int .i64 0] 24 HB fun g1 w1 K1 G1 hg hb => ?_; replace HB := am (below_step (YA HB) hb); clear hb hg; have z_ := cB4 K1))
 refine bodyPost_ret (results_cell_row rfl _ _ g1 24 #[.int .i64 1, .int .i64 0, .int .i64 0, .int .i64 0] (0, 0) _ rfl (by refine pf ?_; refine blk_put (cs := #[.int .i64 1, .int .i64 0, .int .i64 0, .int .i64 0]) ?_ 3 _ rfl; refine pf ?_; refine blk_put (cs := #[.int .i64 1, .int .i64 0, .int .i64 0, .int .i64 0]) ?_ 2 _ rfl; refine pf ?_; refine blk_put (cs := #[.int .i64 1, .int .i64 0, .int .i64 0, .int .i64 0]) ?_ 1 _ rfl; refine pf ?_; refine blk_put (cs := #[.int .i64 0, .int .i64 0, .int .i64 0, .int .i64 0]) ?_ 0 _ rfl; exact Z K1) Try.underlying24 rfl (by kernel_rfl)) rfl ?_
 exact ⟨ez, YA HB⟩

def impl_rangeNone.f  : Option (Int × Int) := some (1, 0)
set_option maxHeartbeats 8000000 in
set_option maxRecDepth 100000 in
theorem impl_rangeNone.calls  (r1 : Int) (r2 : Int) (w : World) (h : impl_rangeNone.f  = some (r1, r2)) :
  Calls Try.prog 38 #[] w fun e w' => e = .returned (.agg #[.int .i64 r1, .int .i64 r2]) ∧ Below w.heap.size w w' := by
 have hu33 := Try.underlying33
 have HB := am (Below.refl w.heap.size w)
 have H : (some (1, 0)) = some (r1, r2) := h
 clear h
 simp only [Option.some.injEq, Prod.mk.injEq] at H
 obtain ⟨rfl, rfl⟩ := H
 go_enter Try.func38, Try.ntmps38
 go_wp2_with (first | ((with_reducible refine gate_dst (N := 0) rfl ?_); refine bxn 0 #[.int .i64 0, .int .i64 0] 33 HB fun g1 w1 K1 G1 hg hb => ?_; replace HB := am (below_step (YA HB) hb); clear hb hg; have z_ := cB2 K1))
 refine bodyPost_ret (results_cell_row rfl _ _ g1 33 #[.int .i64 1, .int .i64 0] (0, 0) _ rfl (by refine pf ?_; refine blk_put (cs := #[.int .i64 1, .int .i64 0]) ?_ 1 _ rfl; refine pf ?_; refine blk_put (cs := #[.int .i64 0, .int .i64 0]) ?_ 0 _ rfl; exact Z K1) Try.underlying33 rfl (by kernel_rfl)) rfl ?_
 exact ⟨ez, YA HB⟩

def impl_NumOk.f (a0 : Int) : Option (Bool) := if a0 ≥ (-2147483648) then (some (decide (a0 ≤ 2147483647))) else (some false)
set_option maxHeartbeats 8000000 in
set_option maxRecDepth 100000 in
theorem impl_NumOk.calls (a0 : Int) (r : Bool) (w : World) (h : impl_NumOk.f a0 = some r) :
  Calls Try.prog 52 #[.int .i64 a0] w fun e w' => e = .returned (.bool r) ∧ Drawn0 w w' := by
 have H : (if a0 ≥ (-2147483648) then (some (decide (a0 ≤ 2147483647))) else (some false)) = some r := h
 clear h
 by_cases c1 : a0 ≥ (-2147483648)
 ·rw [if_pos c1] at H
  have d1 := dT c1
  clear c1
  obtain rfl := Option.some.inj H
  go_enter Try.func52, Try.ntmps52
  go_wp2
  go_ret
  exact ⟨by first | rfl | (simp; done) | (simp [*]; done), by repeat (first | exact Drawn0.refl _ | apply Drawn0.step)⟩
 rw [if_neg c1] at H
 have d1 := dF c1
 clear c1
 obtain rfl := Option.some.inj H
 go_enter Try.func52, Try.ntmps52
 go_wp2
 go_ret
 exact ⟨by first | rfl | (simp; done) | (simp [*]; done), by repeat (first | exact Drawn0.refl _ | apply Drawn0.step)⟩

def impl_RangeOk.f (a0_0 : Int) (a0_1 : Int) : Option (Bool) := (impl_rangeNone.f).bind fun u1 => (if (a0_0 == u1.1 && (a0_1 == u1.2)) = true then (some true) else ((impl_NumOk.f a0_0).bind fun t1 => (if t1 = true then ((impl_NumOk.f a0_1).bind fun t2 => (if t2 = true then (some (decide (a0_0 ≤ a0_1))) else (some false))) else (some false))))
def impl_RangeOk.T1 : Bool × List (List Nat × List Nat) := (true, [([], []), ([], []), ([0, 1], [0, 1]), ([2, 1], [2]), ([3], [3]), ([4, 3], [3, 4]), ([5, 3, 3], [3, 5]), ([6, 6, 3], [3, 6]), ([7], [7]), ([8, 7], [7, 8]), ([9, 7, 7], [7, 9]), ([7, 10, 3], [3, 7, 10]), ([11, 10, 3], [3, 11]), ([12], [12]), ([13, 12], [12, 13]), ([12], [12]), ([15, 12], [12, 15]), ([14, 16, 12], [12, 14, 16]), ([12, 17, 3], [3, 12, 17]), ([3, 18], [3, 18]), ([19, 12, 0, 1, 2, 3, 4, 5, 6, 7, 8, 9, 10, 11, 12, 13, 14, 15, 16, 17, 18, 19], [19])])
def impl_RangeOk.B1 : List Nat := [0, 0, 3, 7, 15, 31, 63, 127, 255, 511, 1023, 2047, 4095, 8191, 16383, 8191, 40959, 131071, 262143, 524287, 1048575]
theorem impl_RangeOk.tab1 : rtab .any (opsOf Try.f36 1) = impl_RangeOk.T1 := by kernel_rfl
theorem impl_RangeOk.bits1 : waitsOk impl_RangeOk.T1.2 impl_RangeOk.B1 = true := by kernel_rfl
set_option maxHeartbeats 8000000 in
set_option maxRecDepth 100000 in
theorem impl_RangeOk.calls (a0_0 : Int) (a0_1 : Int) (r : Bool) (w : World) (h : impl_RangeOk.f a0_0 a0_1 = some r) :
  Calls Try.prog 36 #[.agg #[.int .i64 a0_0, .int .i64 a0_1]] w fun e w' => e = .returned (.bool r) ∧ Below w.heap.size w w' := by
 have hu33 := Try.underlying33
 have HB := am (Below.refl w.heap.size w)
 have H : ((impl_rangeNone.f).bind fun u1 => (if (a0_0 == u1.1 && (a0_1 == u1.2)) = true then (some true) else ((impl_NumOk.f a0_0).bind fun t1 => (if t1 = true then ((impl_NumOk.f a0_1).bind fun t2 => (if t2 = true then (some (decide (a0_0 ≤ a0_1))) else (some false))) else (some false))))) = some r := h
 clear h
 obtain ⟨⟨t3, t4⟩, A1, H⟩ := bd H
 try dsimp only at H
 by_cases c1 : (a0_0 == t3 && (a0_1 == t4)) = true
 ·rw [if_pos c1] at H
  have d1 : (a0_0 == t3 && (a0_1 == t4)) = true := c1
  (try (have d2 : decide (a0_0 = t3 && (a0_1 == t4)) = true := by simpa using c1))
  (try (have d3 : (a0_0 == t3 && (a0_1 == t4)) = true := by simpa using c1))
  clear c1
  obtain rfl := Option.some.inj H
  go_enter Try.func36, Try.ntmps36
  try go_wp2_with (first | ((with_reducible refine gate_dst (N := 1) rfl ?_); refine bxn 1 #[.int .i64 a0_0, .int .i64 a0_1] 33 HB fun g1 w1 K1 G1 hg hb => ?_; replace HB := am (below_step (YA HB) hb); clear hb hg))
  obtain ⟨K1, HB⟩ := dk1 K1 HB
  refine start_ (n := 21) (S := fun w' => ce2 w' g1 a0_0 a0_1) (ds := []) (lb 21 0) (by kernel_rfl) rfl rfl (cc2 K1) (fun hHeld => ?_); refine with_tabW impl_RangeOk.tab1 impl_RangeOk.bits1 (fun HT_ HW_ => ?_)
  generalize w1.drew = w2 at K1 HB hHeld ⊢
  refine tk 0 3 1 hHeld ?_
  refine cl1 1 4 3 Try.func38 (impl_rangeNone.calls _ _ _ A1.out) K1 HB fun w3 K1 HB hHeld => ?_
  refine pk 2 5 7 ?_
  refine pk 3 6 15 ?_
  refine uk 4 7 31 ?_
  refine uk 5 8 63 ?_
  refine uk 6 9 127 ?_
  refine uk 7 10 255 ?_
  refine uk 8 11 511 ?_
  refine uk 9 12 1023 ?_
  refine uk 10 13 2047 ?_
  refine uk 11 14 4095 ?_
  refine uk 12 15 8191 ?_
  refine uk 13 16 16383 ?_
  refine uk 14 17 32767 ?_
  refine uk 15 18 65535 ?_
  refine uk 16 19 131071 ?_
  refine uk 17 20 262143 ?_
  refine uk 18 21 524287 ?_
  refine pk 19 22 1048575 ?_
  refine pk 20 2 2097151 ?_
  refine done_ (done_of HT_.out (by kernel_rfl)) ?_
  try go_wp2
  go_ret
  exact ⟨ez, YA HB⟩
 rw [if_neg c1] at H
 have d1 : (a0_0 == t3 && (a0_1 == t4)) = false := by simpa using c1
 (try (have d2 : decide (a0_0 = t3 && (a0_1 == t4)) = false := by simpa using c1))
 (try (have d3 : (a0_0 == t3 && (a0_1 == t4)) = false := by simpa using c1))
 (try (have d4 : ¬ (a0_0 = t3 && (a0_1 == t4)) := by simpa using c1))
 clear c1
 obtain ⟨t1, A2, H⟩ := bd H
 try dsimp only at H
 by_cases c2 : t1 = true
 rotate_left
 ·replace c2 := Bool.eq_false_iff.mpr c2
  subst c2
  rw [if_neg ff] at H
  obtain rfl := Option.some.inj H
  go_enter Try.func36, Try.ntmps36
  try go_wp2_with (first | ((with_reducible refine gate_dst (N := 1) rfl ?_); refine bxn 1 #[.int .i64 a0_0, .int .i64 a0_1] 33 HB fun g1 w1 K1 G1 hg hb => ?_; replace HB := am (below_step (YA HB) hb); clear hb hg))
  obtain ⟨K1, HB⟩ := dk1 K1 HB
  refine start_ (n := 21) (S := fun w' => ce2 w' g1 a0_0 a0_1) (ds := []) (lb 21 0) (by kernel_rfl) rfl rfl (cc2 K1) (fun hHeld => ?_); refine with_tabW impl_RangeOk.tab1 impl_RangeOk.bits1 (fun HT_ HW_ => ?_)
  generalize w1.drew = w2 at K1 HB hHeld ⊢
  refine tk 0 3 1 hHeld ?_
  refine cl1 1 4 3 Try.func38 (impl_rangeNone.calls _ _ _ A1.out) K1 HB fun w3 K1 HB hHeld => ?_
  refine pk 2 5 7 ?_
  refine pk 3 6 15 ?_
  refine pk 4 7 31 ?_
  refine tk 5 8 63 hHeld ?_
  refine on 6 (some 9) 127 fun K hK => ?_
  refine goes_ Try.func52 (by kernel_rfl) rfl #[.int .i64 a0_0] (by rfl) rfl rfl mz ?_
  with_reducible refine (impl_NumOk.calls _ _ _ A2.out).mono ?_
  rintro e w' ⟨rfl, ⟨nd, rfl⟩⟩
  refine ⟨_, rfl, ?_⟩
  refine kk hK (cc2 K1) fun hHeld => ?_
  clear hK K
  refine pk 7 10 255 ?_
  refine uk 8 11 511 ?_
  refine uk 9 12 1023 ?_
  refine uk 10 13 2047 ?_
  refine pk 11 14 4095 ?_
  refine pk 12 15 8191 ?_
  refine uk 13 16 16383 ?_
  refine uk 14 17 32767 ?_
  refine uk 15 18 65535 ?_
  refine uk 16 19 131071 ?_
  refine uk 17 20 262143 ?_
  refine pk 18 21 524287 ?_
  refine pk 19 22 1048575 ?_
  refine pk 20 2 2097151 ?_
  refine done_ (done_of HT_.out (by kernel_rfl)) ?_
  try go_wp2
  go_ret
  exact ⟨ez, YA HB⟩
 subst c2
 rw [if_pos rfl] at H
 obtain ⟨t2, A3, H⟩ := bd H
 try dsimp only at H
 by_cases c3 : t2 = true
 rotate_left
 ·replace c3 := Bool.eq_false_iff.mpr c3
  subst c3
  rw [if_neg ff] at H
  obtain rfl := Option.some.inj H
  go_enter Try.func36, Try.ntmps36
  try go_wp2_with (first | ((with_reducible refine gate_dst (N := 1) rfl ?_); refine bxn 1 #[.int .i64 a0_0, .int .i64 a0_1] 33 HB fun g1 w1 K1 G1 hg hb => ?_; replace HB := am (below_step (YA HB) hb); clear hb hg))
  obtain ⟨K1, HB⟩ := dk1 K1 HB
  refine start_ (n := 21) (S := fun w' => ce2 w' g1 a0_0 a0_1) (ds := []) (lb 21 0) (by kernel_rfl) rfl rfl (cc2 K1) (fun hHeld => ?_); refine with_tabW impl_RangeOk.tab1 impl_RangeOk.bits1 (fun HT_ HW_ => ?_)
  generalize w1.drew = w2 at K1 HB hHeld ⊢
  refine tk 0 3 1 hHeld ?_
  refine cl1 1 4 3 Try.func38 (impl_rangeNone.calls _ _ _ A1.out) K1 HB fun w3 K1 HB hHeld => ?_
  refine pk 2 5 7 ?_
  refine pk 3 6 15 ?_
  refine pk 4 7 31 ?_
  refine tk 5 8 63 hHeld ?_
  refine on 6 (some 9) 127 fun K hK => ?_
  refine goes_ Try.func52 (by kernel_rfl) rfl #[.int .i64 a0_0] (by rfl) rfl rfl mz ?_
  with_reducible refine (impl_NumOk.calls _ _ _ A2.out).mono ?_
  rintro e w' ⟨rfl, ⟨nd, rfl⟩⟩
  refine ⟨_, rfl, ?_⟩
  refine kk hK (cc2 K1) fun hHeld => ?_
  clear hK K
  refine pk 7 10 255 ?_
  refine pk 8 11 511 ?_
  refine tk 9 12 1023 hHeld ?_
  refine on 10 (some 13) 2047 fun K hK => ?_
  refine goes_ Try.func52 (by kernel_rfl) rfl #[.int .i64 a0_1] (by rfl) rfl rfl mz ?_
  with_reducible refine (impl_NumOk.calls _ _ _ A3.out).mono ?_
  rintro e w' ⟨rfl, ⟨nd, rfl⟩⟩
  refine ⟨_, rfl, ?_⟩
  refine kk hK (cc2 K1) fun hHeld => ?_
  clear hK K
  refine pk 11 14 4095 ?_
  refine pk 12 15 8191 ?_
  refine uk 13 16 16383 ?_
  refine uk 14 17 32767 ?_
  refine uk 15 18 65535 ?_
  refine uk 16 19 131071 ?_
  refine uk 17 20 262143 ?_
  refine pk 18 21 524287 ?_
  refine pk 19 22 1048575 ?_
  refine pk 20 2 2097151 ?_
  refine done_ (done_of HT_.out (by kernel_rfl)) ?_
  try go_wp2
  go_ret
  exact ⟨ez, YA HB⟩
 subst c3
 rw [if_pos rfl] at H
 obtain rfl := Option.some.inj H
 go_enter Try.func36, Try.ntmps36
 try go_wp2_with (first | ((with_reducible refine gate_dst (N := 1) rfl ?_); refine bxn 1 #[.int .i64 a0_0, .int .i64 a0_1] 33 HB fun g1 w1 K1 G1 hg hb => ?_; replace HB := am (below_step (YA HB) hb); clear hb hg))
 obtain ⟨K1, HB⟩ := dk1 K1 HB
 refine start_ (n := 21) (S := fun w' => ce2 w' g1 a0_0 a0_1) (ds := []) (lb 21 0) (by kernel_rfl) rfl rfl (cc2 K1) (fun hHeld => ?_); refine with_tabW impl_RangeOk.tab1 impl_RangeOk.bits1 (fun HT_ HW_ => ?_)
 generalize w1.drew = w2 at K1 HB hHeld ⊢
 refine tk 0 3 1 hHeld ?_
 refine cl1 1 4 3 Try.func38 (impl_rangeNone.calls _ _ _ A1.out) K1 HB fun w3 K1 HB hHeld => ?_
 refine pk 2 5 7 ?_
 refine pk 3 6 15 ?_
 refine pk 4 7 31 ?_
 refine tk 5 8 63 hHeld ?_
 refine on 6 (some 9) 127 fun K hK => ?_
 refine goes_ Try.func52 (by kernel_rfl) rfl #[.int .i64 a0_0] (by rfl) rfl rfl mz ?_
 with_reducible refine (impl_NumOk.calls _ _ _ A2.out).mono ?_
 rintro e w' ⟨rfl, ⟨nd, rfl⟩⟩
 refine ⟨_, rfl, ?_⟩
 refine kk hK (cc2 K1) fun hHeld => ?_
 clear hK K
 refine pk 7 10 255 ?_
 refine pk 8 11 511 ?_
 refine tk 9 12 1023 hHeld ?_
 refine on 10 (some 13) 2047 fun K hK => ?_
 refine goes_ Try.func52 (by kernel_rfl) rfl #[.int .i64 a0_1] (by rfl) rfl rfl mz ?_
 with_reducible refine (impl_NumOk.calls _ _ _ A3.out).mono ?_
 rintro e w' ⟨rfl, ⟨nd, rfl⟩⟩
 refine ⟨_, rfl, ?_⟩
 refine kk hK (cc2 K1) fun hHeld => ?_
 clear hK K
 refine pk 11 14 4095 ?_
 refine pk 12 15 8191 ?_
 refine pk 13 16 16383 ?_
 refine pk 15 18 49151 ?_
 refine tk 14 17 65535 hHeld ?_
 refine tk 16 19 131071 hHeld ?_
 refine pk 17 20 262143 ?_
 refine pk 18 21 524287 ?_
 refine pk 19 22 1048575 ?_
 refine pk 20 2 2097151 ?_
 refine done_ (done_of HT_.out (by kernel_rfl)) ?_
 try go_wp2
 go_ret
 exact ⟨ez, YA HB⟩

def impl_Range_empty.f (a0_0 : Int) (a0_1 : Int) : Option (Bool) := some (decide (a0_0 > a0_1))
set_option maxHeartbeats 8000000 in
set_option maxRecDepth 100000 in
theorem impl_Range_empty.calls (a0_0 : Int) (a0_1 : Int) (r : Bool) (w : World) (h : impl_Range_empty.f a0_0 a0_1 = some r) :
  Calls Try.prog 37 #[.agg #[.int .i64 a0_0, .int .i64 a0_1]] w fun e w' => e = .returned (.bool r) ∧ Below w.heap.size w w' := by
 have hu33 := Try.underlying33
 have HB := am (Below.refl w.heap.size w)
 have H : (some (decide (a0_0 > a0_1))) = some r := h
 clear h
 obtain rfl := Option.some.inj H
 go_enter Try.func37, Try.ntmps37
 go_wp2_with (first | ((with_reducible refine gate_dst (N := 1) rfl ?_); refine bxn 1 #[.int .i64 a0_0, .int .i64 a0_1] 33 HB fun g1 w1 K1 G1 hg hb => ?_; replace HB := am (below_step (YA HB) hb); clear hb hg; have z_ := cB2 K1))
 go_ret
 exact ⟨ez, YA HB⟩
end
section
attribute [local go_sem] max2_int min2_int max_two min_two max_three min_three max_four min_four
attribute [local go_sem high] eqA24
attribute [local go_sem] Go.Proofs.YtdmadlfdibiejaaSet.isSome_setCell
def impl_RestOk.f (a0_0 : Int) (a0_1 : Int) : Option (Bool) := if a0_0 = 0 then ((impl_NumOk.f a0_1).bind fun t1 => (some t1)) else (if a0_0 ≥ 1 then (if a0_0 ≤ 65536 then (if a0_1 ≥ 0 then (some (decide (a0_1 < a0_0))) else (some false)) else (some false)) else (some false))
set_option maxHeartbeats 8000000 in
set_option maxRecDepth 100000 in
theorem impl_RestOk.calls (a0_0 : Int) (a0_1 : Int) (r : Bool) (w : World) (h : impl_RestOk.f a0_0 a0_1 = some r) :
  Calls Try.prog 43 #[.agg #[.int .i64 a0_0, .int .i64 a0_1]] w fun e w' => e = .returned (.bool r) ∧ Below w.heap.size w w' := by
 have hu39 := Try.underlying39
 have HB := am (Below.refl w.heap.size w)
 have H : (if a0_0 = 0 then ((impl_NumOk.f a0_1).bind fun t1 => (some t1)) else (if a0_0 ≥ 1 then (if a0_0 ≤ 65536 then (if a0_1 ≥ 0 then (some (decide (a0_1 < a0_0))) else (some false)) else (some false)) else (some false))) = some r := h
 clear h
 by_cases c1 : a0_0 = 0
 ·rw [if_pos c1] at H
  have d1 := eT c1
  have d2 := nF c1
  clear c1
  obtain ⟨t1, A1, H⟩ := bd H
  try dsimp only at H
  obtain rfl := Option.some.inj H
  go_enter Try.func43, Try.ntmps43
  go_wp2_with (first | ((with_reducible refine gate_dst (N := 1) rfl ?_); refine bxn 1 #[.int .i64 a0_0, .int .i64 a0_1] 39 HB fun g1 w1 K1 G1 hg hb => ?_; replace HB := am (below_step (YA HB) hb); clear hb hg; have z_ := cB2 K1) | ((with_reducible refine gate_callee (f := 52) rfl ?_); refine goesL_ (some 8) rfl rfl Try.func52 (by kernel_rfl) rfl #[.int .i64 a0_1] rfl mz ?_; (with_reducible refine (impl_NumOk.calls _ _ _ A1.out).mono ?_); rintro e w' ⟨rfl, ⟨nd, rfl⟩⟩; refine ⟨_, rfl, ?_⟩))
  go_ret
  exact ⟨ez, YA HB⟩
 rw [if_neg c1] at H
 have d1 := eF c1
 have d2 := nT c1
 by_cases c2 : a0_0 ≥ 1
 rotate_left
 ·rw [if_neg c2] at H
  have d3 := dF c2
  clear c2
  obtain rfl := Option.some.inj H
  go_enter Try.func43, Try.ntmps43
  go_wp2_with (first | ((with_reducible refine gate_dst (N := 1) rfl ?_); refine bxn 1 #[.int .i64 a0_0, .int .i64 a0_1] 39 HB fun g1 w1 K1 G1 hg hb => ?_; replace HB := am (below_step (YA HB) hb); clear hb hg; have z_ := cB2 K1))
  go_ret
  exact ⟨ez, YA HB⟩
 rw [if_pos c2] at H
 have d3 := dT c2
 clear c2
 by_cases c3 : a0_0 ≤ 65536
 rotate_left
 ·rw [if_neg c3] at H
  have d4 := dF c3
  clear c3
  obtain rfl := Option.some.inj H
  go_enter Try.func43, Try.ntmps43
  go_wp2_with (first | ((with_reducible refine gate_dst (N := 1) rfl ?_); refine bxn 1 #[.int .i64 a0_0, .int .i64 a0_1] 39 HB fun g1 w1 K1 G1 hg hb => ?_; replace HB := am (below_step (YA HB) hb); clear hb hg; have z_ := cB2 K1))
  go_ret
  exact ⟨ez, YA HB⟩
 rw [if_pos c3] at H
 have d4 := dT c3
 clear c3
 by_cases c4 : a0_1 ≥ 0
 ·rw [if_pos c4] at H
  have d5 := dT c4
  clear c4
  obtain rfl := Option.some.inj H
  go_enter Try.func43, Try.ntmps43
  go_wp2_with (first | ((with_reducible refine gate_dst (N := 1) rfl ?_); refine bxn 1 #[.int .i64 a0_0, .int .i64 a0_1] 39 HB fun g1 w1 K1 G1 hg hb => ?_; replace HB := am (below_step (YA HB) hb); clear hb hg; have z_ := cB2 K1))
  go_ret
  exact ⟨ez, YA HB⟩
 rw [if_neg c4] at H
 have d5 := dF c4
 clear c4
 obtain rfl := Option.some.inj H
 go_enter Try.func43, Try.ntmps43
 go_wp2_with (first | ((with_reducible refine gate_dst (N := 1) rfl ?_); refine bxn 1 #[.int .i64 a0_0, .int .i64 a0_1] 39 HB fun g1 w1 K1 G1 hg hb => ?_; replace HB := am (below_step (YA HB) hb); clear hb hg; have z_ := cB2 K1))
 go_ret
 exact ⟨ez, YA HB⟩

def impl_RangeHas.f (a0_0 : Int) (a0_1 : Int) (a1 : Int) : Option (Bool) := (impl_RangeOk.f a0_0 a0_1).bind fun t1 => (if t1 = true then (if a0_0 ≤ a1 then (some (decide (a1 ≤ a0_1))) else (some false)) else (some false))
set_option maxHeartbeats 8000000 in
set_option maxRecDepth 100000 in
theorem impl_RangeHas.calls (a0_0 : Int) (a0_1 : Int) (a1 : Int) (r : Bool) (w : World) (h : impl_RangeHas.f a0_0 a0_1 a1 = some r) :
  Calls Try.prog 44 #[.agg #[.int .i64 a0_0, .int .i64 a0_1], .int .i64 a1] w fun e w' => e = .returned (.bool r) ∧ Below w.heap.size w w' := by
 have hu33 := Try.underlying33
 have HB := am (Below.refl w.heap.size w)
 have H : ((impl_RangeOk.f a0_0 a0_1).bind fun t1 => (if t1 = true then (if a0_0 ≤ a1 then (some (decide (a1 ≤ a0_1))) else (some false)) else (some false))) = some r := h
 clear h
 obtain ⟨t1, A1, H⟩ := bd H
 try dsimp only at H
 by_cases c1 : t1 = true
 rotate_left
 ·replace c1 := Bool.eq_false_iff.mpr c1
  subst c1
  rw [if_neg ff] at H
  obtain rfl := Option.some.inj H
  go_enter Try.func44, Try.ntmps44
  go_wp2_with (first | ((with_reducible refine gate_dst (N := 2) rfl ?_); refine bxn 2 #[.int .i64 a0_0, .int .i64 a0_1] 33 HB fun g1 w1 K1 G1 hg hb => ?_; replace HB := am (below_step (YA HB) hb); clear hb hg; have z_ := cB2 K1) | ((with_reducible refine gate_callee (f := 36) rfl ?_); refine gL 6 Try.func36 (impl_RangeOk.calls _ _ _ _ A1.out) fun w2 hb => ?_; obtain ⟨K1, HB⟩ := bk1 K1 HB hb; (try clear hb)))
  go_ret
  exact ⟨ez, YA HB⟩
 subst c1
 rw [if_pos rfl] at H
 by_cases c2 : a0_0 ≤ a1
 ·rw [if_pos c2] at H
  have d1 := dT c2
  clear c2
  obtain rfl := Option.some.inj H
  go_enter Try.func44, Try.ntmps44
  go_wp2_with (first | ((with_reducible refine gate_dst (N := 2) rfl ?_); refine bxn 2 #[.int .i64 a0_0, .int .i64 a0_1] 33 HB fun g1 w1 K1 G1 hg hb => ?_; replace HB := am (below_step (YA HB) hb); clear hb hg; have z_ := cB2 K1) | ((with_reducible refine gate_callee (f := 36) rfl ?_); refine gL 6 Try.func36 (impl_RangeOk.calls _ _ _ _ A1.out) fun w2 hb => ?_; obtain ⟨K1, HB⟩ := bk1 K1 HB hb; (try clear hb); have z_ := cB2 K1))
  go_ret
  exact ⟨ez, YA HB⟩
 rw [if_neg c2] at H
 have d1 := dF c2
 clear c2
 obtain rfl := Option.some.inj H
 go_enter Try.func44, Try.ntmps44
 go_wp2_with (first | ((with_reducible refine gate_dst (N := 2) rfl ?_); refine bxn 2 #[.int .i64 a0_0, .int .i64 a0_1] 33 HB fun g1 w1 K1 G1 hg hb => ?_; replace HB := am (below_step (YA HB) hb); clear hb hg; have z_ := cB2 K1) | ((with_reducible refine gate_callee (f := 36) rfl ?_); refine gL 6 Try.func36 (impl_RangeOk.calls _ _ _ _ A1.out) fun w2 hb => ?_; obtain ⟨K1, HB⟩ := bk1 K1 HB hb; (try clear hb); have z_ := cB2 K1))
 go_ret
 exact ⟨ez, YA HB⟩

def impl_valOne.f (a0 : Int) : Option (Int × Int × Int × Int) := some (a0, a0, 0, a0)
set_option maxHeartbeats 8000000 in
set_option maxRecDepth 100000 in
theorem impl_valOne.calls (a0 : Int) (r1 : Int) (r2 : Int) (r3 : Int) (r4 : Int) (w : World) (h : impl_valOne.f a0 = some (r1, r2, r3, r4)) :
  Calls Try.prog 45 #[.int .i64 a0] w fun e w' => e = .returned (.agg #[.int .i64 r1, .int .i64 r2, .int .i64 r3, .int .i64 r4]) ∧ Below w.heap.size w w' := by
 have hu24 := Try.underlying24
 have HB := am (Below.refl w.heap.size w)
 have H : (some (a0, a0, 0, a0)) = some (r1, r2, r3, r4) := h
 clear h
 simp only [Option.some.injEq, Prod.mk.injEq] at H
 obtain ⟨rfl, rfl, rfl, rfl⟩ := H
 go_enter Try.func45, Try.ntmps45
 go_wp2_with (first | ((with_reducible refine gate_dst (N := 2) rfl ?_); refine bxn 2 #[.int .i64 0, .int .i64 0, .int .i64 0, .int .i64 0] 24 HB fun g1 w1 K1 G1 hg hb => ?_; replace HB := am (below_step (YA HB) hb); clear hb hg; have z_ := cB4 K1))
 refine bodyPost_ret (results_cell_row rfl _ _ g1 24 #[.int .i64 a0, .int .i64 a0, .int .i64 0, .int .i64 a0] (0, 0) _ rfl (by refine pf ?_; refine blk_put (cs := #[.int .i64 a0, .int .i64 a0, .int .i64 0, .int .i64 0]) ?_ 3 _ rfl; refine pf ?_; refine blk_put (cs := #[.int .i64 a0, .int .i64 a0, .int .i64 0, .int .i64 0]) ?_ 2 _ rfl; refine pf ?_; refine blk_put (cs := #[.int .i64 a0, .int .i64 0, .int .i64 0, .int .i64 0]) ?_ 1 _ rfl; refine pf ?_; refine blk_put (cs := #[.int .i64 0, .int .i64 0, .int .i64 0, .int .i64 0]) ?_ 0 _ rfl; exact Z K1) Try.underlying24 rfl (by kernel_rfl)) rfl ?_
 exact ⟨ez, YA HB⟩

def impl_restMod.f (a0 : Int) (a1 : Int) : Option (Int) := if a1 = 0 then (none) else (if (Int.tmod a0 a1) < 0 then (some (wrap64 ((Int.tmod a0 a1) + a1))) else (some (Int.tmod a0 a1)))
set_option maxHeartbeats 8000000 in
set_option maxRecDepth 100000 in
theorem impl_restMod.calls (a0 : Int) (a1 : Int) (r : Int) (w : World) (h : impl_restMod.f a0 a1 = some r) :
  Calls Try.prog 46 #[.int .i64 a0, .int .i64 a1] w fun e w' => e = .returned (.int .i64 r) ∧ Drawn0 w w' := by
 have H : (if a1 = 0 then (none) else (if (Int.tmod a0 a1) < 0 then (some (wrap64 ((Int.tmod a0 a1) + a1))) else (some (Int.tmod a0 a1)))) = some r := h
 clear h
 by_cases c1 : a1 = 0
 ·rw [if_pos c1] at H
  exact absurd H (by simp)
 rw [if_neg c1] at H
 have d1 := eF c1
 have d2 := nT c1
 by_cases c2 : (Int.tmod a0 a1) < 0
 ·rw [if_pos c2] at H
  have d3 := dT c2
  clear c2
  obtain rfl := Option.some.inj H
  go_enter Try.func46, Try.ntmps46
  go_wp2
  go_ret
  exact ⟨by first | rfl | (simp; done) | (simp [*]; done), by repeat (first | exact Drawn0.refl _ | apply Drawn0.step)⟩
 rw [if_neg c2] at H
 have d3 := dF c2
 clear c2
 obtain rfl := Option.some.inj H
 go_enter Try.func46, Try.ntmps46
 go_wp2
 go_ret
 exact ⟨by first | rfl | (simp; done) | (simp [*]; done), by repeat (first | exact Drawn0.refl _ | apply Drawn0.step)⟩

def impl_ValMake.j0 : Nat → Bool → Int → Int → Int → Int → Option (Int × Int × Int × Int)
 | 0, _, _, _, _, _ => none
 | k + 1, x1, x2, x3, x4, x5 => if x1 = true then ((impl_valNone.f).bind fun u1 => (some (u1.1, u1.2.1, u1.2.2.1, u1.2.2.2))) else (if x4 = 0 then ((impl_RangeHas.f x2 x3 x5).bind fun t1 => (if t1 = true then ((impl_valOne.f x5).bind fun u2 => (some (u2.1, u2.2.1, u2.2.2.1, u2.2.2.2))) else ((impl_valNone.f).bind fun u3 => (some (u3.1, u3.2.1, u3.2.2.1, u3.2.2.2))))) else ((impl_restMod.f (wrap64 (x5 - x2)) x4).bind fun t2 => ((impl_restMod.f (wrap64 (x3 - x5)) x4).bind fun t3 => (if (wrap64 (x2 + t2)) > (wrap64 (x3 - t3)) then ((impl_valNone.f).bind fun u4 => (some (u4.1, u4.2.1, u4.2.2.1, u4.2.2.2))) else (if (wrap64 (x2 + t2)) = (wrap64 (x3 - t3)) then ((impl_valOne.f (wrap64 (x2 + t2))).bind fun u5 => (some (u5.1, u5.2.1, u5.2.2.1, u5.2.2.2))) else (some (wrap64 (x2 + t2), wrap64 (x3 - t3), x4, x5)))))))
def impl_ValMake.f (k : Nat) (a0_0 : Int) (a0_1 : Int) (a1_0 : Int) (a1_1 : Int) : Option (Int × Int × Int × Int) := (impl_RangeOk.f a0_0 a0_1).bind fun t1 => (if t1 = true then ((impl_RestOk.f a1_0 a1_1).bind fun t2 => (if t2 = true then ((impl_Range_empty.f a0_0 a0_1).bind fun t3 => (impl_ValMake.j0 k t3 a0_0 a0_1 a1_0 a1_1)) else (impl_ValMake.j0 k true a0_0 a0_1 a1_0 a1_1))) else (impl_ValMake.j0 k true a0_0 a0_1 a1_0 a1_1))
theorem impl_ValMake.mono_l : ∀ k, (∀ y0 y1 y2 y3 y4, LeO (impl_ValMake.j0 k y0 y1 y2 y3 y4) (impl_ValMake.j0 (k + 1) y0 y1 y2 y3 y4))
 | 0 => fun _ _ _ _ _ r h => by simp [impl_ValMake.j0] at h
 | k + 1 => by
  have ih0 := impl_ValMake.mono_l k
  ·intro y0 y1 y2 y3 y4
   unfold impl_ValMake.j0
   repeat' first | (with_reducible first | apply ih0 | apply LeO.refl | apply LeO.none | refine LeO.ite ?_ ?_ | refine LeO.bind ?_ (fun _ => ?_)) | apply ih0 | apply LeO.none | refine LeO.ite ?_ ?_ | refine LeO.bind ?_ (fun _ => ?_)
theorem impl_ValMake.mono : ∀ a0 a1 a2 a3 k, LeO (impl_ValMake.f k a0 a1 a2 a3) (impl_ValMake.f (k + 1) a0 a1 a2 a3) := by
 intro a0 a1 a2 a3 k
 have ih0 := impl_ValMake.mono_l k
 unfold impl_ValMake.f
 repeat' first | (with_reducible first | apply ih0 | apply LeO.refl | apply LeO.none | refine LeO.ite ?_ ?_ | refine LeO.bind ?_ (fun _ => ?_)) | apply ih0 | apply LeO.none | refine LeO.ite ?_ ?_ | refine LeO.bind ?_ (fun _ => ?_)
set_option maxHeartbeats 8000000 in
set_option maxRecDepth 100000 in
theorem impl_ValMake.calls (k : Nat) (a0_0 : Int) (a0_1 : Int) (a1_0 : Int) (a1_1 : Int) (r1 : Int) (r2 : Int) (r3 : Int) (r4 : Int) (w : World) (h : impl_ValMake.f k a0_0 a0_1 a1_0 a1_1 = some (r1, r2, r3, r4)) :
  Calls Try.prog 20 #[.agg #[.int .i64 a0_0, .int .i64 a0_1], .agg #[.int .i64 a1_0, .int .i64 a1_1]] w fun e w' => e = .returned (.agg #[.int .i64 r1, .int .i64 r2, .int .i64 r3, .int .i64 r4]) ∧ Below w.heap.size w w' := by
 have hu33 := Try.underlying33
 have hu39 := Try.underlying39
 have hu24 := Try.underlying24
 have HB := am (Below.refl w.heap.size w)
 have H : ((impl_RangeOk.f a0_0 a0_1).bind fun t1 => (if t1 = true then ((impl_RestOk.f a1_0 a1_1).bind fun t2 => (if t2 = true then ((impl_Range_empty.f a0_0 a0_1).bind fun t3 => (impl_ValMake.j0 k t3 a0_0 a0_1 a1_0 a1_1)) else (impl_ValMake.j0 k true a0_0 a0_1 a1_0 a1_1))) else (impl_ValMake.j0 k true a0_0 a0_1 a1_0 a1_1))) = some (r1, r2, r3, r4) := h
 clear h
 have C1 := am H
 clear H
 go_enter Try.func20, Try.ntmps20
 go_upto_region 1 with (first | ((with_reducible refine gate_dst (N := 2) rfl ?_); refine bxn 2 #[.int .i64 a0_0, .int .i64 a0_1] 33 HB fun g1 w1 K1 G1 hg hb => ?_; replace HB := am (below_step (YA HB) hb); clear hb hg) | ((with_reducible refine gate_dst (N := 3) rfl ?_); refine bxn 3 #[.int .i64 a1_0, .int .i64 a1_1] 39 HB fun g2 w2 K2 G2 hg hb => ?_; obtain ⟨N1,N2⟩ := ne_ hg K1; obtain ⟨K1, HB⟩ := bk1 K1 HB hb; clear hb hg) | ((with_reducible refine gate_dst (N := 4) rfl ?_); refine bxn 4 #[.int .i64 0, .int .i64 0, .int .i64 0, .int .i64 0] 24 HB fun g3 w3 K3 G3 hg hb => ?_; obtain ⟨N3,N4⟩ := ne_ hg K1; obtain ⟨N5,N6⟩ := ne_ hg K2; obtain ⟨K1, K2, HB⟩ := bk2 K1 K2 HB hb; clear hb hg))
 repeat (go_quiet (first | ((with_reducible refine gate_dst (N := 2) rfl ?_); refine bxn 2 #[.int .i64 a0_0, .int .i64 a0_1] 33 HB fun g1 w1 K1 G1 hg hb => ?_; replace HB := am (below_step (YA HB) hb); clear hb hg) | ((with_reducible refine gate_dst (N := 3) rfl ?_); refine bxn 3 #[.int .i64 a1_0, .int .i64 a1_1] 39 HB fun g2 w2 K2 G2 hg hb => ?_; obtain ⟨N1,N2⟩ := ne_ hg K1; obtain ⟨K1, HB⟩ := bk1 K1 HB hb; clear hb hg) | ((with_reducible refine gate_dst (N := 4) rfl ?_); refine bxn 4 #[.int .i64 0, .int .i64 0, .int .i64 0, .int .i64 0] 24 HB fun g3 w3 K3 G3 hg hb => ?_; obtain ⟨N3,N4⟩ := ne_ hg K1; obtain ⟨N5,N6⟩ := ne_ hg K2; obtain ⟨K1, K2, HB⟩ := bk2 K1 K2 HB hb; clear hb hg)); go_upto_region 1 with (first | ((with_reducible refine gate_dst (N := 2) rfl ?_); refine bxn 2 #[.int .i64 a0_0, .int .i64 a0_1] 33 HB fun g1 w1 K1 G1 hg hb => ?_; replace HB := am (below_step (YA HB) hb); clear hb hg) | ((with_reducible refine gate_dst (N := 3) rfl ?_); refine bxn 3 #[.int .i64 a1_0, .int .i64 a1_1] 39 HB fun g2 w2 K2 G2 hg hb => ?_; obtain ⟨N1,N2⟩ := ne_ hg K1; obtain ⟨K1, HB⟩ := bk1 K1 HB hb; clear hb hg) | ((with_reducible refine gate_dst (N := 4) rfl ?_); refine bxn 4 #[.int .i64 0, .int .i64 0, .int .i64 0, .int .i64 0] 24 HB fun g3 w3 K3 G3 hg hb => ?_; obtain ⟨N3,N4⟩ := ne_ hg K1; obtain ⟨N5,N6⟩ := ne_ hg K2; obtain ⟨K1, K2, HB⟩ := bk2 K1 K2 HB hb; clear hb hg)))
 (try simp only [Act.put, List.setIfInBounds_toArray, List.set_cons_zero, List.set_cons_succ])
 go_cut [18] (fun v1 wc => ∃ (kq : Nat) (x1 : Bool), v1 = .bool x1 ∧ Aside0 (impl_ValMake.j0 kq x1 a0_0 a0_1 a1_0 a1_1 = some (r1, r2, r3, r4)) ∧ Aside0 (kq ≤ k) ∧ Bx2 wc g1 a0_0 a0_1 33 ∧ Bx2 wc g2 a1_0 a1_1 39 ∧ Bx4 wc g3 0 0 0 0 24 ∧ Aside0 (Below w.heap.size w wc))
 case first =>
  have H := C1.out
  clear C1
  obtain ⟨t1, A1, H⟩ := bd H
  try dsimp only at H
  by_cases c1 : t1 = true
  rotate_left
  ·replace c1 := Bool.eq_false_iff.mpr c1
   subst c1
   rw [if_neg ff] at H
   have H' := am H
   clear H
   have z_ := ns2 N1 N3
   have z_ := cB2 K1
   go_wp2_with (first | (go_at_call 36; (with_reducible refine (impl_RangeOk.calls _ _ _ _ A1.out).mono ?_); rintro e w4 ⟨rfl, hb⟩; obtain ⟨K1, K2, K3, HB⟩ := bk3 K1 K2 K3 HB hb; (try clear hb)))
   repeat (go_quiet (first | (go_at_call 36; (with_reducible refine (impl_RangeOk.calls _ _ _ _ A1.out).mono ?_); rintro e w4 ⟨rfl, hb⟩; obtain ⟨K1, K2, K3, HB⟩ := bk3 K1 K2 K3 HB hb; (try clear hb))); try go_wp2_with (first | (go_at_call 36; (with_reducible refine (impl_RangeOk.calls _ _ _ _ A1.out).mono ?_); rintro e w4 ⟨rfl, hb⟩; obtain ⟨K1, K2, K3, HB⟩ := bk3 K1 K2 K3 HB hb; (try clear hb))))
   go_meet
   case rel => exact ⟨_, (true), ey, H', le0, ⟨Z K1⟩, ⟨Z K2⟩, ⟨Z K3⟩, ⟨YA HB⟩⟩
  subst c1
  rw [if_pos rfl] at H
  obtain ⟨t2, A2, H⟩ := bd H
  try dsimp only at H
  by_cases c2 : t2 = true
  rotate_left
  ·replace c2 := Bool.eq_false_iff.mpr c2
   subst c2
   rw [if_neg ff] at H
   have H' := am H
   clear H
   have z_ := ns2 N1 N3
   have z_ := cB2 K1
   go_wp2_with (first | (go_at_call 36; (with_reducible refine (impl_RangeOk.calls _ _ _ _ A1.out).mono ?_); rintro e w4 ⟨rfl, hb⟩; obtain ⟨K1, K2, K3, HB⟩ := bk3 K1 K2 K3 HB hb; (try clear hb); have z_ := ns1 N5; have z_ := cB2 K2) | (go_at_call 43; (with_reducible refine (impl_RestOk.calls _ _ _ _ A2.out).mono ?_); rintro e w5 ⟨rfl, hb⟩; obtain ⟨K1, K2, K3, HB⟩ := bk3 K1 K2 K3 HB hb; (try clear hb)))
   try have z1 := N5.out
   try have z2 := N6.out
   try have z3 := bc K2 0
   try have z4 := bc K2 1
   try have z5 := blk_frozen K2.out 0
   try have z6 := blk_frozen K2.out 1
   repeat (go_quiet (first | (go_at_call 36; (with_reducible refine (impl_RangeOk.calls _ _ _ _ A1.out).mono ?_); rintro e w4 ⟨rfl, hb⟩; obtain ⟨K1, K2, K3, HB⟩ := bk3 K1 K2 K3 HB hb; (try clear hb); (try (have z_ := ns1 N5; have z_ := cB2 K2))) | (go_at_call 43; (with_reducible refine (impl_RestOk.calls _ _ _ _ A2.out).mono ?_); rintro e w5 ⟨rfl, hb⟩; obtain ⟨K1, K2, K3, HB⟩ := bk3 K1 K2 K3 HB hb; (try clear hb))); try go_wp2_with (first | (go_at_call 36; (with_reducible refine (impl_RangeOk.calls _ _ _ _ A1.out).mono ?_); rintro e w4 ⟨rfl, hb⟩; obtain ⟨K1, K2, K3, HB⟩ := bk3 K1 K2 K3 HB hb; (try clear hb); (try (have z_ := ns1 N5; have z_ := cB2 K2))) | (go_at_call 43; (with_reducible refine (impl_RestOk.calls _ _ _ _ A2.out).mono ?_); rintro e w5 ⟨rfl, hb⟩; obtain ⟨K1, K2, K3, HB⟩ := bk3 K1 K2 K3 HB hb; (try clear hb))))
   go_meet
   case rel => exact ⟨_, (true), ey, H', le0, ⟨Z K1⟩, ⟨Z K2⟩, ⟨Z K3⟩, ⟨YA HB⟩⟩
  subst c2
  rw [if_pos rfl] at H
  obtain ⟨t3, A3, H⟩ := bd H
  try dsimp only at H
  have H' := am H
  clear H
  have z_ := ns2 N1 N3
  have z_ := cB2 K1
  go_wp2_with (first | (go_at_call 36; (with_reducible refine (impl_RangeOk.calls _ _ _ _ A1.out).mono ?_); rintro e w4 ⟨rfl, hb⟩; obtain ⟨K1, K2, K3, HB⟩ := bk3 K1 K2 K3 HB hb; (try clear hb); have z_ := ns1 N5; have z_ := cB2 K2) | (go_at_call 43; (with_reducible refine (impl_RestOk.calls _ _ _ _ A2.out).mono ?_); rintro e w5 ⟨rfl, hb⟩; obtain ⟨K1, K2, K3, HB⟩ := bk3 K1 K2 K3 HB hb; (try clear hb); have z_ := cB2 K1) | (go_at_call 37; (with_reducible refine (impl_Range_empty.calls _ _ _ _ A3.out).mono ?_); rintro e w6 ⟨rfl, hb⟩; obtain ⟨K1, K2, K3, HB⟩ := bk3 K1 K2 K3 HB hb; (try clear hb)))
  try have z1 := N5.out
  try have z2 := N6.out
  try have z3 := bc K2 0
  try have z4 := bc K2 1
  try have z5 := blk_frozen K2.out 0
  try have z6 := blk_frozen K2.out 1
  try have z7 := bc K1 0
  try have z8 := bc K1 1
  try have z9 := blk_frozen K1.out 0
  try have z10 := blk_frozen K1.out 1
  repeat (go_quiet (first | (go_at_call 36; (with_reducible refine (impl_RangeOk.calls _ _ _ _ A1.out).mono ?_); rintro e w4 ⟨rfl, hb⟩; obtain ⟨K1, K2, K3, HB⟩ := bk3 K1 K2 K3 HB hb; (try clear hb); (try (have z_ := ns1 N5; have z_ := cB2 K2))) | (go_at_call 43; (with_reducible refine (impl_RestOk.calls _ _ _ _ A2.out).mono ?_); rintro e w5 ⟨rfl, hb⟩; obtain ⟨K1, K2, K3, HB⟩ := bk3 K1 K2 K3 HB hb; (try clear hb); (try (have z_ := cB2 K1))) | (go_at_call 37; (with_reducible refine (impl_Range_empty.calls _ _ _ _ A3.out).mono ?_); rintro e w6 ⟨rfl, hb⟩; obtain ⟨K1, K2, K3, HB⟩ := bk3 K1 K2 K3 HB hb; (try clear hb))); try go_wp2_with (first | (go_at_call 36; (with_reducible refine (impl_RangeOk.calls _ _ _ _ A1.out).mono ?_); rintro e w4 ⟨rfl, hb⟩; obtain ⟨K1, K2, K3, HB⟩ := bk3 K1 K2 K3 HB hb; (try clear hb); (try (have z_ := ns1 N5; have z_ := cB2 K2))) | (go_at_call 43; (with_reducible refine (impl_RestOk.calls _ _ _ _ A2.out).mono ?_); rintro e w5 ⟨rfl, hb⟩; obtain ⟨K1, K2, K3, HB⟩ := bk3 K1 K2 K3 HB hb; (try clear hb); (try (have z_ := cB2 K1))) | (go_at_call 37; (with_reducible refine (impl_Range_empty.calls _ _ _ _ A3.out).mono ?_); rintro e w6 ⟨rfl, hb⟩; obtain ⟨K1, K2, K3, HB⟩ := bk3 K1 K2 K3 HB hb; (try clear hb))))
  go_meet
  case rel => exact ⟨_, (t3), ey, H', le0, ⟨Z K1⟩, ⟨Z K2⟩, ⟨Z K3⟩, ⟨YA HB⟩⟩
 case rest =>
  clear C1
  obtain ⟨kq, x1, rfl, HA, J1, K1, K2, K3, HB⟩ := hcut
  cases kq with
  | zero => exact absurd HA.out (by simp [impl_ValMake.j0])
  | succ k1 =>
   have H := HA.out
   clear HA
   simp only [impl_ValMake.j0] at H
   by_cases c1 : x1 = true
   ·subst c1
    rw [if_pos rfl] at H
    obtain ⟨⟨t4, t5, t6, t7⟩, A1, H⟩ := bd H
    try dsimp only at H
    simp only [Option.some.injEq, Prod.mk.injEq] at H
    obtain ⟨rfl, rfl, rfl, rfl⟩ := H
    go_wp2_with (first | (go_at_call 17; (with_reducible refine (impl_valNone.calls _ _ _ _ _ A1.out).mono ?_); rintro e w4 ⟨rfl, hb⟩; obtain ⟨K1, K2, K3, HB⟩ := bk3 K1 K2 K3 HB hb; (try clear hb); have z_ := ns2 N4 N6; have z_ := cB4 K3))
    try have z1 := N4.out
    try have z2 := N3.out
    try have z3 := N6.out
    try have z4 := N5.out
    try have z5 := bc K3 0
    try have z6 := bc K3 1
    try have z7 := bc K3 2
    try have z8 := bc K3 3
    try have z9 := blk_frozen K3.out 0
    try have z10 := blk_frozen K3.out 1
    try have z11 := blk_frozen K3.out 2
    try have z12 := blk_frozen K3.out 3
    repeat (go_quiet (first | (go_at_call 17; (with_reducible refine (impl_valNone.calls _ _ _ _ _ A1.out).mono ?_); rintro e w4 ⟨rfl, hb⟩; obtain ⟨K1, K2, K3, HB⟩ := bk3 K1 K2 K3 HB hb; (try clear hb); (try (have z_ := ns2 N4 N6; have z_ := cB4 K3)))); try go_wp2_with (first | (go_at_call 17; (with_reducible refine (impl_valNone.calls _ _ _ _ _ A1.out).mono ?_); rintro e w4 ⟨rfl, hb⟩; obtain ⟨K1, K2, K3, HB⟩ := bk3 K1 K2 K3 HB hb; (try clear hb); (try (have z_ := ns2 N4 N6; have z_ := cB4 K3)))))
    refine bodyPost_ret (results_cell_row rfl _ _ g3 24 #[.int .i64 t4, .int .i64 t5, .int .i64 t6, .int .i64 t7] (0, 0) _ rfl (by refine pf ?_; refine blk_put (cs := #[.int .i64 t4, .int .i64 t5, .int .i64 t6, .int .i64 0]) ?_ 3 _ rfl; refine pf ?_; refine blk_put (cs := #[.int .i64 t4, .int .i64 t5, .int .i64 0, .int .i64 0]) ?_ 2 _ rfl; refine pf ?_; refine blk_put (cs := #[.int .i64 t4, .int .i64 0, .int .i64 0, .int .i64 0]) ?_ 1 _ rfl; refine pf ?_; refine blk_put (cs := #[.int .i64 0, .int .i64 0, .int .i64 0, .int .i64 0]) ?_ 0 _ rfl; exact Z K3) Try.underlying24 rfl (by kernel_rfl)) rfl ?_
    exact ⟨ez, YA HB⟩
   replace c1 := Bool.eq_false_iff.mpr c1
   subst c1
   rw [if_neg ff] at H
   by_cases c2 : a1_0 = 0
   ·rw [if_pos c2] at H
    have d1 := eT c2
    have d2 := nF c2
    clear c2
    obtain ⟨t4, A1, H⟩ := bd H
    try dsimp only at H
    by_cases c3 : t4 = true
    rotate_left
    ·replace c3 := Bool.eq_false_iff.mpr c3
     subst c3
     rw [if_neg ff] at H
     obtain ⟨⟨t5, t6, t7, t8⟩, A2, H⟩ := bd H
     try dsimp only at H
     simp only [Option.some.injEq, Prod.mk.injEq] at H
     obtain ⟨rfl, rfl, rfl, rfl⟩ := H
     have z_ := ns3 N2 N5 N3
     have z_ := cB2 K2
     have z_ := cB2 K1
     go_wp2_with (first | (go_at_call 44; (with_reducible refine (impl_RangeHas.calls _ _ _ _ _ A1.out).mono ?_); rintro e w4 ⟨rfl, hb⟩; obtain ⟨K1, K2, K3, HB⟩ := bk3 K1 K2 K3 HB hb; (try clear hb)) | (go_at_call 17; (with_reducible refine (impl_valNone.calls _ _ _ _ _ A2.out).mono ?_); rintro e w5 ⟨rfl, hb⟩; obtain ⟨K1, K2, K3, HB⟩ := bk3 K1 K2 K3 HB hb; (try clear hb); have z_ := cB4 K3))
     try have z1 := bc K3 0
     try have z2 := bc K3 1
     try have z3 := bc K3 2
     try have z4 := bc K3 3
     try have z5 := blk_frozen K3.out 0
     try have z6 := blk_frozen K3.out 1
     try have z7 := blk_frozen K3.out 2
     try have z8 := blk_frozen K3.out 3
     repeat (go_quiet (first | (go_at_call 44; (with_reducible refine (impl_RangeHas.calls _ _ _ _ _ A1.out).mono ?_); rintro e w4 ⟨rfl, hb⟩; obtain ⟨K1, K2, K3, HB⟩ := bk3 K1 K2 K3 HB hb; (try clear hb)) | (go_at_call 17; (with_reducible refine (impl_valNone.calls _ _ _ _ _ A2.out).mono ?_); rintro e w5 ⟨rfl, hb⟩; obtain ⟨K1, K2, K3, HB⟩ := bk3 K1 K2 K3 HB hb; (try clear hb); (try (have z_ := cB4 K3)))); try go_wp2_with (first | (go_at_call 44; (with_reducible refine (impl_RangeHas.calls _ _ _ _ _ A1.out).mono ?_); rintro e w4 ⟨rfl, hb⟩; obtain ⟨K1, K2, K3, HB⟩ := bk3 K1 K2 K3 HB hb; (try clear hb)) | (go_at_call 17; (with_reducible refine (impl_valNone.calls _ _ _ _ _ A2.out).mono ?_); rintro e w5 ⟨rfl, hb⟩; obtain ⟨K1, K2, K3, HB⟩ := bk3 K1 K2 K3 HB hb; (try clear hb); (try (have z_ := cB4 K3)))))
     refine bodyPost_ret (results_cell_row rfl _ _ g3 24 #[.int .i64 t5, .int .i64 t6, .int .i64 t7, .int .i64 t8] (0, 0) _ rfl (by refine pf ?_; refine blk_put (cs := #[.int .i64 t5, .int .i64 t6, .int .i64 t7, .int .i64 0]) ?_ 3 _ rfl; refine pf ?_; refine blk_put (cs := #[.int .i64 t5, .int .i64 t6, .int .i64 0, .int .i64 0]) ?_ 2 _ rfl; refine pf ?_; refine blk_put (cs := #[.int .i64 t5, .int .i64 0, .int .i64 0, .int .i64 0]) ?_ 1 _ rfl; refine pf ?_; refine blk_put (cs := #[.int .i64 0, .int .i64 0, .int .i64 0, .int .i64 0]) ?_ 0 _ rfl; exact Z K3) Try.underlying24 rfl (by kernel_rfl)) rfl ?_
     exact ⟨ez, YA HB⟩
    subst c3
    rw [if_pos rfl] at H
    obtain ⟨⟨t5, t6, t7, t8⟩, A2, H⟩ := bd H
    try dsimp only at H
    simp only [Option.some.injEq, Prod.mk.injEq] at H
    obtain ⟨rfl, rfl, rfl, rfl⟩ := H
    have z_ := ns3 N2 N5 N3
    have z_ := cB2 K2
    have z_ := cB2 K1
    go_wp2_with (first | (go_at_call 44; (with_reducible refine (impl_RangeHas.calls _ _ _ _ _ A1.out).mono ?_); rintro e w4 ⟨rfl, hb⟩; obtain ⟨K1, K2, K3, HB⟩ := bk3 K1 K2 K3 HB hb; (try clear hb); have z_ := cB2 K2) | (go_at_call 45; (with_reducible refine (impl_valOne.calls _ _ _ _ _ _ A2.out).mono ?_); rintro e w5 ⟨rfl, hb⟩; obtain ⟨K1, K2, K3, HB⟩ := bk3 K1 K2 K3 HB hb; (try clear hb); have z_ := cB4 K3))
    try have z1 := bc K2 0
    try have z2 := bc K2 1
    try have z3 := blk_frozen K2.out 0
    try have z4 := blk_frozen K2.out 1
    try have z5 := bc K3 0
    try have z6 := bc K3 1
    try have z7 := bc K3 2
    try have z8 := bc K3 3
    try have z9 := blk_frozen K3.out 0
    try have z10 := blk_frozen K3.out 1
    try have z11 := blk_frozen K3.out 2
    try have z12 := blk_frozen K3.out 3
    repeat (go_quiet (first | (go_at_call 44; (with_reducible refine (impl_RangeHas.calls _ _ _ _ _ A1.out).mono ?_); rintro e w4 ⟨rfl, hb⟩; obtain ⟨K1, K2, K3, HB⟩ := bk3 K1 K2 K3 HB hb; (try clear hb); (try (have z_ := cB2 K2))) | (go_at_call 45; (with_reducible refine (impl_valOne.calls _ _ _ _ _ _ A2.out).mono ?_); rintro e w5 ⟨rfl, hb⟩; obtain ⟨K1, K2, K3, HB⟩ := bk3 K1 K2 K3 HB hb; (try clear hb); (try (have z_ := cB4 K3)))); try go_wp2_with (first | (go_at_call 44; (with_reducible refine (impl_RangeHas.calls _ _ _ _ _ A1.out).mono ?_); rintro e w4 ⟨rfl, hb⟩; obtain ⟨K1, K2, K3, HB⟩ := bk3 K1 K2 K3 HB hb; (try clear hb); (try (have z_ := cB2 K2))) | (go_at_call 45; (with_reducible refine (impl_valOne.calls _ _ _ _ _ _ A2.out).mono ?_); rintro e w5 ⟨rfl, hb⟩; obtain ⟨K1, K2, K3, HB⟩ := bk3 K1 K2 K3 HB hb; (try clear hb); (try (have z_ := cB4 K3)))))
    refine bodyPost_ret (results_cell_row rfl _ _ g3 24 #[.int .i64 t5, .int .i64 t6, .int .i64 t7, .int .i64 t8] (0, 0) _ rfl (by refine pf ?_; refine blk_put (cs := #[.int .i64 t5, .int .i64 t6, .int .i64 t7, .int .i64 0]) ?_ 3 _ rfl; refine pf ?_; refine blk_put (cs := #[.int .i64 t5, .int .i64 t6, .int .i64 0, .int .i64 0]) ?_ 2 _ rfl; refine pf ?_; refine blk_put (cs := #[.int .i64 t5, .int .i64 0, .int .i64 0, .int .i64 0]) ?_ 1 _ rfl; refine pf ?_; refine blk_put (cs := #[.int .i64 0, .int .i64 0, .int .i64 0, .int .i64 0]) ?_ 0 _ rfl; exact Z K3) Try.underlying24 rfl (by kernel_rfl)) rfl ?_
    exact ⟨ez, YA HB⟩
   rw [if_neg c2] at H
   have d1 := eF c2
   have d2 := nT c2
   obtain ⟨t4, A1, H⟩ := bd H
   try dsimp only at H
   obtain ⟨t5, A2, H⟩ := bd H
   try dsimp only at H
   by_cases c3 : (wrap64 (a0_0 + t4)) > (wrap64 (a0_1 - t5))
   ·rw [if_pos c3] at H
    have d3 := dT c3
    clear c3
    obtain ⟨⟨t6, t7, t8, t9⟩, A3, H⟩ := bd H
    try dsimp only at H
    simp only [Option.some.injEq, Prod.mk.injEq] at H
    obtain ⟨rfl, rfl, rfl, rfl⟩ := H
    have z_ := ns3 N2 N5 N3
    have z_ := cB2 K2
    have z_ := cB2 K1
    go_wp2_with (first | (go_at_call 46; (with_reducible refine (impl_restMod.calls _ _ _ _ A1.out).mono ?_); rintro e w' ⟨rfl, ⟨nd, rfl⟩⟩; (try first | exact ⟨rfl, _, World.drewN_drewN _ _ _⟩ | exact ⟨rfl, _, Eq.trans (World.drewN_drewN _ _ _) (congrArg (World.drewN _) (Nat.add_assoc _ _ _))⟩)) | (go_at_call 46; (with_reducible refine (impl_restMod.calls _ _ _ _ A2.out).mono ?_); rintro e w' ⟨rfl, ⟨nd, rfl⟩⟩; (try first | exact ⟨rfl, _, World.drewN_drewN _ _ _⟩ | exact ⟨rfl, _, Eq.trans (World.drewN_drewN _ _ _) (congrArg (World.drewN _) (Nat.add_assoc _ _ _))⟩)) | (go_at_call 17; (with_reducible refine (impl_valNone.calls _ _ _ _ _ A3.out).mono ?_); rintro e w4 ⟨rfl, hb⟩; obtain ⟨K1, K2, K3, HB⟩ := bk3 K1 K2 K3 HB hb; (try clear hb); have z_ := cB4 K3))
    try have z1 := bc K3 0
    try have z2 := bc K3 1
    try have z3 := bc K3 2
    try have z4 := bc K3 3
    try have z5 := blk_frozen K3.out 0
    try have z6 := blk_frozen K3.out 1
    try have z7 := blk_frozen K3.out 2
    try have z8 := blk_frozen K3.out 3
    repeat (go_quiet (first | (go_at_call 46; (with_reducible refine (impl_restMod.calls _ _ _ _ A1.out).mono ?_); rintro e w' ⟨rfl, ⟨nd, rfl⟩⟩; (try first | exact ⟨rfl, _, World.drewN_drewN _ _ _⟩ | exact ⟨rfl, _, Eq.trans (World.drewN_drewN _ _ _) (congrArg (World.drewN _) (Nat.add_assoc _ _ _))⟩)) | (go_at_call 46; (with_reducible refine (impl_restMod.calls _ _ _ _ A2.out).mono ?_); rintro e w' ⟨rfl, ⟨nd, rfl⟩⟩; (try first | exact ⟨rfl, _, World.drewN_drewN _ _ _⟩ | exact ⟨rfl, _, Eq.trans (World.drewN_drewN _ _ _) (congrArg (World.drewN _) (Nat.add_assoc _ _ _))⟩)) | (go_at_call 17; (with_reducible refine (impl_valNone.calls _ _ _ _ _ A3.out).mono ?_); rintro e w4 ⟨rfl, hb⟩; obtain ⟨K1, K2, K3, HB⟩ := bk3 K1 K2 K3 HB hb; (try clear hb); (try (have z_ := cB4 K3)))); try go_wp2_with (first | (go_at_call 46; (with_reducible refine (impl_restMod.calls _ _ _ _ A1.out).mono ?_); rintro e w' ⟨rfl, ⟨nd, rfl⟩⟩; (try first | exact ⟨rfl, _, World.drewN_drewN _ _ _⟩ | exact ⟨rfl, _, Eq.trans (World.drewN_drewN _ _ _) (congrArg (World.drewN _) (Nat.add_assoc _ _ _))⟩)) | (go_at_call 46; (with_reducible refine (impl_restMod.calls _ _ _ _ A2.out).mono ?_); rintro e w' ⟨rfl, ⟨nd, rfl⟩⟩; (try first | exact ⟨rfl, _, World.drewN_drewN _ _ _⟩ | exact ⟨rfl, _, Eq.trans (World.drewN_drewN _ _ _) (congrArg (World.drewN _) (Nat.add_assoc _ _ _))⟩)) | (go_at_call 17; (with_reducible refine (impl_valNone.calls _ _ _ _ _ A3.out).mono ?_); rintro e w4 ⟨rfl, hb⟩; obtain ⟨K1, K2, K3, HB⟩ := bk3 K1 K2 K3 HB hb; (try clear hb); (try (have z_ := cB4 K3)))))
    refine bodyPost_ret (results_cell_row rfl _ _ g3 24 #[.int .i64 t6, .int .i64 t7, .int .i64 t8, .int .i64 t9] (0, 0) _ rfl (by refine pf ?_; refine blk_put (cs := #[.int .i64 t6, .int .i64 t7, .int .i64 t8, .int .i64 0]) ?_ 3 _ rfl; refine pf ?_; refine blk_put (cs := #[.int .i64 t6, .int .i64 t7, .int .i64 0, .int .i64 0]) ?_ 2 _ rfl; refine pf ?_; refine blk_put (cs := #[.int .i64 t6, .int .i64 0, .int .i64 0, .int .i64 0]) ?_ 1 _ rfl; refine pf ?_; refine blk_put (cs := #[.int .i64 0, .int .i64 0, .int .i64 0, .int .i64 0]) ?_ 0 _ rfl; exact Z K3) Try.underlying24 rfl (by kernel_rfl)) rfl ?_
    exact ⟨ez, YA HB⟩
   rw [if_neg c3] at H
   have d3 := dF c3
   clear c3
   by_cases c4 : (wrap64 (a0_0 + t4)) = (wrap64 (a0_1 - t5))
   rotate_left
   ·rw [if_neg c4] at H
    have d4 := eF c4
    have d5 := nT c4
    simp only [Option.some.injEq, Prod.mk.injEq] at H
    obtain ⟨rfl, rfl, rfl, rfl⟩ := H
    have z_ := ns3 N2 N5 N3
    have z_ := cB2 K2
    have z_ := cB2 K1
    go_wp2_with (first | (go_at_call 46; (with_reducible refine (impl_restMod.calls _ _ _ _ A1.out).mono ?_); rintro e w' ⟨rfl, ⟨nd, rfl⟩⟩; (try first | exact ⟨rfl, _, World.drewN_drewN _ _ _⟩ | exact ⟨rfl, _, Eq.trans (World.drewN_drewN _ _ _) (congrArg (World.drewN _) (Nat.add_assoc _ _ _))⟩)) | (go_at_call 46; (with_reducible refine (impl_restMod.calls _ _ _ _ A2.out).mono ?_); rintro e w' ⟨rfl, ⟨nd, rfl⟩⟩; (try first | exact ⟨rfl, _, World.drewN_drewN _ _ _⟩ | exact ⟨rfl, _, Eq.trans (World.drewN_drewN _ _ _) (congrArg (World.drewN _) (Nat.add_assoc _ _ _))⟩); have z_ := cB4 K3))
    try have z1 := bc K3 0
    try have z2 := bc K3 1
    try have z3 := bc K3 2
    try have z4 := bc K3 3
    try have z5 := blk_frozen K3.out 0
    try have z6 := blk_frozen K3.out 1
    try have z7 := blk_frozen K3.out 2
    try have z8 := blk_frozen K3.out 3
    repeat (go_quiet (first | (go_at_call 46; (with_reducible refine (impl_restMod.calls _ _ _ _ A1.out).mono ?_); rintro e w' ⟨rfl, ⟨nd, rfl⟩⟩; (try first | exact ⟨rfl, _, World.drewN_drewN _ _ _⟩ | exact ⟨rfl, _, Eq.trans (World.drewN_drewN _ _ _) (congrArg (World.drewN _) (Nat.add_assoc _ _ _))⟩)) | (go_at_call 46; (with_reducible refine (impl_restMod.calls _ _ _ _ A2.out).mono ?_); rintro e w' ⟨rfl, ⟨nd, rfl⟩⟩; (try first | exact ⟨rfl, _, World.drewN_drewN _ _ _⟩ | exact ⟨rfl, _, Eq.trans (World.drewN_drewN _ _ _) (congrArg (World.drewN _) (Nat.add_assoc _ _ _))⟩); (try (have z_ := cB4 K3)))); try go_wp2_with (first | (go_at_call 46; (with_reducible refine (impl_restMod.calls _ _ _ _ A1.out).mono ?_); rintro e w' ⟨rfl, ⟨nd, rfl⟩⟩; (try first | exact ⟨rfl, _, World.drewN_drewN _ _ _⟩ | exact ⟨rfl, _, Eq.trans (World.drewN_drewN _ _ _) (congrArg (World.drewN _) (Nat.add_assoc _ _ _))⟩)) | (go_at_call 46; (with_reducible refine (impl_restMod.calls _ _ _ _ A2.out).mono ?_); rintro e w' ⟨rfl, ⟨nd, rfl⟩⟩; (try first | exact ⟨rfl, _, World.drewN_drewN _ _ _⟩ | exact ⟨rfl, _, Eq.trans (World.drewN_drewN _ _ _) (congrArg (World.drewN _) (Nat.add_assoc _ _ _))⟩); (try (have z_ := cB4 K3)))))
    refine bodyPost_ret (results_cell_row rfl _ _ g3 24 #[.int .i64 (wrap64 (a0_0 + t4)), .int .i64 (wrap64 (a0_1 - t5)), .int .i64 a1_0, .int .i64 a1_1] (0, 0) _ rfl (by refine pf ?_; refine blk_put (cs := #[.int .i64 (wrap64 (a0_0 + t4)), .int .i64 (wrap64 (a0_1 - t5)), .int .i64 a1_0, .int .i64 0]) ?_ 3 _ rfl; refine pf ?_; refine blk_put (cs := #[.int .i64 (wrap64 (a0_0 + t4)), .int .i64 (wrap64 (a0_1 - t5)), .int .i64 0, .int .i64 0]) ?_ 2 _ rfl; refine pf ?_; refine blk_put (cs := #[.int .i64 (wrap64 (a0_0 + t4)), .int .i64 0, .int .i64 0, .int .i64 0]) ?_ 1 _ rfl; refine pf ?_; refine blk_put (cs := #[.int .i64 0, .int .i64 0, .int .i64 0, .int .i64 0]) ?_ 0 _ rfl; exact Z K3) Try.underlying24 rfl (by kernel_rfl)) rfl ?_
    exact ⟨ez, YA HB⟩
   rw [if_pos c4] at H
   have d4 := eT c4
   have d5 := nF c4
   clear c4
   obtain ⟨⟨t6, t7, t8, t9⟩, A3, H⟩ := bd H
   try dsimp only at H
   simp only [Option.some.injEq, Prod.mk.injEq] at H
   obtain ⟨rfl, rfl, rfl, rfl⟩ := H
   have z_ := ns3 N2 N5 N3
   have z_ := cB2 K2
   have z_ := cB2 K1
   go_wp2_with (first | (go_at_call 46; (with_reducible refine (impl_restMod.calls _ _ _ _ A1.out).mono ?_); rintro e w' ⟨rfl, ⟨nd, rfl⟩⟩; (try first | exact ⟨rfl, _, World.drewN_drewN _ _ _⟩ | exact ⟨rfl, _, Eq.trans (World.drewN_drewN _ _ _) (congrArg (World.drewN _) (Nat.add_assoc _ _ _))⟩)) | (go_at_call 46; (with_reducible refine (impl_restMod.calls _ _ _ _ A2.out).mono ?_); rintro e w' ⟨rfl, ⟨nd, rfl⟩⟩; (try first | exact ⟨rfl, _, World.drewN_drewN _ _ _⟩ | exact ⟨rfl, _, Eq.trans (World.drewN_drewN _ _ _) (congrArg (World.drewN _) (Nat.add_assoc _ _ _))⟩)) | (go_at_call 45; (with_reducible refine (impl_valOne.calls _ _ _ _ _ _ A3.out).mono ?_); rintro e w4 ⟨rfl, hb⟩; obtain ⟨K1, K2, K3, HB⟩ := bk3 K1 K2 K3 HB hb; (try clear hb); have z_ := cB4 K3))
   try have z1 := bc K3 0
   try have z2 := bc K3 1
   try have z3 := bc K3 2
   try have z4 := bc K3 3
   try have z5 := blk_frozen K3.out 0
   try have z6 := blk_frozen K3.out 1
   try have z7 := blk_frozen K3.out 2
   try have z8 := blk_frozen K3.out 3
   repeat (go_quiet (first | (go_at_call 46; (with_reducible refine (impl_restMod.calls _ _ _ _ A1.out).mono ?_); rintro e w' ⟨rfl, ⟨nd, rfl⟩⟩; (try first | exact ⟨rfl, _, World.drewN_drewN _ _ _⟩ | exact ⟨rfl, _, Eq.trans (World.drewN_drewN _ _ _) (congrArg (World.drewN _) (Nat.add_assoc _ _ _))⟩)) | (go_at_call 46; (with_reducible refine (impl_restMod.calls _ _ _ _ A2.out).mono ?_); rintro e w' ⟨rfl, ⟨nd, rfl⟩⟩; (try first | exact ⟨rfl, _, World.drewN_drewN _ _ _⟩ | exact ⟨rfl, _, Eq.trans (World.drewN_drewN _ _ _) (congrArg (World.drewN _) (Nat.add_assoc _ _ _))⟩)) | (go_at_call 45; (with_reducible refine (impl_valOne.calls _ _ _ _ _ _ A3.out).mono ?_); rintro e w4 ⟨rfl, hb⟩; obtain ⟨K1, K2, K3, HB⟩ := bk3 K1 K2 K3 HB hb; (try clear hb); (try (have z_ := cB4 K3)))); try go_wp2_with (first | (go_at_call 46; (with_reducible refine (impl_restMod.calls _ _ _ _ A1.out).mono ?_); rintro e w' ⟨rfl, ⟨nd, rfl⟩⟩; (try first | exact ⟨rfl, _, World.drewN_drewN _ _ _⟩ | exact ⟨rfl, _, Eq.trans (World.drewN_drewN _ _ _) (congrArg (World.drewN _) (Nat.add_assoc _ _ _))⟩)) | (go_at_call 46; (with_reducible refine (impl_restMod.calls _ _ _ _ A2.out).mono ?_); rintro e w' ⟨rfl, ⟨nd, rfl⟩⟩; (try first | exact ⟨rfl, _, World.drewN_drewN _ _ _⟩ | exact ⟨rfl, _, Eq.trans (World.drewN_drewN _ _ _) (congrArg (World.drewN _) (Nat.add_assoc _ _ _))⟩)) | (go_at_call 45; (with_reducible refine (impl_valOne.calls _ _ _ _ _ _ A3.out).mono ?_); rintro e w4 ⟨rfl, hb⟩; obtain ⟨K1, K2, K3, HB⟩ := bk3 K1 K2 K3 HB hb; (try clear hb); (try (have z_ := cB4 K3)))))
   refine bodyPost_ret (results_cell_row rfl _ _ g3 24 #[.int .i64 t6, .int .i64 t7, .int .i64 t8, .int .i64 t9] (0, 0) _ rfl (by refine pf ?_; refine blk_put (cs := #[.int .i64 t6, .int .i64 t7, .int .i64 t8, .int .i64 0]) ?_ 3 _ rfl; refine pf ?_; refine blk_put (cs := #[.int .i64 t6, .int .i64 t7, .int .i64 0, .int .i64 0]) ?_ 2 _ rfl; refine pf ?_; refine blk_put (cs := #[.int .i64 t6, .int .i64 0, .int .i64 0, .int .i64 0]) ?_ 1 _ rfl; refine pf ?_; refine blk_put (cs := #[.int .i64 0, .int .i64 0, .int .i64 0, .int .i64 0]) ?_ 0 _ rfl; exact Z K3) Try.underlying24 rfl (by kernel_rfl)) rfl ?_
   exact ⟨ez, YA HB⟩

def impl_Val_rest.f (a0_0 : Int) (a0_1 : Int) (a0_2 : Int) (a0_3 : Int) : Option (Int × Int) := some (a0_2, a0_3)
set_option maxHeartbeats 8000000 in
set_option maxRecDepth 100000 in
theorem impl_Val_rest.calls (a0_0 : Int) (a0_1 : Int) (a0_2 : Int) (a0_3 : Int) (r1 : Int) (r2 : Int) (w : World) (h : impl_Val_rest.f a0_0 a0_1 a0_2 a0_3 = some (r1, r2)) :
  Calls Try.prog 21 #[.agg #[.int .i64 a0_0, .int .i64 a0_1, .int .i64 a0_2, .int .i64 a0_3]] w fun e w' => e = .returned (.agg #[.int .i64 r1, .int .i64 r2]) ∧ Below w.heap.size w w' := by
 have hu24 := Try.underlying24
 have hu39 := Try.underlying39
 have HB := am (Below.refl w.heap.size w)
 have H : (some (a0_2, a0_3)) = some (r1, r2) := h
 clear h
 simp only [Option.some.injEq, Prod.mk.injEq] at H
 obtain ⟨rfl, rfl⟩ := H
 go_enter Try.func21, Try.ntmps21
 go_wp2_with (first | ((with_reducible refine gate_dst (N := 1) rfl ?_); refine bxn 1 #[.int .i64 a0_0, .int .i64 a0_1, .int .i64 a0_2, .int .i64 a0_3] 24 HB fun g1 w1 K1 G1 hg hb => ?_; replace HB := am (below_step (YA HB) hb); clear hb hg) | ((with_reducible refine gate_dst (N := 2) rfl ?_); refine bxn 2 #[.int .i64 0, .int .i64 0] 39 HB fun g2 w2 K2 G2 hg hb => ?_; obtain ⟨N1,N2⟩ := ne_ hg K1; obtain ⟨K1, HB⟩ := bk1 K1 HB hb; clear hb hg; have z_ := ns1 N1; have z_ := cB4 K1; have z_ := cB2 K2))
 refine bodyPost_ret (results_cell_row rfl _ _ g2 39 #[.int .i64 a0_2, .int .i64 a0_3] (0, 0) _ rfl (by refine pf ?_; refine blk_put (cs := #[.int .i64 a0_2, .int .i64 0]) ?_ 1 _ rfl; refine pf ?_; refine blk_put (cs := #[.int .i64 0, .int .i64 0]) ?_ 0 _ rfl; exact Z K2) Try.underlying39 rfl (by kernel_rfl)) rfl ?_
 exact ⟨ez, YA HB⟩

def impl_ValOk.f (k : Nat) (a0_0 : Int) (a0_1 : Int) (a0_2 : Int) (a0_3 : Int) : Option (Bool) := (impl_Val_span.f a0_0 a0_1 a0_2 a0_3).bind fun u1 => ((impl_Val_rest.f a0_0 a0_1 a0_2 a0_3).bind fun u2 => ((impl_ValMake.f k u1.1 u1.2 u2.1 u2.2).bind fun u3 => (some (a0_0 == u3.1 && (a0_1 == u3.2.1 && (a0_2 == u3.2.2.1 && (a0_3 == u3.2.2.2)))))))
theorem impl_ValOk.mono : ∀ a0 a1 a2 a3 k, LeO (impl_ValOk.f k a0 a1 a2 a3) (impl_ValOk.f (k + 1) a0 a1 a2 a3) := by
 intro a0 a1 a2 a3 k
 unfold impl_ValOk.f
 repeat' first | (with_reducible first | apply impl_ValMake.mono | apply LeO.refl | apply LeO.none | refine LeO.ite ?_ ?_ | refine LeO.bind ?_ (fun _ => ?_)) | apply impl_ValMake.mono | apply LeO.none | refine LeO.ite ?_ ?_ | refine LeO.bind ?_ (fun _ => ?_)
def impl_ValOk.T1 : Bool × List (List Nat × List Nat) := (true, [([], []), ([], []), ([1], [1]), ([], []), ([3, 2], [3]), ([2, 4, 4], [2, 4]), ([0, 5], [0, 5]), ([6, 5, 0, 1, 2, 3, 4, 5, 6], [6])])
def impl_ValOk.B1 : List Nat := [0, 0, 2, 0, 14, 30, 63, 127]
theorem impl_ValOk.tab1 : rtab .any (opsOf Try.f15 1) = impl_ValOk.T1 := by kernel_rfl
theorem impl_ValOk.bits1 : waitsOk impl_ValOk.T1.2 impl_ValOk.B1 = true := by kernel_rfl
set_option maxHeartbeats 8000000 in
set_option maxRecDepth 100000 in
theorem impl_ValOk.calls (k : Nat) (a0_0 : Int) (a0_1 : Int) (a0_2 : Int) (a0_3 : Int) (r : Bool) (w : World) (h : impl_ValOk.f k a0_0 a0_1 a0_2 a0_3 = some r) :
  Calls Try.prog 15 #[.agg #[.int .i64 a0_0, .int .i64 a0_1, .int .i64 a0_2, .int .i64 a0_3]] w fun e w' => e = .returned (.bool r) ∧ Below w.heap.size w w' := by
 have hu24 := Try.underlying24
 have HB := am (Below.refl w.heap.size w)
 have H : ((impl_Val_span.f a0_0 a0_1 a0_2 a0_3).bind fun u1 => ((impl_Val_rest.f a0_0 a0_1 a0_2 a0_3).bind fun u2 => ((impl_ValMake.f k u1.1 u1.2 u2.1 u2.2).bind fun u3 => (some (a0_0 == u3.1 && (a0_1 == u3.2.1 && (a0_2 == u3.2.2.1 && (a0_3 == u3.2.2.2)))))))) = some r := h
 clear h
 obtain ⟨⟨t1, t2⟩, A1, H⟩ := bd H
 try dsimp only at H
 obtain ⟨⟨t3, t4⟩, A2, H⟩ := bd H
 try dsimp only at H
 obtain ⟨⟨t5, t6, t7, t8⟩, A3, H⟩ := bd H
 try dsimp only at H
 obtain rfl := Option.some.inj H
 go_enter Try.func15, Try.ntmps15
 try go_wp2_with (first | ((with_reducible refine gate_dst (N := 1) rfl ?_); refine bxn 1 #[.int .i64 a0_0, .int .i64 a0_1, .int .i64 a0_2, .int .i64 a0_3] 24 HB fun g1 w1 K1 G1 hg hb => ?_; replace HB := am (below_step (YA HB) hb); clear hb hg))
 obtain ⟨K1, HB⟩ := dk1 K1 HB
 refine start_ (n := 8) (S := fun w' => ce4 w' g1 a0_0 a0_1 a0_2 a0_3) (ds := []) (lb 8 0) (by kernel_rfl) rfl rfl (cc4 K1) (fun hHeld => ?_); refine with_tabW impl_ValOk.tab1 impl_ValOk.bits1 (fun HT_ HW_ => ?_)
 generalize w1.drew = w2 at K1 HB hHeld ⊢
 refine tk 0 3 1 hHeld ?_
 refine tk 1 4 3 hHeld ?_
 refine tk 3 6 11 hHeld ?_
 refine cl1 2 5 15 Try.func19 (impl_Val_span.calls _ _ _ _ _ _ _ A1.out) K1 HB fun w3 K1 HB hHeld => ?_
 refine cl1 4 7 31 Try.func21 (impl_Val_rest.calls _ _ _ _ _ _ _ A2.out) K1 HB fun w4 K1 HB hHeld => ?_
 refine cl1 5 8 63 Try.func20 (impl_ValMake.calls _ _ _ _ _ _ _ _ _ _ A3.out) K1 HB fun w5 K1 HB hHeld => ?_
 refine pk 6 9 127 ?_
 refine pk 7 2 255 ?_
 refine done_ (done_of HT_.out (by kernel_rfl)) ?_
 try go_wp2
 go_ret
 exact ⟨ez, YA HB⟩

def impl_Val_none.f (a0_0 : Int) (a0_1 : Int) (a0_2 : Int) (a0_3 : Int) : Option (Bool) := (impl_valNone.f).bind fun u1 => (some (a0_0 == u1.1 && (a0_1 == u1.2.1 && (a0_2 == u1.2.2.1 && (a0_3 == u1.2.2.2)))))
set_option maxHeartbeats 8000000 in
set_option maxRecDepth 100000 in
theorem impl_Val_none.calls (a0_0 : Int) (a0_1 : Int) (a0_2 : Int) (a0_3 : Int) (r : Bool) (w : World) (h : impl_Val_none.f a0_0 a0_1 a0_2 a0_3 = some r) :
  Calls Try.prog 16 #[.agg #[.int .i64 a0_0, .int .i64 a0_1, .int .i64 a0_2, .int .i64 a0_3]] w fun e w' => e = .returned (.bool r) ∧ Below w.heap.size w w' := by
 have hu24 := Try.underlying24
 have HB := am (Below.refl w.heap.size w)
 have H : ((impl_valNone.f).bind fun u1 => (some (a0_0 == u1.1 && (a0_1 == u1.2.1 && (a0_2 == u1.2.2.1 && (a0_3 == u1.2.2.2)))))) = some r := h
 clear h
 obtain ⟨⟨t1, t2, t3, t4⟩, A1, H⟩ := bd H
 try dsimp only at H
 obtain rfl := Option.some.inj H
 go_enter Try.func16, Try.ntmps16
 try go_wp2_with (first | ((with_reducible refine gate_dst (N := 1) rfl ?_); refine bxn 1 #[.int .i64 a0_0, .int .i64 a0_1, .int .i64 a0_2, .int .i64 a0_3] 24 HB fun g1 w1 K1 G1 hg hb => ?_; replace HB := am (below_step (YA HB) hb); clear hb hg))
 obtain ⟨K1, HB⟩ := dk1 K1 HB
 refine start_ (n := 4) (S := fun w' => w'.cell? ⟨g1, 0, none⟩ = some (.int .i64 a0_0) ∧ w'.cell? ⟨g1, 1, none⟩ = some (.int .i64 a0_1) ∧ w'.cell? ⟨g1, 2, none⟩ = some (.int .i64 a0_2) ∧ w'.cell? ⟨g1, 3, none⟩ = some (.int .i64 a0_3)) (ds := []) (lb 4 0) (by kernel_rfl) rfl rfl ⟨bc K1 0, bc K1 1, bc K1 2, bc K1 3⟩ (fun hHeld => ?_)
 generalize w1.drew = w2 at K1 HB hHeld ⊢
 refine take_ (i := 0) (N := some 3) (v := ?_) (a' := ?_) (lb 4 1) rfl rfl (by kernel_rfl) (fun _ _ _ h => h) (Or.inl ⟨by rfl, ?_⟩) hHeld ?_ ?_
 rotate_left
 ·rintro w' ⟨s0, s1, s2, s3⟩
  go_simp
  with_reducible rfl
 rotate_left
 ·exact pz
 refine one_ (i := 1) (N := some 4) (lb 4 3) rfl rfl (by kernel_rfl) (by decide) (fun K hK => ?_)
 refine ck1 hK Try.func17 (impl_valNone.calls _ _ _ _ _ A1.out) K1 HB fun w3 K1 HB hHeld => ?_
 clear hK K
 refine pure_ (i := 2) (N := some 5) (v := ?_) (a' := ?_) (lb 4 7) rfl rfl (by kernel_rfl) (fun _ _ _ h => h) (Or.inl ⟨by rfl, ?_⟩) ?_ ?_
 rotate_left
 ·exact gz
 rotate_left
 ·exact pz
 refine pure_ (i := 3) (N := some 2) (v := ?_) (a' := ?_) (lb 4 15) rfl rfl (by kernel_rfl) (fun _ _ _ h => h) (Or.inl ⟨by rfl, ?_⟩) ?_ ?_
 rotate_left
 ·exact gz
 rotate_left
 ·exact pz
 refine done_ (by kernel_rfl) ?_
 try go_wp2
 go_ret
 exact ⟨ez, YA HB⟩
end
section
attribute [local go_sem] max2_int min2_int max_two min_two max_three min_three max_four min_four
attribute [local go_sem] Go.Proofs.YtdmadlfdibiejaaSet.isSome_setCell
def impl_rangeFrom.f (a0 : Int) (a1 : Int) : Option (Int × Int) := if (mx a0 (-2147483648)) > (mn a1 2147483647) then ((impl_rangeNone.f).bind fun u1 => (some (u1.1, u1.2))) else (some (mx a0 (-2147483648), mn a1 2147483647))
set_option maxHeartbeats 8000000 in
set_option maxRecDepth 100000 in
theorem impl_rangeFrom.calls (a0 : Int) (a1 : Int) (r1 : Int) (r2 : Int) (w : World) (h : impl_rangeFrom.f a0 a1 = some (r1, r2)) :
  Calls Try.prog 41 #[.int .i64 a0, .int .i64 a1] w fun e w' => e = .returned (.agg #[.int .i64 r1, .int .i64 r2]) ∧ Below w.heap.size w w' := by
 have hu33 := Try.underlying33
 have HB := am (Below.refl w.heap.size w)
 have H : (if (mx a0 (-2147483648)) > (mn a1 2147483647) then ((impl_rangeNone.f).bind fun u1 => (some (u1.1, u1.2))) else (some (mx a0 (-2147483648), mn a1 2147483647))) = some (r1, r2) := h
 clear h
 obtain ⟨i1, j8⟩ : ∃ j_ : Int, (mx a0 (-2147483648)) = j_ := ⟨_, rfl⟩
 replace H : (if (i1) > (mn a1 2147483647) then ((impl_rangeNone.f).bind fun u1 => (some (u1.1, u1.2))) else (some (i1, mn a1 2147483647))) = some (r1, r2) := by first | (rw [j8] at H; exact H) | (simp only [j8] at H ⊢; exact H)
 have hji3_ : (if a0 < (-2147483648) then (-2147483648) else a0) = i1 := j8
 obtain ⟨i2, j9⟩ : ∃ j_ : Int, (mn a1 2147483647) = j_ := ⟨_, rfl⟩
 replace H : (if (i1) > (i2) then ((impl_rangeNone.f).bind fun u1 => (some (u1.1, u1.2))) else (some (i1, i2))) = some (r1, r2) := by first | (rw [j9] at H; exact H) | (simp only [j9] at H ⊢; exact H)
 (try (have hji4h : i2 ≤ 2147483647 := by (rw [← j9]; unfold mn; (repeat' split) <;> omega)))
 (try (have hji4g : i2 ≤ 64 := by omega))
 have hji4_ : (if 2147483647 < a1 then 2147483647 else a1) = i2 := j9
 by_cases c1 : (i1) > (i2)
 rotate_left
 ·rw [if_neg c1] at H
  have d1 := dF c1
  clear c1
  simp only [Option.some.injEq, Prod.mk.injEq] at H
  obtain ⟨rfl, rfl⟩ := H
  go_enter Try.func41, Try.ntmps41
  go_wp2_with (first | ((with_reducible refine gate_dst (N := 4) rfl ?_); refine bxn 4 #[.int .i64 0, .int .i64 0] 33 HB fun g1 w1 K1 G1 hg hb => ?_; replace HB := am (below_step (YA HB) hb); clear hb hg) | ((with_reducible refine gate_dst (N := 5) rfl ?_); refine bxn 5 #[.int .i64 0, .int .i64 0] 33 HB fun g2 w2 K2 G2 hg hb => ?_; obtain ⟨N1,N2⟩ := ne_ hg K1; obtain ⟨K1, HB⟩ := bk1 K1 HB hb; clear hb hg; have z_ := ns1 N2; have z_ := cB2 K2; have z_ := cB2 K1))
  refine bodyPost_ret (results_cell_row rfl _ _ g1 33 #[.int .i64 i1, .int .i64 i2] (0, 0) _ rfl (by refine pf ?_; refine blk_put (cs := #[.int .i64 i1, .int .i64 0]) ?_ 1 _ rfl; refine pf ?_; refine blk_put (cs := #[.int .i64 0, .int .i64 0]) ?_ 0 _ rfl; refine fa N1 ?_; refine fa N1 ?_; exact Z K1) Try.underlying33 rfl (by kernel_rfl)) rfl ?_
  exact ⟨by first | rfl | (simp [errW_none, errW_some] <;> rfl) | (simp only [← j8, ← j9]; first | rfl | (simp [errW_none, errW_some] <;> rfl)) | (simp [*, errW_none, errW_some] <;> rfl), YA HB⟩
 rw [if_pos c1] at H
 have d1 := dT c1
 clear c1
 obtain ⟨⟨t1, t2⟩, A1, H⟩ := bd H
 try dsimp only at H
 simp only [Option.some.injEq, Prod.mk.injEq] at H
 obtain ⟨rfl, rfl⟩ := H
 go_enter Try.func41, Try.ntmps41
 go_wp2_with (first | ((with_reducible refine gate_dst (N := 4) rfl ?_); refine bxn 4 #[.int .i64 0, .int .i64 0] 33 HB fun g1 w1 K1 G1 hg hb => ?_; replace HB := am (below_step (YA HB) hb); clear hb hg) | ((with_reducible refine gate_dst (N := 5) rfl ?_); refine bxn 5 #[.int .i64 0, .int .i64 0] 33 HB fun g2 w2 K2 G2 hg hb => ?_; obtain ⟨N1,N2⟩ := ne_ hg K1; obtain ⟨K1, HB⟩ := bk1 K1 HB hb; clear hb hg; have z_ := ns1 N2; have z_ := cB2 K2) | ((with_reducible refine gate_callee (f := 38) rfl ?_); refine gL 16 Try.func38 (impl_rangeNone.calls _ _ _ A1.out) fun w3 hb => ?_; replace K1 := am (blk_below (g := g1) (o := b2 0 0 33) (by refine fa N1 ?_; refine fa N1 ?_; exact Z K1) hb); replace K2 := am (blk_below (g := g2) (o := b2 i1 i2 33) (by refine pf ?_; refine blk_put (cs := #[.int .i64 i1, .int .i64 0]) ?_ 1 _ rfl; refine pf ?_; refine blk_put (cs := #[.int .i64 0, .int .i64 0]) ?_ 0 _ rfl; exact Z K2) hb); replace HB := am (below_step (YA HB) hb); (try clear hb); have z_ := cB2 K1))
 refine bodyPost_ret (results_cell_row rfl _ _ g1 33 #[.int .i64 t1, .int .i64 t2] (0, 0) _ rfl (by refine pf ?_; refine blk_put (cs := #[.int .i64 t1, .int .i64 0]) ?_ 1 _ rfl; refine pf ?_; refine blk_put (cs := #[.int .i64 0, .int .i64 0]) ?_ 0 _ rfl; exact Z K1) Try.underlying33 rfl (by kernel_rfl)) rfl ?_
 exact ⟨by first | rfl | (simp [errW_none, errW_some] <;> rfl) | (simp only [← j8, ← j9]; first | rfl | (simp [errW_none, errW_some] <;> rfl)) | (simp [*, errW_none, errW_some] <;> rfl), YA HB⟩

def impl_RangeMeet.j0 : Nat → Bool → Int → Int → Int → Int → Option (Int × Int)
 | 0, _, _, _, _, _ => none
 | k + 1, x1, x2, x3, x4, x5 => if x1 = true then ((impl_rangeNone.f).bind fun u1 => (some (u1.1, u1.2))) else ((impl_rangeFrom.f (mx x2 x4) (mn x3 x5)).bind fun u2 => (some (u2.1, u2.2)))
def impl_RangeMeet.f (k : Nat) (a0_0 : Int) (a0_1 : Int) (a1_0 : Int) (a1_1 : Int) : Option (Int × Int) := (impl_RangeOk.f a0_0 a0_1).bind fun t1 => (if t1 = true then ((impl_RangeOk.f a1_0 a1_1).bind fun t2 => (if t2 = true then ((impl_Range_empty.f a0_0 a0_1).bind fun t3 => (if t3 = true then (impl_RangeMeet.j0 k true a0_0 a0_1 a1_0 a1_1) else ((impl_Range_empty.f a1_0 a1_1).bind fun t4 => (impl_RangeMeet.j0 k t4 a0_0 a0_1 a1_0 a1_1)))) else (impl_RangeMeet.j0 k true a0_0 a0_1 a1_0 a1_1))) else (impl_RangeMeet.j0 k true a0_0 a0_1 a1_0 a1_1))
theorem impl_RangeMeet.mono_l : ∀ k, (∀ y0 y1 y2 y3 y4, LeO (impl_RangeMeet.j0 k y0 y1 y2 y3 y4) (impl_RangeMeet.j0 (k + 1) y0 y1 y2 y3 y4))
 | 0 => fun _ _ _ _ _ r h => by simp [impl_RangeMeet.j0] at h
 | k + 1 => by
  have ih0 := impl_RangeMeet.mono_l k
  ·intro y0 y1 y2 y3 y4
   unfold impl_RangeMeet.j0
   repeat' first | (with_reducible first | apply ih0 | apply LeO.refl | apply LeO.none | refine LeO.ite ?_ ?_ | refine LeO.bind ?_ (fun _ => ?_)) | apply ih0 | apply LeO.none | refine LeO.ite ?_ ?_ | refine LeO.bind ?_ (fun _ => ?_)
theorem impl_RangeMeet.mono : ∀ a0 a1 a2 a3 k, LeO (impl_RangeMeet.f k a0 a1 a2 a3) (impl_RangeMeet.f (k + 1) a0 a1 a2 a3) := by
 intro a0 a1 a2 a3 k
 have ih0 := impl_RangeMeet.mono_l k
 unfold impl_RangeMeet.f
 repeat' first | (with_reducible first | apply ih0 | apply LeO.refl | apply LeO.none | refine LeO.ite ?_ ?_ | refine LeO.bind ?_ (fun _ => ?_)) | apply ih0 | apply LeO.none | refine LeO.ite ?_ ?_ | refine LeO.bind ?_ (fun _ => ?_)
set_option maxHeartbeats 8000000 in
set_option maxRecDepth 100000 in
theorem impl_RangeMeet.calls (k : Nat) (a0_0 : Int) (a0_1 : Int) (a1_0 : Int) (a1_1 : Int) (r1 : Int) (r2 : Int) (w : World) (h : impl_RangeMeet.f k a0_0 a0_1 a1_0 a1_1 = some (r1, r2)) :
  Calls Try.prog 39 #[.agg #[.int .i64 a0_0, .int .i64 a0_1], .agg #[.int .i64 a1_0, .int .i64 a1_1]] w fun e w' => e = .returned (.agg #[.int .i64 r1, .int .i64 r2]) ∧ Below w.heap.size w w' := by
 have hu33 := Try.underlying33
 have HB := am (Below.refl w.heap.size w)
 have H : ((impl_RangeOk.f a0_0 a0_1).bind fun t1 => (if t1 = true then ((impl_RangeOk.f a1_0 a1_1).bind fun t2 => (if t2 = true then ((impl_Range_empty.f a0_0 a0_1).bind fun t3 => (if t3 = true then (impl_RangeMeet.j0 k true a0_0 a0_1 a1_0 a1_1) else ((impl_Range_empty.f a1_0 a1_1).bind fun t4 => (impl_RangeMeet.j0 k t4 a0_0 a0_1 a1_0 a1_1)))) else (impl_RangeMeet.j0 k true a0_0 a0_1 a1_0 a1_1))) else (impl_RangeMeet.j0 k true a0_0 a0_1 a1_0 a1_1))) = some (r1, r2) := h
 clear h
 have C1 := am H
 clear H
 go_enter Try.func39, Try.ntmps39
 go_upto_region 1 with (first | ((with_reducible refine gate_dst (N := 2) rfl ?_); refine bxn 2 #[.int .i64 a0_0, .int .i64 a0_1] 33 HB fun g1 w1 K1 G1 hg hb => ?_; replace HB := am (below_step (YA HB) hb); clear hb hg) | ((with_reducible refine gate_dst (N := 3) rfl ?_); refine bxn 3 #[.int .i64 a1_0, .int .i64 a1_1] 33 HB fun g2 w2 K2 G2 hg hb => ?_; obtain ⟨N1,N2⟩ := ne_ hg K1; obtain ⟨K1, HB⟩ := bk1 K1 HB hb; clear hb hg) | ((with_reducible refine gate_dst (N := 4) rfl ?_); refine bxn 4 #[.int .i64 0, .int .i64 0] 33 HB fun g3 w3 K3 G3 hg hb => ?_; obtain ⟨N3,N4⟩ := ne_ hg K1; obtain ⟨N5,N6⟩ := ne_ hg K2; obtain ⟨K1, K2, HB⟩ := bk2 K1 K2 HB hb; clear hb hg))
 (try simp only [Act.put, List.setIfInBounds_toArray, List.set_cons_zero, List.set_cons_succ])
 go_cut [20] (fun v1 wc => ∃ (kq : Nat) (x1 : Bool), v1 = .bool x1 ∧ Aside0 (impl_RangeMeet.j0 kq x1 a0_0 a0_1 a1_0 a1_1 = some (r1, r2)) ∧ Aside0 (kq ≤ k) ∧ Bx2 wc g1 a0_0 a0_1 33 ∧ Bx2 wc g2 a1_0 a1_1 33 ∧ Bx2 wc g3 0 0 33 ∧ Aside0 (Below w.heap.size w wc))
 case first =>
  have H := C1.out
  clear C1
  obtain ⟨t1, A1, H⟩ := bd H
  try dsimp only at H
  by_cases c1 : t1 = true
  rotate_left
  ·replace c1 := Bool.eq_false_iff.mpr c1
   subst c1
   rw [if_neg ff] at H
   have H' := am H
   clear H
   have z_ := ns2 N1 N3
   have z_ := cB2 K1
   go_wp2_with (first | ((with_reducible refine gate_callee (f := 36) rfl ?_); refine gL 6 Try.func36 (impl_RangeOk.calls _ _ _ _ A1.out) fun w4 hb => ?_; obtain ⟨K1, K2, K3, HB⟩ := bk3 K1 K2 K3 HB hb; (try clear hb)))
   go_meet
   case rel => exact ⟨_, (true), ey, H', le0, ⟨Z K1⟩, ⟨Z K2⟩, ⟨Z K3⟩, ⟨YA HB⟩⟩
  subst c1
  rw [if_pos rfl] at H
  obtain ⟨t2, A2, H⟩ := bd H
  try dsimp only at H
  by_cases c2 : t2 = true
  rotate_left
  ·replace c2 := Bool.eq_false_iff.mpr c2
   subst c2
   rw [if_neg ff] at H
   have H' := am H
   clear H
   have z_ := ns2 N1 N3
   have z_ := cB2 K1
   go_wp2_with (first | ((with_reducible refine gate_callee (f := 36) rfl ?_); refine gL 6 Try.func36 (impl_RangeOk.calls _ _ _ _ A1.out) fun w4 hb => ?_; obtain ⟨K1, K2, K3, HB⟩ := bk3 K1 K2 K3 HB hb; (try clear hb); have z_ := ns1 N5; have z_ := cB2 K2) | (go_at_call 36; (with_reducible refine (impl_RangeOk.calls _ _ _ _ A2.out).mono ?_); rintro e w5 ⟨rfl, hb⟩; obtain ⟨K1, K2, K3, HB⟩ := bk3 K1 K2 K3 HB hb; (try clear hb)))
   go_meet
   case rel => exact ⟨_, (true), ey, H', le0, ⟨Z K1⟩, ⟨Z K2⟩, ⟨Z K3⟩, ⟨YA HB⟩⟩
  subst c2
  rw [if_pos rfl] at H
  obtain ⟨t3, A3, H⟩ := bd H
  try dsimp only at H
  by_cases c3 : t3 = true
  ·subst c3
   rw [if_pos rfl] at H
   have H' := am H
   clear H
   have z_ := ns2 N1 N3
   have z_ := cB2 K1
   go_wp2_with (first | ((with_reducible refine gate_callee (f := 36) rfl ?_); refine gL 6 Try.func36 (impl_RangeOk.calls _ _ _ _ A1.out) fun w4 hb => ?_; obtain ⟨K1, K2, K3, HB⟩ := bk3 K1 K2 K3 HB hb; (try clear hb); have z_ := ns1 N5; have z_ := cB2 K2) | (go_at_call 36; (with_reducible refine (impl_RangeOk.calls _ _ _ _ A2.out).mono ?_); rintro e w5 ⟨rfl, hb⟩; obtain ⟨K1, K2, K3, HB⟩ := bk3 K1 K2 K3 HB hb; (try clear hb); have z_ := cB2 K1) | (go_at_call 37; (with_reducible refine (impl_Range_empty.calls _ _ _ _ A3.out).mono ?_); rintro e w6 ⟨rfl, hb⟩; obtain ⟨K1, K2, K3, HB⟩ := bk3 K1 K2 K3 HB hb; (try clear hb)))
   go_meet
   case rel => exact ⟨_, (true), ey, H', le0, ⟨Z K1⟩, ⟨Z K2⟩, ⟨Z K3⟩, ⟨YA HB⟩⟩
  replace c3 := Bool.eq_false_iff.mpr c3
  subst c3
  rw [if_neg ff] at H
  obtain ⟨t4, A4, H⟩ := bd H
  try dsimp only at H
  have H' := am H
  clear H
  have z_ := ns2 N1 N3
  have z_ := cB2 K1
  go_wp2_with (first | ((with_reducible refine gate_callee (f := 36) rfl ?_); refine gL 6 Try.func36 (impl_RangeOk.calls _ _ _ _ A1.out) fun w4 hb => ?_; obtain ⟨K1, K2, K3, HB⟩ := bk3 K1 K2 K3 HB hb; (try clear hb); have z_ := ns1 N5; have z_ := cB2 K2) | (go_at_call 36; (with_reducible refine (impl_RangeOk.calls _ _ _ _ A2.out).mono ?_); rintro e w5 ⟨rfl, hb⟩; obtain ⟨K1, K2, K3, HB⟩ := bk3 K1 K2 K3 HB hb; (try clear hb); have z_ := cB2 K1) | (go_at_call 37; (with_reducible refine (impl_Range_empty.calls _ _ _ _ A3.out).mono ?_); rintro e w6 ⟨rfl, hb⟩; obtain ⟨K1, K2, K3, HB⟩ := bk3 K1 K2 K3 HB hb; (try clear hb); have z_ := cB2 K2) | (go_at_call 37; (with_reducible refine (impl_Range_empty.calls _ _ _ _ A4.out).mono ?_); rintro e w7 ⟨rfl, hb⟩; obtain ⟨K1, K2, K3, HB⟩ := bk3 K1 K2 K3 HB hb; (try clear hb)))
  go_meet
  case rel => exact ⟨_, (t4), ey, H', le0, ⟨Z K1⟩, ⟨Z K2⟩, ⟨Z K3⟩, ⟨YA HB⟩⟩
 case rest =>
  clear C1
  obtain ⟨kq, x1, rfl, HA, J1, K1, K2, K3, HB⟩ := hcut
  cases kq with
  | zero => exact absurd HA.out (by simp [impl_RangeMeet.j0])
  | succ k1 =>
   have H := HA.out
   clear HA
   simp only [impl_RangeMeet.j0] at H
   by_cases c1 : x1 = true
   ·subst c1
    rw [if_pos rfl] at H
    obtain ⟨⟨t5, t6⟩, A1, H⟩ := bd H
    try dsimp only at H
    simp only [Option.some.injEq, Prod.mk.injEq] at H
    obtain ⟨rfl, rfl⟩ := H
    go_wp2_with (first | ((with_reducible refine gate_callee (f := 38) rfl ?_); refine gL 21 Try.func38 (impl_rangeNone.calls _ _ _ A1.out) fun w4 hb => ?_; obtain ⟨K1, K2, K3, HB⟩ := bk3 K1 K2 K3 HB hb; (try clear hb); have z_ := ns2 N4 N6; have z_ := cB2 K3))
    refine bodyPost_ret (results_cell_row rfl _ _ g3 33 #[.int .i64 t5, .int .i64 t6] (0, 0) _ rfl (by refine pf ?_; refine blk_put (cs := #[.int .i64 t5, .int .i64 0]) ?_ 1 _ rfl; refine pf ?_; refine blk_put (cs := #[.int .i64 0, .int .i64 0]) ?_ 0 _ rfl; exact Z K3) Try.underlying33 rfl (by kernel_rfl)) rfl ?_
    exact ⟨ez, YA HB⟩
   replace c1 := Bool.eq_false_iff.mpr c1
   subst c1
   rw [if_neg ff] at H
   obtain ⟨i1, j8⟩ : ∃ j_ : Int, (mx a0_0 a1_0) = j_ := ⟨_, rfl⟩
   replace H : ((impl_rangeFrom.f (i1) (mn a0_1 a1_1)).bind fun u1 => (some (u1.1, u1.2))) = some (r1, r2) := by first | (rw [j8] at H; exact H) | (simp only [j8] at H ⊢; exact H)
   have hji51_ : (if a0_0 < a1_0 then a1_0 else a0_0) = i1 := j8
   obtain ⟨i2, j9⟩ : ∃ j_ : Int, (mn a0_1 a1_1) = j_ := ⟨_, rfl⟩
   replace H : ((impl_rangeFrom.f (i1) (i2)).bind fun u1 => (some (u1.1, u1.2))) = some (r1, r2) := by first | (rw [j9] at H; exact H) | (simp only [j9] at H ⊢; exact H)
   have hji52_ : (if a1_1 < a0_1 then a1_1 else a0_1) = i2 := j9
   obtain ⟨⟨t5, t6⟩, A1, H⟩ := bd H
   try dsimp only at H
   simp only [Option.some.injEq, Prod.mk.injEq] at H
   obtain ⟨rfl, rfl⟩ := H
   have z_ := ns3 N1 N3 N5
   have z_ := cB2 K1
   have z_ := cB2 K2
   go_wp2_with (first | ((with_reducible refine gate_callee (f := 41) rfl ?_); refine goesL_ (some 32) rfl rfl Try.func41 (by kernel_rfl) rfl #[.int .i64 i1, .int .i64 i2] rfl (by (try simp only [List.map_toArray, List.map_cons, List.map_nil]); first | done | (simp only [j8, j9]; rfl) | rfl | (simp only [List.length_drop, List.length_take]; rfl)) ?_; (with_reducible refine (impl_rangeFrom.calls _ _ _ _ _ A1.out).mono ?_); rintro e w4 ⟨rfl, hb⟩; refine ⟨_, rfl, ?_⟩; obtain ⟨K1, K2, K3, HB⟩ := bk3 K1 K2 K3 HB hb; (try clear hb); have z_ := cB2 K3))
   refine bodyPost_ret (results_cell_row rfl _ _ g3 33 #[.int .i64 t5, .int .i64 t6] (0, 0) _ rfl (by refine pf ?_; refine blk_put (cs := #[.int .i64 t5, .int .i64 0]) ?_ 1 _ rfl; refine pf ?_; refine blk_put (cs := #[.int .i64 0, .int .i64 0]) ?_ 0 _ rfl; exact Z K3) Try.underlying33 rfl (by kernel_rfl)) rfl ?_
   exact ⟨by first | rfl | (simp [errW_none, errW_some] <;> rfl) | (simp only [← j8, ← j9]; first | rfl | (simp [errW_none, errW_some] <;> rfl)) | (simp [*, errW_none, errW_some] <;> rfl), YA HB⟩

def impl_Range_single.f (a0_0 : Int) (a0_1 : Int) : Option (Bool) := some (a0_0 == a0_1)
set_option maxHeartbeats 8000000 in
set_option maxRecDepth 100000 in
theorem impl_Range_single.calls (a0_0 : Int) (a0_1 : Int) (r : Bool) (w : World) (h : impl_Range_single.f a0_0 a0_1 = some r) :
  Calls Try.prog 53 #[.agg #[.int .i64 a0_0, .int .i64 a0_1]] w fun e w' => e = .returned (.bool r) ∧ Below w.heap.size w w' := by
 have hu33 := Try.underlying33
 have HB := am (Below.refl w.heap.size w)
 have H : (some (a0_0 == a0_1)) = some r := h
 clear h
 obtain rfl := Option.some.inj H
 go_enter Try.func53, Try.ntmps53
 go_wp2_with (first | ((with_reducible refine gate_dst (N := 1) rfl ?_); refine bxn 1 #[.int .i64 a0_0, .int .i64 a0_1] 33 HB fun g1 w1 K1 G1 hg hb => ?_; replace HB := am (below_step (YA HB) hb); clear hb hg; have z_ := cB2 K1))
 go_ret
 exact ⟨ez, YA HB⟩

def impl_rangeWithout.j0 : Nat → Bool → Int → Int → Int → Int → Option (Int × Int)
 | 0, _, _, _, _, _ => none
 | k + 1, x1, x2, x3, x4, x5 => if x1 = true then ((impl_rangeFrom.f (wrap64 (x2 + 1)) x3).bind fun u1 => (some (u1.1, u1.2))) else ((impl_Range_single.f x4 x5).bind fun t1 => (if t1 = true then (if x4 = x3 then ((impl_rangeFrom.f x2 (wrap64 (x3 - 1))).bind fun u2 => (some (u2.1, u2.2))) else (some (x2, x3))) else (some (x2, x3))))
def impl_rangeWithout.f (k : Nat) (a0_0 : Int) (a0_1 : Int) (a1_0 : Int) (a1_1 : Int) : Option (Int × Int) := (impl_Range_single.f a1_0 a1_1).bind fun t1 => (if t1 = true then (impl_rangeWithout.j0 k (a1_0 == a0_0) a0_0 a0_1 a1_0 a1_1) else (impl_rangeWithout.j0 k false a0_0 a0_1 a1_0 a1_1))
theorem impl_rangeWithout.mono_l : ∀ k, (∀ y0 y1 y2 y3 y4, LeO (impl_rangeWithout.j0 k y0 y1 y2 y3 y4) (impl_rangeWithout.j0 (k + 1) y0 y1 y2 y3 y4))
 | 0 => fun _ _ _ _ _ r h => by simp [impl_rangeWithout.j0] at h
 | k + 1 => by
  have ih0 := impl_rangeWithout.mono_l k
  ·intro y0 y1 y2 y3 y4
   unfold impl_rangeWithout.j0
   repeat' first | (with_reducible first | apply ih0 | apply LeO.refl | apply LeO.none | refine LeO.ite ?_ ?_ | refine LeO.bind ?_ (fun _ => ?_)) | apply ih0 | apply LeO.none | refine LeO.ite ?_ ?_ | refine LeO.bind ?_ (fun _ => ?_)
theorem impl_rangeWithout.mono : ∀ a0 a1 a2 a3 k, LeO (impl_rangeWithout.f k a0 a1 a2 a3) (impl_rangeWithout.f (k + 1) a0 a1 a2 a3) := by
 intro a0 a1 a2 a3 k
 have ih0 := impl_rangeWithout.mono_l k
 unfold impl_rangeWithout.f
 repeat' first | (with_reducible first | apply ih0 | apply LeO.refl | apply LeO.none | refine LeO.ite ?_ ?_ | refine LeO.bind ?_ (fun _ => ?_)) | apply ih0 | apply LeO.none | refine LeO.ite ?_ ?_ | refine LeO.bind ?_ (fun _ => ?_)
set_option maxHeartbeats 8000000 in
set_option maxRecDepth 100000 in
theorem impl_rangeWithout.calls (k : Nat) (a0_0 : Int) (a0_1 : Int) (a1_0 : Int) (a1_1 : Int) (r1 : Int) (r2 : Int) (w : World) (h : impl_rangeWithout.f k a0_0 a0_1 a1_0 a1_1 = some (r1, r2)) :
  Calls Try.prog 40 #[.agg #[.int .i64 a0_0, .int .i64 a0_1], .agg #[.int .i64 a1_0, .int .i64 a1_1]] w fun e w' => e = .returned (.agg #[.int .i64 r1, .int .i64 r2]) ∧ Below w.heap.size w w' := by
 have hu33 := Try.underlying33
 have HB := am (Below.refl w.heap.size w)
 have H : ((impl_Range_single.f a1_0 a1_1).bind fun t1 => (if t1 = true then (impl_rangeWithout.j0 k (a1_0 == a0_0) a0_0 a0_1 a1_0 a1_1) else (impl_rangeWithout.j0 k false a0_0 a0_1 a1_0 a1_1))) = some (r1, r2) := h
 clear h
 have C1 := am H
 clear H
 go_enter Try.func40, Try.ntmps40
 go_upto_region 1 with (first | ((with_reducible refine gate_dst (N := 2) rfl ?_); refine bxn 2 #[.int .i64 a0_0, .int .i64 a0_1] 33 HB fun g1 w1 K1 G1 hg hb => ?_; replace HB := am (below_step (YA HB) hb); clear hb hg) | ((with_reducible refine gate_dst (N := 3) rfl ?_); refine bxn 3 #[.int .i64 a1_0, .int .i64 a1_1] 33 HB fun g2 w2 K2 G2 hg hb => ?_; obtain ⟨N1,N2⟩ := ne_ hg K1; obtain ⟨K1, HB⟩ := bk1 K1 HB hb; clear hb hg) | ((with_reducible refine gate_dst (N := 4) rfl ?_); refine bxn 4 #[.int .i64 0, .int .i64 0] 33 HB fun g3 w3 K3 G3 hg hb => ?_; obtain ⟨N3,N4⟩ := ne_ hg K1; obtain ⟨N5,N6⟩ := ne_ hg K2; obtain ⟨K1, K2, HB⟩ := bk2 K1 K2 HB hb; clear hb hg))
 (try simp only [Act.put, List.setIfInBounds_toArray, List.set_cons_zero, List.set_cons_succ])
 go_cut [5] (fun v1 wc => ∃ (kq : Nat) (x1 : Bool), v1 = .bool x1 ∧ Aside0 (impl_rangeWithout.j0 kq x1 a0_0 a0_1 a1_0 a1_1 = some (r1, r2)) ∧ Aside0 (kq ≤ k) ∧ Bx2 wc g1 a0_0 a0_1 33 ∧ Bx2 wc g2 a1_0 a1_1 33 ∧ Bx2 wc g3 0 0 33 ∧ Aside0 (Below w.heap.size w wc))
 case first =>
  have H := C1.out
  clear C1
  obtain ⟨t1, A1, H⟩ := bd H
  try dsimp only at H
  by_cases c1 : t1 = true
  rotate_left
  ·replace c1 := Bool.eq_false_iff.mpr c1
   subst c1
   rw [if_neg ff] at H
   have H' := am H
   clear H
   have z_ := ns2 N2 N5
   have z_ := cB2 K2
   go_wp2_with (first | ((with_reducible refine gate_callee (f := 53) rfl ?_); refine gL 7 Try.func53 (impl_Range_single.calls _ _ _ _ A1.out) fun w4 hb => ?_; obtain ⟨K1, K2, K3, HB⟩ := bk3 K1 K2 K3 HB hb; (try clear hb)))
   go_meet
   case rel => exact ⟨_, (false), ey, H', le0, ⟨Z K1⟩, ⟨Z K2⟩, ⟨Z K3⟩, ⟨YA HB⟩⟩
  subst c1
  rw [if_pos rfl] at H
  have H' := am H
  clear H
  have z_ := ns2 N2 N5
  have z_ := cB2 K2
  go_wp2_with (first | ((with_reducible refine gate_callee (f := 53) rfl ?_); refine gL 7 Try.func53 (impl_Range_single.calls _ _ _ _ A1.out) fun w4 hb => ?_; obtain ⟨K1, K2, K3, HB⟩ := bk3 K1 K2 K3 HB hb; (try clear hb); have z_ := ns1 N3; have z_ := cB2 K2; have z_ := cB2 K1))
  go_meet
  case rel => exact ⟨_, ((a1_0 == a0_0)), ey, H', le0, ⟨Z K1⟩, ⟨Z K2⟩, ⟨Z K3⟩, ⟨YA HB⟩⟩
 case rest =>
  clear C1
  obtain ⟨kq, x1, rfl, HA, J1, K1, K2, K3, HB⟩ := hcut
  cases kq with
  | zero => exact absurd HA.out (by simp [impl_rangeWithout.j0])
  | succ k1 =>
   have H := HA.out
   clear HA
   simp only [impl_rangeWithout.j0] at H
   by_cases c1 : x1 = true
   ·subst c1
    rw [if_pos rfl] at H
    obtain ⟨⟨t2, t3⟩, A1, H⟩ := bd H
    try dsimp only at H
    simp only [Option.some.injEq, Prod.mk.injEq] at H
    obtain ⟨rfl, rfl⟩ := H
    have z_ := ns2 N1 N3
    have z_ := cB2 K1
    go_wp2_with (first | ((with_reducible refine gate_callee (f := 41) rfl ?_); refine gL 20 Try.func41 (impl_rangeFrom.calls _ _ _ _ _ A1.out) fun w4 hb => ?_; obtain ⟨K1, K2, K3, HB⟩ := bk3 K1 K2 K3 HB hb; (try clear hb); have z_ := ns1 N6; have z_ := cB2 K3))
    refine bodyPost_ret (results_cell_row rfl _ _ g3 33 #[.int .i64 t2, .int .i64 t3] (0, 0) _ rfl (by refine pf ?_; refine blk_put (cs := #[.int .i64 t2, .int .i64 0]) ?_ 1 _ rfl; refine pf ?_; refine blk_put (cs := #[.int .i64 0, .int .i64 0]) ?_ 0 _ rfl; exact Z K3) Try.underlying33 rfl (by kernel_rfl)) rfl ?_
    exact ⟨ez, YA HB⟩
   replace c1 := Bool.eq_false_iff.mpr c1
   subst c1
   rw [if_neg ff] at H
   obtain ⟨t2, A1, H⟩ := bd H
   try dsimp only at H
   by_cases c2 : t2 = true
   rotate_left
   ·replace c2 := Bool.eq_false_iff.mpr c2
    subst c2
    rw [if_neg ff] at H
    simp only [Option.some.injEq, Prod.mk.injEq] at H
    obtain ⟨rfl, rfl⟩ := H
    have z_ := ns2 N2 N5
    have z_ := cB2 K2
    go_wp2_with (first | ((with_reducible refine gate_callee (f := 53) rfl ?_); refine gL 23 Try.func53 (impl_Range_single.calls _ _ _ _ A1.out) fun w4 hb => ?_; obtain ⟨K1, K2, K3, HB⟩ := bk3 K1 K2 K3 HB hb; (try clear hb); have z_ := ns1 N3; have z_ := cB2 K1; have z_ := cB2 K3))
    refine bodyPost_ret (results_cell_row rfl _ _ g3 33 #[.int .i64 a0_0, .int .i64 a0_1] (0, 0) _ rfl (by refine pf ?_; refine blk_put (cs := #[.int .i64 a0_0, .int .i64 0]) ?_ 1 _ rfl; refine pf ?_; refine blk_put (cs := #[.int .i64 0, .int .i64 0]) ?_ 0 _ rfl; exact Z K3) Try.underlying33 rfl (by kernel_rfl)) rfl ?_
    exact ⟨ez, YA HB⟩
   subst c2
   rw [if_pos rfl] at H
   by_cases c3 : a1_0 = a0_1
   rotate_left
   ·rw [if_neg c3] at H
    have d1 := eF c3
    have d2 := nT c3
    simp only [Option.some.injEq, Prod.mk.injEq] at H
    obtain ⟨rfl, rfl⟩ := H
    have z_ := ns2 N2 N5
    have z_ := cB2 K2
    go_wp2_with (first | ((with_reducible refine gate_callee (f := 53) rfl ?_); refine gL 23 Try.func53 (impl_Range_single.calls _ _ _ _ A1.out) fun w4 hb => ?_; obtain ⟨K1, K2, K3, HB⟩ := bk3 K1 K2 K3 HB hb; (try clear hb); have z_ := ns1 N3; have z_ := cB2 K2; have z_ := cB2 K1; have z_ := cB2 K3))
    refine bodyPost_ret (results_cell_row rfl _ _ g3 33 #[.int .i64 a0_0, .int .i64 a0_1] (0, 0) _ rfl (by refine pf ?_; refine blk_put (cs := #[.int .i64 a0_0, .int .i64 0]) ?_ 1 _ rfl; refine pf ?_; refine blk_put (cs := #[.int .i64 0, .int .i64 0]) ?_ 0 _ rfl; exact Z K3) Try.underlying33 rfl (by kernel_rfl)) rfl ?_
    exact ⟨ez, YA HB⟩
   rw [if_pos c3] at H
   have d1 := eT c3
   have d2 := nF c3
   clear c3
   obtain ⟨⟨t3, t4⟩, A2, H⟩ := bd H
   try dsimp only at H
   simp only [Option.some.injEq, Prod.mk.injEq] at H
   obtain ⟨rfl, rfl⟩ := H
   have z_ := ns2 N2 N5
   have z_ := cB2 K2
   go_wp2_with (first | ((with_reducible refine gate_callee (f := 53) rfl ?_); refine gL 23 Try.func53 (impl_Range_single.calls _ _ _ _ A1.out) fun w4 hb => ?_; obtain ⟨K1, K2, K3, HB⟩ := bk3 K1 K2 K3 HB hb; (try clear hb); have z_ := ns1 N3; have z_ := cB2 K2; have z_ := cB2 K1) | ((with_reducible refine gate_callee (f := 41) rfl ?_); refine gL 36 Try.func41 (impl_rangeFrom.calls _ _ _ _ _ A2.out) fun w5 hb => ?_; obtain ⟨K1, K2, K3, HB⟩ := bk3 K1 K2 K3 HB hb; (try clear hb); have z_ := cB2 K3))
   refine bodyPost_ret (results_cell_row rfl _ _ g3 33 #[.int .i64 t3, .int .i64 t4] (0, 0) _ rfl (by refine pf ?_; refine blk_put (cs := #[.int .i64 t3, .int .i64 0]) ?_ 1 _ rfl; refine pf ?_; refine blk_put (cs := #[.int .i64 0, .int .i64 0]) ?_ 0 _ rfl; exact Z K3) Try.underlying33 rfl (by kernel_rfl)) rfl ?_
   exact ⟨ez, YA HB⟩

def impl_CmpTurn.j0 : Nat → Int → Int → Bool → Option (Int)
 | 0, _, _, _ => none
 | k + 1, x1, x2, x3 => if x3 = true then (some x1) else (if x2 = 3 then (some 5) else (if x2 = 4 then (some 6) else (if x2 = 5 then (some 3) else (if x2 = 6 then (some 4) else (some 0)))))
def impl_CmpTurn.f (k : Nat) (a0 : Int) : Option (Int) := if a0 = 1 then (impl_CmpTurn.j0 k a0 a0 (a0 == 1)) else (impl_CmpTurn.j0 k a0 a0 (a0 == 2))
theorem impl_CmpTurn.mono_l : ∀ k, (∀ y0 y1 y2, LeO (impl_CmpTurn.j0 k y0 y1 y2) (impl_CmpTurn.j0 (k + 1) y0 y1 y2))
 | 0 => fun _ _ _ r h => by simp [impl_CmpTurn.j0] at h
 | k + 1 => by
  have ih0 := impl_CmpTurn.mono_l k
  ·intro y0 y1 y2
   unfold impl_CmpTurn.j0
   repeat' first | (with_reducible first | apply ih0 | apply LeO.refl | apply LeO.none | refine LeO.ite ?_ ?_ | refine LeO.bind ?_ (fun _ => ?_)) | apply ih0 | apply LeO.none | refine LeO.ite ?_ ?_ | refine LeO.bind ?_ (fun _ => ?_)
theorem impl_CmpTurn.mono : ∀ a0 k, LeO (impl_CmpTurn.f k a0) (impl_CmpTurn.f (k + 1) a0) := by
 intro a0 k
 have ih0 := impl_CmpTurn.mono_l k
 unfold impl_CmpTurn.f
 repeat' first | (with_reducible first | apply ih0 | apply LeO.refl | apply LeO.none | refine LeO.ite ?_ ?_ | refine LeO.bind ?_ (fun _ => ?_)) | apply ih0 | apply LeO.none | refine LeO.ite ?_ ?_ | refine LeO.bind ?_ (fun _ => ?_)
set_option maxHeartbeats 8000000 in
set_option maxRecDepth 100000 in
theorem impl_CmpTurn.calls (k : Nat) (a0 : Int) (r : Int) (w : World) (h : impl_CmpTurn.f k a0 = some r) :
  Calls Try.prog 42 #[.int .i64 a0] w fun e w' => e = .returned (.int .i64 r) ∧ Drawn0 w w' := by
 have H : (if a0 = 1 then (impl_CmpTurn.j0 k a0 a0 (a0 == 1)) else (impl_CmpTurn.j0 k a0 a0 (a0 == 2))) = some r := h
 clear h
 have C1 := am H
 clear H
 go_enter Try.func42, Try.ntmps42
 go_upto_if 4 with (fail)
 go_cut [4] (fun v1 wc => ∃ (kq : Nat) (x1 : Bool), v1 = .bool x1 ∧ Aside0 (impl_CmpTurn.j0 kq a0 a0 x1 = some r) ∧ Aside0 (kq ≤ k) ∧ Drawn0 w wc)
 case first =>
  have H := C1.out
  clear C1
  by_cases c1 : a0 = 1
  rotate_left
  ·rw [if_neg c1] at H
   have d1 := eF c1
   have d2 := nT c1
   (first | rw [d1] | (simp only [i64_w, i32_w]; rw [d1]) | skip)
   have H' := am H
   clear H
   go_wp2
   go_meet
   case rel => exact ⟨_, ((a0 == 2)), ey, H', le0, by repeat (first | exact Drawn0.refl _ | apply Drawn0.step)⟩
  rw [if_pos c1] at H
  have d1 := eT c1
  have d2 := nF c1
  clear c1
  (first | rw [d1] | (simp only [i64_w, i32_w]; rw [d1]) | skip)
  have H' := am H
  clear H
  go_wp2
  go_meet
  case rel => exact ⟨_, ((a0 == 1)), ey, H', le0, by repeat (first | exact Drawn0.refl _ | apply Drawn0.step)⟩
 case rest =>
  clear C1
  obtain ⟨kq, x1, rfl, HA, J1, ⟨mc1, rfl⟩⟩ := hcut
  cases kq with
  | zero => exact absurd HA.out (by simp [impl_CmpTurn.j0])
  | succ k1 =>
   have H := HA.out
   clear HA
   simp only [impl_CmpTurn.j0] at H
   by_cases c1 : x1 = true
   ·subst c1
    rw [if_pos rfl] at H
    obtain rfl := Option.some.inj H
    go_wp2
    go_ret
    exact ⟨by first | rfl | (simp; done) | (simp [*]; done), by repeat (first | exact Drawn0.refl _ | apply Drawn0.step)⟩
   replace c1 := Bool.eq_false_iff.mpr c1
   subst c1
   rw [if_neg ff] at H
   by_cases c2 : a0 = 3
   ·rw [if_pos c2] at H
    have d1 := eT c2
    have d2 := nF c2
    clear c2
    obtain rfl := Option.some.inj H
    go_wp2
    go_ret
    exact ⟨by first | rfl | (simp; done) | (simp [*]; done), by repeat (first | exact Drawn0.refl _ | apply Drawn0.step)⟩
   rw [if_neg c2] at H
   have d1 := eF c2
   have d2 := nT c2
   by_cases c3 : a0 = 4
   ·rw [if_pos c3] at H
    have d3 := eT c3
    have d4 := nF c3
    clear c3
    obtain rfl := Option.some.inj H
    go_wp2
    go_ret
    exact ⟨by first | rfl | (simp; done) | (simp [*]; done), by repeat (first | exact Drawn0.refl _ | apply Drawn0.step)⟩
   rw [if_neg c3] at H
   have d3 := eF c3
   have d4 := nT c3
   by_cases c4 : a0 = 5
   ·rw [if_pos c4] at H
    have d5 := eT c4
    have d6 := nF c4
    clear c4
    obtain rfl := Option.some.inj H
    go_wp2
    go_ret
    exact ⟨by first | rfl | (simp; done) | (simp [*]; done), by repeat (first | exact Drawn0.refl _ | apply Drawn0.step)⟩
   rw [if_neg c4] at H
   have d5 := eF c4
   have d6 := nT c4
   by_cases c5 : a0 = 6
   rotate_left
   ·rw [if_neg c5] at H
    have d7 := eF c5
    have d8 := nT c5
    obtain rfl := Option.some.inj H
    go_wp2
    go_ret
    exact ⟨by first | rfl | (simp; done) | (simp [*]; done), by repeat (first | exact Drawn0.refl _ | apply Drawn0.step)⟩
   rw [if_pos c5] at H
   have d7 := eT c5
   have d8 := nF c5
   clear c5
   obtain rfl := Option.some.inj H
   go_wp2
   go_ret
   exact ⟨by first | rfl | (simp; done) | (simp [*]; done), by repeat (first | exact Drawn0.refl _ | apply Drawn0.step)⟩
end
section
attribute [local go_sem] max2_int min2_int max_two min_two max_three min_three max_four min_four
attribute [local go_sem] Go.Proofs.YtdmadlfdibiejaaSet.isSome_setCell
mutual
def impl_RangeCmp.j0 : Nat → Int → Bool → Int → Int → Int → Int → Option (Int × Int × Int × Int)
 | 0, _, _, _, _, _, _ => none
 | k + 1, x1, x2, x3, x4, x5, x6 => if x2 = true then ((impl_rangeNone.f).bind fun u1 => ((impl_rangeNone.f).bind fun u2 => (some (u1.1, u1.2, u2.1, u2.2)))) else (if x1 = 1 then ((impl_RangeMeet.f k x3 x4 x5 x6).bind fun u3 => (impl_RangeCmp.j2 k u3.1 u3.2 u3.1 u3.2)) else (if x1 = 2 then ((impl_rangeWithout.f k x3 x4 x5 x6).bind fun u4 => ((impl_rangeWithout.f k x5 x6 x3 x4).bind fun u5 => (impl_RangeCmp.j2 k u4.1 u4.2 u5.1 u5.2))) else (if x1 = 3 then ((impl_rangeFrom.f x3 (mn x4 (wrap64 (x6 - 1)))).bind fun u6 => ((impl_rangeFrom.f (mx x5 (wrap64 (x3 + 1))) x6).bind fun u7 => (impl_RangeCmp.j2 k u6.1 u6.2 u7.1 u7.2))) else (if x1 = 4 then ((impl_rangeFrom.f x3 (mn x4 x6)).bind fun u8 => ((impl_rangeFrom.f (mx x5 x3) x6).bind fun u9 => (impl_RangeCmp.j2 k u8.1 u8.2 u9.1 u9.2))) else (if x1 = 5 then (impl_RangeCmp.j1 k x1 (x1 == 5) x3 x4 x5 x6) else (impl_RangeCmp.j1 k x1 (x1 == 6) x3 x4 x5 x6))))))
def impl_RangeCmp.j2 : Nat → Int → Int → Int → Int → Option (Int × Int × Int × Int)
 | 0, _, _, _, _ => none
 | k + 1, x1, x2, x3, x4 => (impl_Range_empty.f x1 x2).bind fun t1 => (if t1 = true then (impl_RangeCmp.j3 k true x1 x2 x3 x4) else ((impl_Range_empty.f x3 x4).bind fun t2 => (impl_RangeCmp.j3 k t2 x1 x2 x3 x4)))
def impl_RangeCmp.j3 : Nat → Bool → Int → Int → Int → Int → Option (Int × Int × Int × Int)
 | 0, _, _, _, _, _ => none
 | k + 1, x1, x2, x3, x4, x5 => if x1 = true then ((impl_rangeNone.f).bind fun u1 => ((impl_rangeNone.f).bind fun u2 => (some (u1.1, u1.2, u2.1, u2.2)))) else (some (x2, x3, x4, x5))
def impl_RangeCmp.j1 : Nat → Int → Bool → Int → Int → Int → Int → Option (Int × Int × Int × Int)
 | 0, _, _, _, _, _, _ => none
 | k + 1, x1, x2, x3, x4, x5, x6 => if x2 = true then ((impl_CmpTurn.f k x1).bind fun t1 => ((impl_RangeCmp.f k t1 x5 x6 x3 x4).bind fun u1 => (impl_RangeCmp.j2 k u1.2.2.1 u1.2.2.2 u1.1 u1.2.1))) else ((impl_rangeNone.f).bind fun u2 => ((impl_rangeNone.f).bind fun u3 => (some (u2.1, u2.2, u3.1, u3.2))))
def impl_RangeCmp.f : Nat → Int → Int → Int → Int → Int → Option (Int × Int × Int × Int)
 | 0, _, _, _, _, _ => none
 | k + 1, a0, a1_0, a1_1, a2_0, a2_1 => (impl_RangeOk.f a1_0 a1_1).bind fun t1 => (if t1 = true then ((impl_RangeOk.f a2_0 a2_1).bind fun t2 => (if t2 = true then ((impl_Range_empty.f a1_0 a1_1).bind fun t3 => (if t3 = true then (impl_RangeCmp.j0 k a0 true a1_0 a1_1 a2_0 a2_1) else ((impl_Range_empty.f a2_0 a2_1).bind fun t4 => (impl_RangeCmp.j0 k a0 t4 a1_0 a1_1 a2_0 a2_1)))) else (impl_RangeCmp.j0 k a0 true a1_0 a1_1 a2_0 a2_1))) else (impl_RangeCmp.j0 k a0 true a1_0 a1_1 a2_0 a2_1))
end
theorem impl_RangeCmp.mono_l : ∀ k, (∀ y0 y1 y2 y3 y4, LeO (impl_RangeCmp.f k y0 y1 y2 y3 y4) (impl_RangeCmp.f (k + 1) y0 y1 y2 y3 y4)) ∧ (∀ y0 y1 y2 y3 y4 y5, LeO (impl_RangeCmp.j0 k y0 y1 y2 y3 y4 y5) (impl_RangeCmp.j0 (k + 1) y0 y1 y2 y3 y4 y5)) ∧ (∀ y0 y1 y2 y3, LeO (impl_RangeCmp.j2 k y0 y1 y2 y3) (impl_RangeCmp.j2 (k + 1) y0 y1 y2 y3)) ∧ (∀ y0 y1 y2 y3 y4, LeO (impl_RangeCmp.j3 k y0 y1 y2 y3 y4) (impl_RangeCmp.j3 (k + 1) y0 y1 y2 y3 y4)) ∧ (∀ y0 y1 y2 y3 y4 y5, LeO (impl_RangeCmp.j1 k y0 y1 y2 y3 y4 y5) (impl_RangeCmp.j1 (k + 1) y0 y1 y2 y3 y4 y5))
 | 0 => ⟨fun _ _ _ _ _ r h => by simp [impl_RangeCmp.f] at h, fun _ _ _ _ _ _ r h => by simp [impl_RangeCmp.j0] at h, fun _ _ _ _ r h => by simp [impl_RangeCmp.j2] at h, fun _ _ _ _ _ r h => by simp [impl_RangeCmp.j3] at h, fun _ _ _ _ _ _ r h => by simp [impl_RangeCmp.j1] at h⟩
 | k + 1 => by
  obtain ⟨ih0, ih1, ih2, ih3, ih4⟩ := impl_RangeCmp.mono_l k
  refine ⟨?_, ?_, ?_, ?_, ?_⟩ <;> (intros; (first | unfold impl_RangeCmp.f | unfold impl_RangeCmp.j0 | unfold impl_RangeCmp.j2 | unfold impl_RangeCmp.j3 | unfold impl_RangeCmp.j1); repeat' first | (with_reducible first | apply ih0 | apply ih1 | apply ih2 | apply ih3 | apply ih4 | apply impl_CmpTurn.mono | apply impl_RangeMeet.mono | apply impl_rangeWithout.mono | apply LeO.refl | apply LeO.none | refine LeO.ite ?_ ?_ | refine LeO.bind ?_ (fun _ => ?_)) | apply ih0 | apply ih1 | apply ih2 | apply ih3 | apply ih4 | apply impl_CmpTurn.mono | apply impl_RangeMeet.mono | apply impl_rangeWithout.mono | apply LeO.none | refine LeO.ite ?_ ?_ | refine LeO.bind ?_ (fun _ => ?_))
theorem impl_RangeCmp.mono : ∀ a0 a1 a2 a3 a4 k, LeO (impl_RangeCmp.f k a0 a1 a2 a3 a4) (impl_RangeCmp.f (k + 1) a0 a1 a2 a3 a4) := by
 intro a0 a1 a2 a3 a4 k
 obtain ⟨ih0, ih1, ih2, ih3, ih4⟩ := impl_RangeCmp.mono_l k
 exact ih0 a0 a1 a2 a3 a4
def impl_RangeCmp.T10 : Bool × List (List Nat × List Nat) := (true, [([], []), ([], []), ([0, 1], [0, 1]), ([], []), ([], []), ([3, 4, 2], [3, 4]), ([2, 5, 0, 1, 2], [2]), ([5, 6, 0, 1, 2, 3, 4, 5, 6], [5])])
def impl_RangeCmp.B10 : List Nat := [0, 0, 3, 0, 0, 31, 63, 127]
theorem impl_RangeCmp.tab10 : rtab .any (opsOf Try.f18 10) = impl_RangeCmp.T10 := by kernel_rfl
theorem impl_RangeCmp.bits10 : waitsOk impl_RangeCmp.T10.2 impl_RangeCmp.B10 = true := by kernel_rfl
def impl_RangeCmp.T19 : Bool × List (List Nat × List Nat) := (true, [([], []), ([0], [0]), ([], []), ([], []), ([1, 2, 3, 1], [1, 2, 3]), ([4], [4]), ([5], [5]), ([5], [5]), ([6, 4, 0, 1, 2, 3, 4, 5, 6], [6]), ([7, 8, 0, 1, 2, 3, 4, 5, 6, 7, 8], [7])])
def impl_RangeCmp.B19 : List Nat := [0, 1, 0, 0, 15, 31, 63, 63, 127, 511]
theorem impl_RangeCmp.tab19 : rtab .any (opsOf Try.f18 19) = impl_RangeCmp.T19 := by kernel_rfl
theorem impl_RangeCmp.bits19 : waitsOk impl_RangeCmp.T19.2 impl_RangeCmp.B19 = true := by kernel_rfl
set_option maxHeartbeats 8000000 in
set_option maxRecDepth 100000 in
theorem impl_RangeCmp.calls (k : Nat) : ∀ (a0 : Int) (a1_0 : Int) (a1_1 : Int) (a2_0 : Int) (a2_1 : Int) (r1 : Int) (r2 : Int) (r3 : Int) (r4 : Int) (w : World) (h : impl_RangeCmp.f k a0 a1_0 a1_1 a2_0 a2_1 = some (r1, r2, r3, r4)),
  Calls Try.prog 18 #[.int .i64 a0, .agg #[.int .i64 a1_0, .int .i64 a1_1], .agg #[.int .i64 a2_0, .int .i64 a2_1]] w fun e w' => e = .returned (.tuple #[.agg #[.int .i64 r1, .int .i64 r2], .agg #[.int .i64 r3, .int .i64 r4]]) ∧ Below w.heap.size w w' := by
 induction k using Nat.strongRecOn with
 | _ k ih =>
 intro a0 a1_0 a1_1 a2_0 a2_1 r1 r2 r3 r4 w h
 cases k with
 | zero => exact absurd h (by simp [impl_RangeCmp.f])
 | succ k =>
 simp only [impl_RangeCmp.f] at h
 have hu33 := Try.underlying33
 have HB := am (Below.refl w.heap.size w)
 have H : ((impl_RangeOk.f a1_0 a1_1).bind fun t1 => (if t1 = true then ((impl_RangeOk.f a2_0 a2_1).bind fun t2 => (if t2 = true then ((impl_Range_empty.f a1_0 a1_1).bind fun t3 => (if t3 = true then (impl_RangeCmp.j0 k a0 true a1_0 a1_1 a2_0 a2_1) else ((impl_Range_empty.f a2_0 a2_1).bind fun t4 => (impl_RangeCmp.j0 k a0 t4 a1_0 a1_1 a2_0 a2_1)))) else (impl_RangeCmp.j0 k a0 true a1_0 a1_1 a2_0 a2_1))) else (impl_RangeCmp.j0 k a0 true a1_0 a1_1 a2_0 a2_1))) = some (r1, r2, r3, r4) := h
 clear h
 have C1 := am H
 clear H
 go_enter Try.func18, Try.ntmps18
 go_upto_region 1 with (first | ((with_reducible refine gate_dst (N := 4) rfl ?_); refine bxn 4 #[.int .i64 a1_0, .int .i64 a1_1] 33 HB fun g1 w2 K1 G1 hg hb => ?_; replace HB := am (below_step (YA HB) hb); clear hb hg) | ((with_reducible refine gate_dst (N := 5) rfl ?_); refine bxn 5 #[.int .i64 a2_0, .int .i64 a2_1] 33 HB fun g2 w3 K2 G2 hg hb => ?_; obtain ⟨N1,N2⟩ := ne_ hg K1; obtain ⟨K1, HB⟩ := bk1 K1 HB hb; clear hb hg) | ((with_reducible refine gate_dst (N := 6) rfl ?_); refine bxn 6 #[.int .i64 0, .int .i64 0] 33 HB fun g3 w4 K3 G3 hg hb => ?_; obtain ⟨N3,N4⟩ := ne_ hg K1; obtain ⟨N5,N6⟩ := ne_ hg K2; obtain ⟨K1, K2, HB⟩ := bk2 K1 K2 HB hb; clear hb hg) | ((with_reducible refine gate_dst (N := 7) rfl ?_); refine bxn 7 #[.int .i64 0, .int .i64 0] 33 HB fun g4 w5 K4 G4 hg hb => ?_; obtain ⟨N7,N8⟩ := ne_ hg K1; obtain ⟨N9,N10⟩ := ne_ hg K2; obtain ⟨N11,N12⟩ := ne_ hg K3; obtain ⟨K1, K2, K3, HB⟩ := bk3 K1 K2 K3 HB hb; clear hb hg))
 (try simp only [Act.put, List.setIfInBounds_toArray, List.set_cons_zero, List.set_cons_succ])
 go_cut [25] (fun v1 wc => ∃ (kq : Nat) (x1 : Bool), v1 = .bool x1 ∧ Aside0 (impl_RangeCmp.j0 kq a0 x1 a1_0 a1_1 a2_0 a2_1 = some (r1, r2, r3, r4)) ∧ Aside0 (kq ≤ k) ∧ Bx2 wc g1 a1_0 a1_1 33 ∧ Bx2 wc g2 a2_0 a2_1 33 ∧ Bx2 wc g3 0 0 33 ∧ Bx2 wc g4 0 0 33 ∧ Aside0 (Below w.heap.size w wc))
 case first =>
  have H := C1.out
  clear C1
  obtain ⟨t1, A1, H⟩ := bd H
  try dsimp only at H
  by_cases c1 : t1 = true
  rotate_left
  ·replace c1 := Bool.eq_false_iff.mpr c1
   subst c1
   rw [if_neg ff] at H
   have H' := am H
   clear H
   have z_ := ns3 N1 N3 N7
   have z_ := cB2 K1
   go_wp2_with (first | ((with_reducible refine gate_callee (f := 36) rfl ?_); refine gL 11 Try.func36 (impl_RangeOk.calls _ _ _ _ A1.out) fun w6 hb => ?_; obtain ⟨K1, K2, K3, K4, HB⟩ := bk4 K1 K2 K3 K4 HB hb; (try clear hb)))
   go_meet
   case rel => exact ⟨_, (true), ey, H', le0, ⟨Z K1⟩, ⟨Z K2⟩, ⟨Z K3⟩, ⟨Z K4⟩, ⟨YA HB⟩⟩
  subst c1
  rw [if_pos rfl] at H
  obtain ⟨t2, A2, H⟩ := bd H
  try dsimp only at H
  by_cases c2 : t2 = true
  rotate_left
  ·replace c2 := Bool.eq_false_iff.mpr c2
   subst c2
   rw [if_neg ff] at H
   have H' := am H
   clear H
   have z_ := ns3 N1 N3 N7
   have z_ := cB2 K1
   go_wp2_with (first | ((with_reducible refine gate_callee (f := 36) rfl ?_); refine gL 11 Try.func36 (impl_RangeOk.calls _ _ _ _ A1.out) fun w6 hb => ?_; obtain ⟨K1, K2, K3, K4, HB⟩ := bk4 K1 K2 K3 K4 HB hb; (try clear hb); have z_ := ns2 N5 N9; have z_ := cB2 K2) | (go_at_call 36; (with_reducible refine (impl_RangeOk.calls _ _ _ _ A2.out).mono ?_); rintro e w7 ⟨rfl, hb⟩; obtain ⟨K1, K2, K3, K4, HB⟩ := bk4 K1 K2 K3 K4 HB hb; (try clear hb)))
   go_meet
   case rel => exact ⟨_, (true), ey, H', le0, ⟨Z K1⟩, ⟨Z K2⟩, ⟨Z K3⟩, ⟨Z K4⟩, ⟨YA HB⟩⟩
  subst c2
  rw [if_pos rfl] at H
  obtain ⟨t3, A3, H⟩ := bd H
  try dsimp only at H
  by_cases c3 : t3 = true
  ·subst c3
   rw [if_pos rfl] at H
   have H' := am H
   clear H
   have z_ := ns3 N1 N3 N7
   have z_ := cB2 K1
   go_wp2_with (first | ((with_reducible refine gate_callee (f := 36) rfl ?_); refine gL 11 Try.func36 (impl_RangeOk.calls _ _ _ _ A1.out) fun w6 hb => ?_; obtain ⟨K1, K2, K3, K4, HB⟩ := bk4 K1 K2 K3 K4 HB hb; (try clear hb); have z_ := ns2 N5 N9; have z_ := cB2 K2) | (go_at_call 36; (with_reducible refine (impl_RangeOk.calls _ _ _ _ A2.out).mono ?_); rintro e w7 ⟨rfl, hb⟩; obtain ⟨K1, K2, K3, K4, HB⟩ := bk4 K1 K2 K3 K4 HB hb; (try clear hb); have z_ := cB2 K1) | (go_at_call 37; (with_reducible refine (impl_Range_empty.calls _ _ _ _ A3.out).mono ?_); rintro e w8 ⟨rfl, hb⟩; obtain ⟨K1, K2, K3, K4, HB⟩ := bk4 K1 K2 K3 K4 HB hb; (try clear hb)))
   go_meet
   case rel => exact ⟨_, (true), ey, H', le0, ⟨Z K1⟩, ⟨Z K2⟩, ⟨Z K3⟩, ⟨Z K4⟩, ⟨YA HB⟩⟩
  replace c3 := Bool.eq_false_iff.mpr c3
  subst c3
  rw [if_neg ff] at H
  obtain ⟨t4, A4, H⟩ := bd H
  try dsimp only at H
  have H' := am H
  clear H
  have z_ := ns3 N1 N3 N7
  have z_ := cB2 K1
  go_wp2_with (first | ((with_reducible refine gate_callee (f := 36) rfl ?_); refine gL 11 Try.func36 (impl_RangeOk.calls _ _ _ _ A1.out) fun w6 hb => ?_; obtain ⟨K1, K2, K3, K4, HB⟩ := bk4 K1 K2 K3 K4 HB hb; (try clear hb); have z_ := ns2 N5 N9; have z_ := cB2 K2) | (go_at_call 36; (with_reducible refine (impl_RangeOk.calls _ _ _ _ A2.out).mono ?_); rintro e w7 ⟨rfl, hb⟩; obtain ⟨K1, K2, K3, K4, HB⟩ := bk4 K1 K2 K3 K4 HB hb; (try clear hb); have z_ := cB2 K1) | (go_at_call 37; (with_reducible refine (impl_Range_empty.calls _ _ _ _ A3.out).mono ?_); rintro e w8 ⟨rfl, hb⟩; obtain ⟨K1, K2, K3, K4, HB⟩ := bk4 K1 K2 K3 K4 HB hb; (try clear hb); have z_ := cB2 K2) | (go_at_call 37; (with_reducible refine (impl_Range_empty.calls _ _ _ _ A4.out).mono ?_); rintro e w9 ⟨rfl, hb⟩; obtain ⟨K1, K2, K3, K4, HB⟩ := bk4 K1 K2 K3 K4 HB hb; (try clear hb)))
  go_meet
  case rel => exact ⟨_, (t4), ey, H', le0, ⟨Z K1⟩, ⟨Z K2⟩, ⟨Z K3⟩, ⟨Z K4⟩, ⟨YA HB⟩⟩
 case rest =>
  clear C1
  obtain ⟨kq, x1, rfl, HA, J1, K1, K2, K3, K4, HB⟩ := hcut
  cases kq with
  | zero => exact absurd HA.out (by simp [impl_RangeCmp.j0])
  | succ k1 =>
   have H := HA.out
   clear HA
   simp only [impl_RangeCmp.j0] at H
   by_cases c1 : x1 = true
   ·subst c1
    rw [if_pos rfl] at H
    obtain ⟨⟨t5, t6⟩, A1, H⟩ := bd H
    try dsimp only at H
    obtain ⟨⟨t7, t8⟩, A2, H⟩ := bd H
    try dsimp only at H
    simp only [Option.some.injEq, Prod.mk.injEq] at H
    obtain ⟨rfl, rfl, rfl, rfl⟩ := H
    go_wp2_with (first | ((with_reducible refine gate_callee (f := 38) rfl ?_); refine gL 26 Try.func38 (impl_rangeNone.calls _ _ _ A1.out) fun w6 hb => ?_; obtain ⟨K1, K2, K3, K4, HB⟩ := bk4 K1 K2 K3 K4 HB hb; (try clear hb)) | ((with_reducible refine gate_callee (f := 38) rfl ?_); refine gL 27 Try.func38 (impl_rangeNone.calls _ _ _ A2.out) fun w7 hb => ?_; obtain ⟨K1, K2, K3, K4, HB⟩ := bk4 K1 K2 K3 K4 HB hb; (try clear hb); have z_ := ns5 N4 N6 N11 N8 N10; have z_ := cB2 K3; have z_ := cB2 K4))
    refine bodyPost_ret (results_cc rfl _ _ g3 g4 33 33 #[.int .i64 t5, .int .i64 t6] #[.int .i64 t7, .int .i64 t8] (0, 0) (0, 0) _ _ rfl (by refine fa N11 ?_; refine fa N11 ?_; refine pf ?_; refine blk_put (cs := #[.int .i64 t5, .int .i64 0]) ?_ 1 _ rfl; refine pf ?_; refine blk_put (cs := #[.int .i64 0, .int .i64 0]) ?_ 0 _ rfl; exact Z K3) Try.underlying33 rfl (by kernel_rfl) rfl (by refine pf ?_; refine blk_put (cs := #[.int .i64 t7, .int .i64 0]) ?_ 1 _ rfl; refine pf ?_; refine blk_put (cs := #[.int .i64 0, .int .i64 0]) ?_ 0 _ rfl; refine fa N12 ?_; refine fa N12 ?_; exact Z K4) Try.underlying33 rfl (by kernel_rfl)) rfl ?_
    exact ⟨ez, YA HB⟩
   replace c1 := Bool.eq_false_iff.mpr c1
   subst c1
   rw [if_neg ff] at H
   have C2 := am H
   clear H
   go_upto_block 0 with (first | ((with_reducible refine gate_dst (N := 8) rfl ?_); refine bxn 8 #[.int .i64 0, .int .i64 0] 33 HB fun g5 w6 K5 G5 hg hb => ?_; obtain ⟨N13,N14⟩ := ne_ hg K1; obtain ⟨N15,N16⟩ := ne_ hg K2; obtain ⟨N17,N18⟩ := ne_ hg K3; obtain ⟨N19,N20⟩ := ne_ hg K4; obtain ⟨K1, K2, K3, K4, HB⟩ := bk4 K1 K2 K3 K4 HB hb; clear hb hg) | ((with_reducible refine gate_dst (N := 9) rfl ?_); refine bxn 9 #[.int .i64 0, .int .i64 0] 33 HB fun g6 w7 K6 G6 hg hb => ?_; obtain ⟨N21,N22⟩ := ne_ hg K1; obtain ⟨N23,N24⟩ := ne_ hg K2; obtain ⟨N25,N26⟩ := ne_ hg K3; obtain ⟨N27,N28⟩ := ne_ hg K4; obtain ⟨N29,N30⟩ := ne_ hg K5; obtain ⟨K1, K2, K3, K4, K5, HB⟩ := bk5 K1 K2 K3 K4 K5 HB hb; clear hb hg))
   (try simp only [Act.put, List.setIfInBounds_toArray, List.set_cons_zero, List.set_cons_succ])
   go_cut [] (fun wc => ∃ (kq : Nat) (x2 : Int) (x3 : Int) (x4 : Int) (x5 : Int) (x6 : Int) (x7 : Int) (x8 : Int) (x9 : Int), Aside0 (impl_RangeCmp.j2 kq x6 x7 x8 x9 = some (r1, r2, r3, r4)) ∧ Aside0 (kq ≤ k1) ∧ Bx2 wc g1 a1_0 a1_1 33 ∧ Bx2 wc g2 a2_0 a2_1 33 ∧ Bx2 wc g3 x2 x3 33 ∧ Bx2 wc g4 x4 x5 33 ∧ Bx2 wc g5 x6 x7 33 ∧ Bx2 wc g6 x8 x9 33 ∧ Aside0 (Below w.heap.size w wc))
   case first =>
    have H := C2.out
    clear C2
    by_cases c2 : a0 = 1
    ·rw [if_pos c2] at H
     have d1 := eT c2
     have d2 := nF c2
     clear c2
     (first | rw [d1] | (simp only [i64_w, i32_w]; rw [d1]) | skip)
     obtain ⟨⟨t5, t6⟩, A1, H⟩ := bd H
     try dsimp only at H
     have H' := am H
     clear H
     have z_ := ns9 N1 N3 N7 N13 N21 N5 N9 N15 N23
     have z_ := cB2 K1
     have z_ := cB2 K2
     go_wp2_with (first | ((with_reducible refine gate_callee (f := 39) rfl ?_); refine gL 35 Try.func39 (impl_RangeMeet.calls _ _ _ _ _ _ _ _ A1.out) fun w8 hb => ?_; obtain ⟨K1, K2, K3, K4, K5, K6, HB⟩ := bk6 K1 K2 K3 K4 K5 K6 HB hb; (try clear hb); have z_ := ns5 N18 N20 N29 N26 N28; have z_ := cB2 K5; have z_ := cB2 K6))
     go_meet
     case rel => exact ⟨_, (0), (0), (0), (0), (t5), (t6), (t5), (t6), H', le1 J1, ⟨by refine fa N21 ?_; refine fa N21 ?_; refine fa N13 ?_; refine fa N13 ?_; exact Z K1⟩, ⟨by refine fa N23 ?_; refine fa N23 ?_; refine fa N15 ?_; refine fa N15 ?_; exact Z K2⟩, ⟨by refine fa N25 ?_; refine fa N25 ?_; refine fa N17 ?_; refine fa N17 ?_; exact Z K3⟩, ⟨by refine fa N27 ?_; refine fa N27 ?_; refine fa N19 ?_; refine fa N19 ?_; exact Z K4⟩, ⟨by refine fa N29 ?_; refine fa N29 ?_; refine pf ?_; refine blk_put (cs := #[.int .i64 t5, .int .i64 0]) ?_ 1 _ rfl; refine pf ?_; refine blk_put (cs := #[.int .i64 0, .int .i64 0]) ?_ 0 _ rfl; exact Z K5⟩, ⟨by refine pf ?_; refine blk_put (cs := #[.int .i64 t5, .int .i64 0]) ?_ 1 _ rfl; refine pf ?_; refine blk_put (cs := #[.int .i64 0, .int .i64 0]) ?_ 0 _ rfl; refine fa N30 ?_; refine fa N30 ?_; exact Z K6⟩, ⟨YA HB⟩⟩
    rw [if_neg c2] at H
    have d1 := eF c2
    have d2 := nT c2
    (first | rw [d1] | (simp only [i64_w, i32_w]; rw [d1]) | skip)
    by_cases c3 : a0 = 2
    ·rw [if_pos c3] at H
     have d3 := eT c3
     have d4 := nF c3
     clear c3
     obtain ⟨⟨t5, t6⟩, A1, H⟩ := bd H
     try dsimp only at H
     obtain ⟨⟨t7, t8⟩, A2, H⟩ := bd H
     try dsimp only at H
     have H' := am H
     clear H
     try go_wp2
     obtain ⟨K1, K2, K3, K4, K5, K6, HB⟩ := dk6 K1 K2 K3 K4 K5 K6 HB
     refine start_ (n := 8) (S := fun w' => w'.cell? ⟨g1, 0, none⟩ = some (.int .i64 a1_0) ∧ w'.cell? ⟨g1, 1, none⟩ = some (.int .i64 a1_1) ∧ w'.cell? ⟨g2, 0, none⟩ = some (.int .i64 a2_0) ∧ w'.cell? ⟨g2, 1, none⟩ = some (.int .i64 a2_1)) (ds := []) (lb 8 0) (by kernel_rfl) rfl rfl ⟨bc K1 0, bc K1 1, bc K2 0, bc K2 1⟩ (fun hHeld => ?_); refine with_tabW impl_RangeCmp.tab10 impl_RangeCmp.bits10 (fun HT_ HW_ => ?_)
     generalize w7.drew = w8 at K1 K2 K3 K4 K5 K6 HB hHeld ⊢
     refine tk 0 39 1 hHeld ?_
     refine tk 1 40 3 hHeld ?_
     refine tk 3 42 11 hHeld ?_
     refine tk 4 43 27 hHeld ?_
     refine cl6 2 41 31 Try.func40 (impl_rangeWithout.calls _ _ _ _ _ _ _ _ A1.out) K1 K2 K3 K4 K5 K6 HB fun w9 K1 K2 K3 K4 K5 K6 HB hHeld => ?_
     refine cl6 5 44 63 Try.func40 (impl_rangeWithout.calls _ _ _ _ _ _ _ _ A2.out) K1 K2 K3 K4 K5 K6 HB fun w10 K1 K2 K3 K4 K5 K6 HB hHeld => ?_
     refine on 6 none 127 fun K hK => ?_
     have s4 : w10.cell? ⟨g5, 0, none⟩ = some (.int .i64 0) := bc K5 0
     have hfs96 := blk_frozen K5.out 0
     have z_ := ns10 N13 N15 N17 N19 N30 N14 N16 N18 N20 N29
     have s5 : w10.cell? ⟨g5, 1, none⟩ = some (.int .i64 0) := bc K5 1
     have hfs97 := blk_frozen K5.out 1
     have z_ := ns10 N13 N15 N17 N19 N30 N14 N16 N18 N20 N29
     refine skip_ (w1 := ?_) (by rfl) rfl ?_ ?_
     rotate_left
     ·go_simp
      rfl
     refine hK.out _ _ ⟨(cf N13 ((cf N13 (hHeld.1)))), (cf N13 ((cf N13 (hHeld.2.1)))), (cf N15 ((cf N15 (hHeld.2.2.1)))), (cf N15 ((cf N15 (hHeld.2.2.2))))⟩ (fun hHeld => ?_)
     clear hK K
     refine on 7 none 255 fun K hK => ?_
     have s6 : w10.cell? ⟨g6, 0, none⟩ = some (.int .i64 0) := bc K6 0
     have hfs98 := blk_frozen K6.out 0
     have z_ := ns10 N21 N23 N25 N27 N29 N22 N24 N26 N28 N30
     have s7 : w10.cell? ⟨g6, 1, none⟩ = some (.int .i64 0) := bc K6 1
     have hfs99 := blk_frozen K6.out 1
     have z_ := ns10 N21 N23 N25 N27 N29 N22 N24 N26 N28 N30
     refine skip_ (w1 := ?_) (by rfl) rfl ?_ ?_
     rotate_left
     ·go_simp
      rfl
     refine hK.out _ _ ⟨(cf N21 ((cf N21 (hHeld.1)))), (cf N21 ((cf N21 (hHeld.2.1)))), (cf N23 ((cf N23 (hHeld.2.2.1)))), (cf N23 ((cf N23 (hHeld.2.2.2))))⟩ (fun hHeld => ?_)
     clear hK K
     refine done_ (done_of HT_.out (by kernel_rfl)) ?_
     try go_wp2
     go_meet
     case rel => exact ⟨_, (0), (0), (0), (0), (t5), (t6), (t7), (t8), H', le1 J1, ⟨by refine fa N21 ?_; refine fa N21 ?_; refine fa N13 ?_; refine fa N13 ?_; exact Z K1⟩, ⟨by refine fa N23 ?_; refine fa N23 ?_; refine fa N15 ?_; refine fa N15 ?_; exact Z K2⟩, ⟨by refine fa N25 ?_; refine fa N25 ?_; refine fa N17 ?_; refine fa N17 ?_; exact Z K3⟩, ⟨by refine fa N27 ?_; refine fa N27 ?_; refine fa N19 ?_; refine fa N19 ?_; exact Z K4⟩, ⟨by refine fa N29 ?_; refine fa N29 ?_; refine pf ?_; refine blk_put (cs := #[.int .i64 t5, .int .i64 0]) ?_ 1 _ rfl; refine pf ?_; refine blk_put (cs := #[.int .i64 0, .int .i64 0]) ?_ 0 _ rfl; exact Z K5⟩, ⟨by refine pf ?_; refine blk_put (cs := #[.int .i64 t7, .int .i64 0]) ?_ 1 _ rfl; refine pf ?_; refine blk_put (cs := #[.int .i64 0, .int .i64 0]) ?_ 0 _ rfl; refine fa N30 ?_; refine fa N30 ?_; exact Z K6⟩, ⟨YA HB⟩⟩
    rw [if_neg c3] at H
    have d3 := eF c3
    have d4 := nT c3
    by_cases c4 : a0 = 3
    ·rw [if_pos c4] at H
     have d5 := eT c4
     have d6 := nF c4
     clear c4
     obtain ⟨i1, j8⟩ : ∃ j_ : Int, (mn a1_1 (wrap64 (a2_1 - 1))) = j_ := ⟨_, rfl⟩
     replace H : ((impl_rangeFrom.f a1_0 (i1)).bind fun u1 => ((impl_rangeFrom.f (mx a2_0 (wrap64 (a1_0 + 1))) a2_1).bind fun u2 => (impl_RangeCmp.j2 k1 u1.1 u1.2 u2.1 u2.2))) = some (r1, r2, r3, r4) := by first | (rw [j8] at H; exact H) | (simp only [j8] at H ⊢; exact H)
     have hji101_ : (if (wrap64 (a2_1 - 1)) < a1_1 then (wrap64 (a2_1 - 1)) else a1_1) = i1 := j8
     obtain ⟨⟨t5, t6⟩, A1, H⟩ := bd H
     try dsimp only at H
     obtain ⟨i2, j9⟩ : ∃ j_ : Int, (mx a2_0 (wrap64 (a1_0 + 1))) = j_ := ⟨_, rfl⟩
     replace H : ((impl_rangeFrom.f (i2) a2_1).bind fun u2 => (impl_RangeCmp.j2 k1 t5 t6 u2.1 u2.2)) = some (r1, r2, r3, r4) := by first | (rw [j9] at H; exact H) | (simp only [j9] at H ⊢; exact H)
     (try rw [j9] at A1)
     have hji103_ : (if a2_0 < (wrap64 (a1_0 + 1)) then (wrap64 (a1_0 + 1)) else a2_0) = i2 := j9
     obtain ⟨⟨t7, t8⟩, A2, H⟩ := bd H
     try dsimp only at H
     have H' := am H
     clear H
     have z_ := ns9 N1 N3 N7 N13 N21 N5 N9 N15 N23
     have z_ := cB2 K1
     have z_ := cB2 K2
     go_wp2_with (first | ((with_reducible refine gate_callee (f := 41) rfl ?_); refine goesL_ (some 55) rfl rfl Try.func41 (by kernel_rfl) rfl #[.int .i64 a1_0, .int .i64 i1] rfl (by (try simp only [List.map_toArray, List.map_cons, List.map_nil]); first | done | (simp only [j8]; rfl) | rfl | (simp only [List.length_drop, List.length_take]; rfl)) ?_; (with_reducible refine (impl_rangeFrom.calls _ _ _ _ _ A1.out).mono ?_); rintro e w8 ⟨rfl, hb⟩; refine ⟨_, rfl, ?_⟩; obtain ⟨K1, K2, K3, K4, K5, K6, HB⟩ := bk6 K1 K2 K3 K4 K5 K6 HB hb; (try clear hb); have z_ := ns3 N18 N20 N29; have z_ := cB2 K5; have z_ := cB2 K2; have z_ := cB2 K1) | ((with_reducible refine gate_callee (f := 41) rfl ?_); refine goesL_ (some 64) rfl rfl Try.func41 (by kernel_rfl) rfl #[.int .i64 i2, .int .i64 a2_1] rfl (by (try simp only [List.map_toArray, List.map_cons, List.map_nil]); first | done | (simp only [j9]; rfl) | rfl | (simp only [List.length_drop, List.length_take]; rfl)) ?_; (with_reducible refine (impl_rangeFrom.calls _ _ _ _ _ A2.out).mono ?_); rintro e w9 ⟨rfl, hb⟩; refine ⟨_, rfl, ?_⟩; replace K1 := am (blk_below (g := g1) (o := b2 a1_0 a1_1 33) (by refine fa N13 ?_; refine fa N13 ?_; exact Z K1) hb); replace K2 := am (blk_below (g := g2) (o := b2 a2_0 a2_1 33) (by refine fa N15 ?_; refine fa N15 ?_; exact Z K2) hb); replace K3 := am (blk_below (g := g3) (o := b2 0 0 33) (by refine fa N17 ?_; refine fa N17 ?_; exact Z K3) hb); replace K4 := am (blk_below (g := g4) (o := b2 0 0 33) (by refine fa N19 ?_; refine fa N19 ?_; exact Z K4) hb); replace K5 := am (blk_below (g := g5) (o := b2 t5 t6 33) (by refine pf ?_; refine blk_put (cs := #[.int .i64 t5, .int .i64 0]) ?_ 1 _ rfl; refine pf ?_; refine blk_put (cs := #[.int .i64 0, .int .i64 0]) ?_ 0 _ rfl; exact Z K5) hb); replace K6 := am (blk_below (g := g6) (o := b2 0 0 33) (by refine fa N30 ?_; refine fa N30 ?_; exact Z K6) hb); replace HB := am (below_step (YA HB) hb); (try clear hb); have z_ := ns2 N26 N28; have z_ := cB2 K6))
     go_meet
     case rel => exact ⟨_, (0), (0), (0), (0), (t5), (t6), (t7), (t8), H', le1 J1, ⟨by refine fa N21 ?_; refine fa N21 ?_; exact Z K1⟩, ⟨by refine fa N23 ?_; refine fa N23 ?_; exact Z K2⟩, ⟨by refine fa N25 ?_; refine fa N25 ?_; exact Z K3⟩, ⟨by refine fa N27 ?_; refine fa N27 ?_; exact Z K4⟩, ⟨by refine fa N29 ?_; refine fa N29 ?_; exact Z K5⟩, ⟨by refine pf ?_; refine blk_put (cs := #[.int .i64 t7, .int .i64 0]) ?_ 1 _ rfl; refine pf ?_; refine blk_put (cs := #[.int .i64 0, .int .i64 0]) ?_ 0 _ rfl; exact Z K6⟩, ⟨YA HB⟩⟩
    rw [if_neg c4] at H
    have d5 := eF c4
    have d6 := nT c4
    by_cases c5 : a0 = 4
    ·rw [if_pos c5] at H
     have d7 := eT c5
     have d8 := nF c5
     clear c5
     obtain ⟨i1, j8⟩ : ∃ j_ : Int, (mn a1_1 a2_1) = j_ := ⟨_, rfl⟩
     replace H : ((impl_rangeFrom.f a1_0 (i1)).bind fun u1 => ((impl_rangeFrom.f (mx a2_0 a1_0) a2_1).bind fun u2 => (impl_RangeCmp.j2 k1 u1.1 u1.2 u2.1 u2.2))) = some (r1, r2, r3, r4) := by first | (rw [j8] at H; exact H) | (simp only [j8] at H ⊢; exact H)
     have hji128_ : (if a2_1 < a1_1 then a2_1 else a1_1) = i1 := j8
     obtain ⟨⟨t5, t6⟩, A1, H⟩ := bd H
     try dsimp only at H
     obtain ⟨i2, j9⟩ : ∃ j_ : Int, (mx a2_0 a1_0) = j_ := ⟨_, rfl⟩
     replace H : ((impl_rangeFrom.f (i2) a2_1).bind fun u2 => (impl_RangeCmp.j2 k1 t5 t6 u2.1 u2.2)) = some (r1, r2, r3, r4) := by first | (rw [j9] at H; exact H) | (simp only [j9] at H ⊢; exact H)
     (try rw [j9] at A1)
     have hji130_ : (if a2_0 < a1_0 then a1_0 else a2_0) = i2 := j9
     obtain ⟨⟨t7, t8⟩, A2, H⟩ := bd H
     try dsimp only at H
     have H' := am H
     clear H
     have z_ := ns9 N1 N3 N7 N13 N21 N5 N9 N15 N23
     have z_ := cB2 K1
     have z_ := cB2 K2
     go_wp2_with (first | ((with_reducible refine gate_callee (f := 41) rfl ?_); refine goesL_ (some 74) rfl rfl Try.func41 (by kernel_rfl) rfl #[.int .i64 a1_0, .int .i64 i1] rfl (by (try simp only [List.map_toArray, List.map_cons, List.map_nil]); first | done | (simp only [j8]; rfl) | rfl | (simp only [List.length_drop, List.length_take]; rfl)) ?_; (with_reducible refine (impl_rangeFrom.calls _ _ _ _ _ A1.out).mono ?_); rintro e w8 ⟨rfl, hb⟩; refine ⟨_, rfl, ?_⟩; obtain ⟨K1, K2, K3, K4, K5, K6, HB⟩ := bk6 K1 K2 K3 K4 K5 K6 HB hb; (try clear hb); have z_ := ns3 N18 N20 N29; have z_ := cB2 K5; have z_ := cB2 K2; have z_ := cB2 K1) | ((with_reducible refine gate_callee (f := 41) rfl ?_); refine goesL_ (some 82) rfl rfl Try.func41 (by kernel_rfl) rfl #[.int .i64 i2, .int .i64 a2_1] rfl (by (try simp only [List.map_toArray, List.map_cons, List.map_nil]); first | done | (simp only [j9]; rfl) | rfl | (simp only [List.length_drop, List.length_take]; rfl)) ?_; (with_reducible refine (impl_rangeFrom.calls _ _ _ _ _ A2.out).mono ?_); rintro e w9 ⟨rfl, hb⟩; refine ⟨_, rfl, ?_⟩; replace K1 := am (blk_below (g := g1) (o := b2 a1_0 a1_1 33) (by refine fa N13 ?_; refine fa N13 ?_; exact Z K1) hb); replace K2 := am (blk_below (g := g2) (o := b2 a2_0 a2_1 33) (by refine fa N15 ?_; refine fa N15 ?_; exact Z K2) hb); replace K3 := am (blk_below (g := g3) (o := b2 0 0 33) (by refine fa N17 ?_; refine fa N17 ?_; exact Z K3) hb); replace K4 := am (blk_below (g := g4) (o := b2 0 0 33) (by refine fa N19 ?_; refine fa N19 ?_; exact Z K4) hb); replace K5 := am (blk_below (g := g5) (o := b2 t5 t6 33) (by refine pf ?_; refine blk_put (cs := #[.int .i64 t5, .int .i64 0]) ?_ 1 _ rfl; refine pf ?_; refine blk_put (cs := #[.int .i64 0, .int .i64 0]) ?_ 0 _ rfl; exact Z K5) hb); replace K6 := am (blk_below (g := g6) (o := b2 0 0 33) (by refine fa N30 ?_; refine fa N30 ?_; exact Z K6) hb); replace HB := am (below_step (YA HB) hb); (try clear hb); have z_ := ns2 N26 N28; have z_ := cB2 K6))
     go_meet
     case rel => exact ⟨_, (0), (0), (0), (0), (t5), (t6), (t7), (t8), H', le1 J1, ⟨by refine fa N21 ?_; refine fa N21 ?_; exact Z K1⟩, ⟨by refine fa N23 ?_; refine fa N23 ?_; exact Z K2⟩, ⟨by refine fa N25 ?_; refine fa N25 ?_; exact Z K3⟩, ⟨by refine fa N27 ?_; refine fa N27 ?_; exact Z K4⟩, ⟨by refine fa N29 ?_; refine fa N29 ?_; exact Z K5⟩, ⟨by refine pf ?_; refine blk_put (cs := #[.int .i64 t7, .int .i64 0]) ?_ 1 _ rfl; refine pf ?_; refine blk_put (cs := #[.int .i64 0, .int .i64 0]) ?_ 0 _ rfl; exact Z K6⟩, ⟨YA HB⟩⟩
    rw [if_neg c5] at H
    have d7 := eF c5
    have d8 := nT c5
    have C3 := am H
    clear H
    go_upto_if 83 with (fail)
    go_cut [83] (fun v2 wc => ∃ (kq : Nat) (x10 : Bool), v2 = .bool x10 ∧ Aside0 (impl_RangeCmp.j1 kq a0 x10 a1_0 a1_1 a2_0 a2_1 = some (r1, r2, r3, r4)) ∧ Aside0 (kq ≤ k1) ∧ Bx2 wc g1 a1_0 a1_1 33 ∧ Bx2 wc g2 a2_0 a2_1 33 ∧ Bx2 wc g3 0 0 33 ∧ Bx2 wc g4 0 0 33 ∧ Bx2 wc g5 0 0 33 ∧ Bx2 wc g6 0 0 33 ∧ Aside0 (Below w.heap.size w wc))
    case first =>
     have H := C3.out
     clear C3
     by_cases c6 : a0 = 5
     rotate_left
     ·rw [if_neg c6] at H
      have d9 := eF c6
      have d10 := nT c6
      (first | rw [d9] | (simp only [i64_w, i32_w]; rw [d9]) | skip)
      have H' := am H
      clear H
      go_wp2
      go_meet
      case rel => exact ⟨_, ((a0 == 6)), ey, H', le1 J1, ⟨Z K1⟩, ⟨Z K2⟩, ⟨Z K3⟩, ⟨Z K4⟩, ⟨Z K5⟩, ⟨Z K6⟩, ⟨YA HB⟩⟩
     rw [if_pos c6] at H
     have d9 := eT c6
     have d10 := nF c6
     clear c6
     (first | rw [d9] | (simp only [i64_w, i32_w]; rw [d9]) | skip)
     have H' := am H
     clear H
     go_wp2
     go_meet
     case rel => exact ⟨_, ((a0 == 5)), ey, H', le1 J1, ⟨Z K1⟩, ⟨Z K2⟩, ⟨Z K3⟩, ⟨Z K4⟩, ⟨Z K5⟩, ⟨Z K6⟩, ⟨YA HB⟩⟩
    case rest =>
     clear C3
     (try clear c1);(try clear c2);(try clear d1);(try clear d2);(try clear c3);(try clear d3);(try clear d4);(try clear c4);(try clear d5);(try clear d6);(try clear c5);(try clear d7);(try clear d8)
     obtain ⟨kq, x10, rfl, HA, J2, K1, K2, K3, K4, K5, K6, HB⟩ := hcut
     cases kq with
     | zero => exact absurd HA.out (by simp [impl_RangeCmp.j1])
     | succ k2 =>
      have H := HA.out
      clear HA
      simp only [impl_RangeCmp.j1] at H
      by_cases c6 : x10 = true
      rotate_left
      ·replace c6 := Bool.eq_false_iff.mpr c6
       subst c6
       rw [if_neg ff] at H
       obtain ⟨⟨t5, t6⟩, A1, H⟩ := bd H
       try dsimp only at H
       obtain ⟨⟨t7, t8⟩, A2, H⟩ := bd H
       try dsimp only at H
       simp only [Option.some.injEq, Prod.mk.injEq] at H
       obtain ⟨rfl, rfl, rfl, rfl⟩ := H
       go_wp2_with (first | ((with_reducible refine gate_callee (f := 38) rfl ?_); refine gL 29 Try.func38 (impl_rangeNone.calls _ _ _ A1.out) fun w8 hb => ?_; obtain ⟨K1, K2, K3, K4, K5, K6, HB⟩ := bk6 K1 K2 K3 K4 K5 K6 HB hb; (try clear hb)) | ((with_reducible refine gate_callee (f := 38) rfl ?_); refine gL 30 Try.func38 (impl_rangeNone.calls _ _ _ A2.out) fun w9 hb => ?_; obtain ⟨K1, K2, K3, K4, K5, K6, HB⟩ := bk6 K1 K2 K3 K4 K5 K6 HB hb; (try clear hb); have z_ := ns9 N4 N6 N11 N17 N25 N8 N10 N19 N27; have z_ := cB2 K3; have z_ := cB2 K4))
       refine bodyPost_ret (results_cc rfl _ _ g3 g4 33 33 #[.int .i64 t5, .int .i64 t6] #[.int .i64 t7, .int .i64 t8] (0, 0) (0, 0) _ _ rfl (by refine fa N11 ?_; refine fa N11 ?_; refine pf ?_; refine blk_put (cs := #[.int .i64 t5, .int .i64 0]) ?_ 1 _ rfl; refine pf ?_; refine blk_put (cs := #[.int .i64 0, .int .i64 0]) ?_ 0 _ rfl; exact Z K3) Try.underlying33 rfl (by kernel_rfl) rfl (by refine pf ?_; refine blk_put (cs := #[.int .i64 t7, .int .i64 0]) ?_ 1 _ rfl; refine pf ?_; refine blk_put (cs := #[.int .i64 0, .int .i64 0]) ?_ 0 _ rfl; refine fa N12 ?_; refine fa N12 ?_; exact Z K4) Try.underlying33 rfl (by kernel_rfl)) rfl ?_
       exact ⟨ez, YA HB⟩
      subst c6
      rw [if_pos rfl] at H
      obtain ⟨t5, A1, H⟩ := bd H
      try dsimp only at H
      obtain ⟨⟨t6, t7, t8, t9⟩, A2, H⟩ := bd H
      try dsimp only at H
      have H' := am H
      clear H
      try go_wp2
      obtain ⟨K1, K2, K3, K4, K5, K6, HB⟩ := dk6 K1 K2 K3 K4 K5 K6 HB
      refine start_ (n := 10) (S := fun w' => w'.cell? ⟨g2, 0, none⟩ = some (.int .i64 a2_0) ∧ w'.cell? ⟨g2, 1, none⟩ = some (.int .i64 a2_1) ∧ w'.cell? ⟨g1, 0, none⟩ = some (.int .i64 a1_0) ∧ w'.cell? ⟨g1, 1, none⟩ = some (.int .i64 a1_1)) (ds := []) (lb 10 0) (by kernel_rfl) rfl rfl ⟨bc K2 0, bc K2 1, bc K1 0, bc K1 1⟩ (fun hHeld => ?_); refine with_tabW impl_RangeCmp.tab19 impl_RangeCmp.bits19 (fun HT_ HW_ => ?_)
      generalize wc.drew = w8 at K1 K2 K3 K4 K5 K6 HB hHeld ⊢
      refine pk 0 87 1 ?_
      refine tk 2 89 5 hHeld ?_
      refine tk 3 90 13 hHeld ?_
      refine on 1 (some 88) 15 fun K hK => ?_
      refine goes_ Try.func42 (by kernel_rfl) rfl #[.int .i64 a0] (by rfl) rfl rfl mz ?_
      with_reducible refine (impl_CmpTurn.calls _ _ _ _ A1.out).mono ?_
      rintro e w' ⟨rfl, ⟨nd, rfl⟩⟩
      refine ⟨_, rfl, ?_⟩
      refine kk hK ⟨bc K2 0, bc K2 1, bc K1 0, bc K1 1⟩ fun hHeld => ?_
      clear hK K
      refine cl6 4 91 31 Try.func18 (ih k2 (by have := J1.out; have := J2.out; omega) t5 a2_0 a2_1 a1_0 a1_1 t6 t7 t8 t9 _ A2.out) K1 K2 K3 K4 K5 K6 HB fun w9 K1 K2 K3 K4 K5 K6 HB hHeld => ?_
      refine pk 5 86 63 ?_
      refine pk 6 92 127 ?_
      refine pk 7 93 255 ?_
      refine on 8 none 511 fun K hK => ?_
      have s4 : w9.cell? ⟨g6, 0, none⟩ = some (.int .i64 0) := bc K6 0
      have hfs161 := blk_frozen K6.out 0
      have z_ := ns10 N21 N23 N25 N27 N29 N22 N24 N26 N28 N30
      have s5 : w9.cell? ⟨g6, 1, none⟩ = some (.int .i64 0) := bc K6 1
      have hfs162 := blk_frozen K6.out 1
      have z_ := ns10 N21 N23 N25 N27 N29 N22 N24 N26 N28 N30
      refine skip_ (w1 := ?_) (by rfl) rfl ?_ ?_
      rotate_left
      ·go_simp
       rfl
      refine hK.out _ _ ⟨(cf N23 ((cf N23 (hHeld.1)))), (cf N23 ((cf N23 (hHeld.2.1)))), (cf N21 ((cf N21 (hHeld.2.2.1)))), (cf N21 ((cf N21 (hHeld.2.2.2))))⟩ (fun hHeld => ?_)
      clear hK K
      refine on 9 none 1023 fun K hK => ?_
      have s6 : w9.cell? ⟨g5, 0, none⟩ = some (.int .i64 0) := bc K5 0
      have hfs163 := blk_frozen K5.out 0
      have z_ := ns10 N13 N15 N17 N19 N30 N14 N16 N18 N20 N29
      have s7 : w9.cell? ⟨g5, 1, none⟩ = some (.int .i64 0) := bc K5 1
      have hfs164 := blk_frozen K5.out 1
      have z_ := ns10 N13 N15 N17 N19 N30 N14 N16 N18 N20 N29
      refine skip_ (w1 := ?_) (by rfl) rfl ?_ ?_
      rotate_left
      ·go_simp
       rfl
      refine hK.out _ _ ⟨(cf N15 ((cf N15 (hHeld.1)))), (cf N15 ((cf N15 (hHeld.2.1)))), (cf N13 ((cf N13 (hHeld.2.2.1)))), (cf N13 ((cf N13 (hHeld.2.2.2))))⟩ (fun hHeld => ?_)
      clear hK K
      refine done_ (done_of HT_.out (by kernel_rfl)) ?_
      try go_wp2
      go_meet
      case rel => exact ⟨_, (0), (0), (0), (0), (t8), (t9), (t6), (t7), H', ⟨by have := J1.out; have := J2.out; first | omega | exact Nat.le_refl _⟩, ⟨by refine fa N13 ?_; refine fa N13 ?_; refine fa N21 ?_; refine fa N21 ?_; exact Z K1⟩, ⟨by refine fa N15 ?_; refine fa N15 ?_; refine fa N23 ?_; refine fa N23 ?_; exact Z K2⟩, ⟨by refine fa N17 ?_; refine fa N17 ?_; refine fa N25 ?_; refine fa N25 ?_; exact Z K3⟩, ⟨by refine fa N19 ?_; refine fa N19 ?_; refine fa N27 ?_; refine fa N27 ?_; exact Z K4⟩, ⟨by refine pf ?_; refine blk_put (cs := #[.int .i64 t8, .int .i64 0]) ?_ 1 _ rfl; refine pf ?_; refine blk_put (cs := #[.int .i64 0, .int .i64 0]) ?_ 0 _ rfl; refine fa N29 ?_; refine fa N29 ?_; exact Z K5⟩, ⟨by refine fa N30 ?_; refine fa N30 ?_; refine pf ?_; refine blk_put (cs := #[.int .i64 t6, .int .i64 0]) ?_ 1 _ rfl; refine pf ?_; refine blk_put (cs := #[.int .i64 0, .int .i64 0]) ?_ 0 _ rfl; exact Z K6⟩, ⟨YA HB⟩⟩
   case rest =>
    clear C2
    try clear c1
    obtain ⟨kq, x2, x3, x4, x5, x6, x7, x8, x9, HA, J2, K1, K2, K3, K4, K5, K6, HB⟩ := hcut
    cases kq with
    | zero => exact absurd HA.out (by simp [impl_RangeCmp.j2])
    | succ k2 =>
     have H := HA.out
     clear HA
     simp only [impl_RangeCmp.j2] at H
     have C3 := am H
     clear H
     go_upto_region 20 with (fail)
     go_cut [99] (fun v2 wc => ∃ (kq : Nat) (x10 : Bool), v2 = .bool x10 ∧ Aside0 (impl_RangeCmp.j3 kq x10 x6 x7 x8 x9 = some (r1, r2, r3, r4)) ∧ Aside0 (kq ≤ k2) ∧ Bx2 wc g1 a1_0 a1_1 33 ∧ Bx2 wc g2 a2_0 a2_1 33 ∧ Bx2 wc g3 x2 x3 33 ∧ Bx2 wc g4 x4 x5 33 ∧ Bx2 wc g5 x6 x7 33 ∧ Bx2 wc g6 x8 x9 33 ∧ Aside0 (Below w.heap.size w wc))
     case first =>
      have H := C3.out
      clear C3
      obtain ⟨t5, A1, H⟩ := bd H
      try dsimp only at H
      by_cases c2 : t5 = true
      ·subst c2
       rw [if_pos rfl] at H
       have H' := am H
       clear H
       have z_ := ns5 N14 N16 N18 N20 N29
       have z_ := cB2 K5
       go_wp2_with (first | ((with_reducible refine gate_callee (f := 37) rfl ?_); refine gL 95 Try.func37 (impl_Range_empty.calls _ _ _ _ A1.out) fun w8 hb => ?_; obtain ⟨K1, K2, K3, K4, K5, K6, HB⟩ := bk6 K1 K2 K3 K4 K5 K6 HB hb; (try clear hb)))
       go_meet
       case rel => exact ⟨_, (true), ey, H', ⟨by have := J1.out; have := J2.out; first | omega | exact Nat.le_refl _⟩, ⟨Z K1⟩, ⟨Z K2⟩, ⟨Z K3⟩, ⟨Z K4⟩, ⟨Z K5⟩, ⟨Z K6⟩, ⟨YA HB⟩⟩
      replace c2 := Bool.eq_false_iff.mpr c2
      subst c2
      rw [if_neg ff] at H
      obtain ⟨t6, A2, H⟩ := bd H
      try dsimp only at H
      have H' := am H
      clear H
      have z_ := ns5 N14 N16 N18 N20 N29
      have z_ := cB2 K5
      go_wp2_with (first | ((with_reducible refine gate_callee (f := 37) rfl ?_); refine gL 95 Try.func37 (impl_Range_empty.calls _ _ _ _ A1.out) fun w8 hb => ?_; obtain ⟨K1, K2, K3, K4, K5, K6, HB⟩ := bk6 K1 K2 K3 K4 K5 K6 HB hb; (try clear hb); have z_ := ns4 N22 N24 N26 N28; have z_ := cB2 K6) | (go_at_call 37; (with_reducible refine (impl_Range_empty.calls _ _ _ _ A2.out).mono ?_); rintro e w9 ⟨rfl, hb⟩; obtain ⟨K1, K2, K3, K4, K5, K6, HB⟩ := bk6 K1 K2 K3 K4 K5 K6 HB hb; (try clear hb)))
      go_meet
      case rel => exact ⟨_, (t6), ey, H', ⟨by have := J1.out; have := J2.out; first | omega | exact Nat.le_refl _⟩, ⟨Z K1⟩, ⟨Z K2⟩, ⟨Z K3⟩, ⟨Z K4⟩, ⟨Z K5⟩, ⟨Z K6⟩, ⟨YA HB⟩⟩
     case rest =>
      clear C3
      obtain ⟨kq, x10, rfl, HA, J3, K1, K2, K3, K4, K5, K6, HB⟩ := hcut
      cases kq with
      | zero => exact absurd HA.out (by simp [impl_RangeCmp.j3])
      | succ k3 =>
       have H := HA.out
       clear HA
       simp only [impl_RangeCmp.j3] at H
       by_cases c2 : x10 = true
       ·subst c2
        rw [if_pos rfl] at H
        obtain ⟨⟨t5, t6⟩, A1, H⟩ := bd H
        try dsimp only at H
        obtain ⟨⟨t7, t8⟩, A2, H⟩ := bd H
        try dsimp only at H
        simp only [Option.some.injEq, Prod.mk.injEq] at H
        obtain ⟨rfl, rfl, rfl, rfl⟩ := H
        go_wp2_with (first | ((with_reducible refine gate_callee (f := 38) rfl ?_); refine gL 100 Try.func38 (impl_rangeNone.calls _ _ _ A1.out) fun w8 hb => ?_; obtain ⟨K1, K2, K3, K4, K5, K6, HB⟩ := bk6 K1 K2 K3 K4 K5 K6 HB hb; (try clear hb)) | ((with_reducible refine gate_callee (f := 38) rfl ?_); refine gL 101 Try.func38 (impl_rangeNone.calls _ _ _ A2.out) fun w9 hb => ?_; obtain ⟨K1, K2, K3, K4, K5, K6, HB⟩ := bk6 K1 K2 K3 K4 K5 K6 HB hb; (try clear hb); have z_ := ns9 N4 N6 N11 N17 N25 N8 N10 N19 N27; have z_ := cB2 K3; have z_ := cB2 K4))
        refine bodyPost_ret (results_cc rfl _ _ g3 g4 33 33 #[.int .i64 t5, .int .i64 t6] #[.int .i64 t7, .int .i64 t8] (0, 0) (0, 0) _ _ rfl (by refine fa N11 ?_; refine fa N11 ?_; refine pf ?_; refine blk_put (cs := #[.int .i64 t5, .int .i64 x3]) ?_ 1 _ rfl; refine pf ?_; refine blk_put (cs := #[.int .i64 x2, .int .i64 x3]) ?_ 0 _ rfl; exact Z K3) Try.underlying33 rfl (by kernel_rfl) rfl (by refine pf ?_; refine blk_put (cs := #[.int .i64 t7, .int .i64 x5]) ?_ 1 _ rfl; refine pf ?_; refine blk_put (cs := #[.int .i64 x4, .int .i64 x5]) ?_ 0 _ rfl; refine fa N12 ?_; refine fa N12 ?_; exact Z K4) Try.underlying33 rfl (by kernel_rfl)) rfl ?_
        exact ⟨ez, YA HB⟩
       replace c2 := Bool.eq_false_iff.mpr c2
       subst c2
       rw [if_neg ff] at H
       simp only [Option.some.injEq, Prod.mk.injEq] at H
       obtain ⟨rfl, rfl, rfl, rfl⟩ := H
       try go_wp2
       obtain ⟨K1, K2, K3, K4, K5, K6, HB⟩ := dk6 K1 K2 K3 K4 K5 K6 HB
       refine start_ (n := 4) (S := fun w' => w'.cell? ⟨g5, 0, none⟩ = some (.int .i64 x6) ∧ w'.cell? ⟨g5, 1, none⟩ = some (.int .i64 x7) ∧ w'.cell? ⟨g6, 0, none⟩ = some (.int .i64 x8) ∧ w'.cell? ⟨g6, 1, none⟩ = some (.int .i64 x9)) (ds := []) (lb 4 0) (by kernel_rfl) rfl rfl ⟨bc K5 0, bc K5 1, bc K6 0, bc K6 1⟩ (fun hHeld => ?_)
       generalize wc.drew = w8 at K1 K2 K3 K4 K5 K6 HB hHeld ⊢
       refine take_ (i := 0) (N := some 102) (v := ?_) (a' := ?_) (lb 4 1) rfl rfl (by kernel_rfl) (fun _ _ _ h => h) (Or.inl ⟨by rfl, ?_⟩) hHeld ?_ ?_
       rotate_left
       ·rintro w' ⟨s0, s1, s2, s3⟩
        go_simp
        with_reducible rfl
       rotate_left
       ·exact pz
       refine take_ (i := 1) (N := some 103) (v := ?_) (a' := ?_) (lb 4 3) rfl rfl (by kernel_rfl) (fun _ _ _ h => h) (Or.inl ⟨by rfl, ?_⟩) hHeld ?_ ?_
       rotate_left
       ·rintro w' ⟨s0, s1, s2, s3⟩
        go_simp
        with_reducible rfl
       rotate_left
       ·exact pz
       refine one_ (i := 2) (N := none) (lb 4 7) rfl rfl (by kernel_rfl) (by decide) (fun K hK => ?_)
       have s4 : w8.cell? ⟨g3, 0, none⟩ = some (.int .i64 x2) := bc K3 0
       have hfs221 := blk_frozen K3.out 0
       have z_ := ns10 N3 N5 N12 N18 N26 N4 N6 N11 N17 N25
       have s5 : w8.cell? ⟨g3, 1, none⟩ = some (.int .i64 x3) := bc K3 1
       have hfs222 := blk_frozen K3.out 1
       have z_ := ns10 N3 N5 N12 N18 N26 N4 N6 N11 N17 N25
       refine skip_ (w1 := ?_) (by rfl) rfl ?_ ?_
       rotate_left
       ·go_simp
        rfl
       refine hK.out _ _ ⟨(cf N18 ((cf N18 (hHeld.1)))), (cf N18 ((cf N18 (hHeld.2.1)))), (cf N26 ((cf N26 (hHeld.2.2.1)))), (cf N26 ((cf N26 (hHeld.2.2.2))))⟩ (fun hHeld => ?_)
       clear hK K
       refine one_ (i := 3) (N := none) (lb 4 15) rfl rfl (by kernel_rfl) (by decide) (fun K hK => ?_)
       have s6 : w8.cell? ⟨g4, 0, none⟩ = some (.int .i64 x4) := bc K4 0
       have hfs223 := blk_frozen K4.out 0
       have z_ := ns10 N7 N9 N11 N20 N28 N8 N10 N12 N19 N27
       have s7 : w8.cell? ⟨g4, 1, none⟩ = some (.int .i64 x5) := bc K4 1
       have hfs224 := blk_frozen K4.out 1
       have z_ := ns10 N7 N9 N11 N20 N28 N8 N10 N12 N19 N27
       refine skip_ (w1 := ?_) (by rfl) rfl ?_ ?_
       rotate_left
       ·go_simp
        rfl
       refine hK.out _ _ ⟨(cf N20 ((cf N20 (hHeld.1)))), (cf N20 ((cf N20 (hHeld.2.1)))), (cf N28 ((cf N28 (hHeld.2.2.1)))), (cf N28 ((cf N28 (hHeld.2.2.2))))⟩ (fun hHeld => ?_)
       clear hK K
       refine done_ (by kernel_rfl) ?_
       try go_wp2
       refine bodyPost_ret (results_cc rfl _ _ g3 g4 33 33 #[.int .i64 x6, .int .i64 x7] #[.int .i64 x8, .int .i64 x9] (0, 0) (0, 0) _ _ rfl (by refine fa N11 ?_; refine fa N11 ?_; refine pf ?_; refine blk_put (cs := #[.int .i64 x6, .int .i64 x3]) ?_ 1 _ rfl; refine pf ?_; refine blk_put (cs := #[.int .i64 x2, .int .i64 x3]) ?_ 0 _ rfl; exact Z K3) Try.underlying33 rfl (by kernel_rfl) rfl (by refine pf ?_; refine blk_put (cs := #[.int .i64 x8, .int .i64 x5]) ?_ 1 _ rfl; refine pf ?_; refine blk_put (cs := #[.int .i64 x4, .int .i64 x5]) ?_ 0 _ rfl; refine fa N12 ?_; refine fa N12 ?_; exact Z K4) Try.underlying33 rfl (by kernel_rfl)) rfl ?_
       exact ⟨ez, YA HB⟩
end
end Go.Proofs.Ytdmadlfdibiejaa.PFnExactValCmp
