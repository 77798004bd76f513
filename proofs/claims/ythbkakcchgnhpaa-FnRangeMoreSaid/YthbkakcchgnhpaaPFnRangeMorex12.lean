/- Written by this session's own driver (wip/dprint.py): the functions that the law FnRangeMore reaches, as Lean functions, each with its contract. -/
import Derived.Test.YthbkakcchgnhpaaPFnRangeMorex0
import Derived.Test.YthbkakcchgnhpaaPFnRangeMorex1
import Derived.Test.YthbkakcchgnhpaaSv
namespace Go.Proofs.Ythbkakcchgnhpaa.PFnRangeMore
open Go.RowKit Go.Proofs.YthbkakcchgnhpaaV.PrintWords Go.Proofs.YthbkakcchgnhpaaV.PrintLast Go.Proofs.YthbkakcchgnhpaaV.PrintMore Go.Proofs.YthbkakcchgnhpaaSv
attribute [local go_sem] max2_int min2_int max_two min_two max_three min_three max_four min_four   -- for this text's walks alone
set_option linter.unusedVariables false
set_option linter.unusedSimpArgs false

attribute [local go_sem high] eqA24
/-! ### impl_numOp: function 45 -/
attribute [local go_sem] Go.Proofs.YthbkakcchgnhpaaSet.isSome_setCell
def impl_numOp.f (a0 : Int) : Option (Bool) := if a0 ≥ 1 then (some (decide (a0 ≤ 13))) else (some false)
set_option maxHeartbeats 8000000 in
set_option maxRecDepth 100000 in
theorem impl_numOp.calls (a0 : Int) (r : Bool) (w : World) (h : impl_numOp.f a0 = some r) :
  Calls Try.prog 45 #[.int .i64 a0] w fun e w' => e = .returned (.bool r) ∧ Drawn0 w w' := by
 have H : (if a0 ≥ 1 then (some (decide (a0 ≤ 13))) else (some false)) = some r := h
 clear h
 by_cases c1 : a0 ≥ 1
 ·rw [if_pos c1] at H
  have d1 := dT c1
  clear c1
  obtain rfl := Option.some.inj H
  go_enter Try.func45, Try.ntmps45
  go_wp2
  go_ret
  exact ⟨by first | rfl | (simp; done) | (simp [*]; done), by repeat (first | exact Drawn0.refl _ | apply Drawn0.step)⟩
 rw [if_neg c1] at H
 have d1 := dF c1
 clear c1
 obtain rfl := Option.some.inj H
 go_enter Try.func45, Try.ntmps45
 go_wp2
 go_ret
 exact ⟨by first | rfl | (simp; done) | (simp [*]; done), by repeat (first | exact Drawn0.refl _ | apply Drawn0.step)⟩

/-! ### impl_rangeNone: function 48 -/
attribute [local go_sem] Go.Proofs.YthbkakcchgnhpaaSet.isSome_setCell
def impl_rangeNone.f  : Option (Int × Int) := some (1, 0)
set_option maxHeartbeats 8000000 in
set_option maxRecDepth 100000 in
theorem impl_rangeNone.calls  (r1 : Int) (r2 : Int) (w : World) (h : impl_rangeNone.f  = some (r1, r2)) :
  Calls Try.prog 48 #[] w fun e w' => e = .returned (.agg #[.int .i64 r1, .int .i64 r2]) ∧ Below w.heap.size w w' := by
 have hu24 := Try.underlying24
 have HB := am (Below.refl w.heap.size w)
 have H : (some (1, 0)) = some (r1, r2) := h
 clear h
 simp only [Option.some.injEq, Prod.mk.injEq] at H
 obtain ⟨rfl, rfl⟩ := H
 go_enter Try.func48, Try.ntmps48
 go_wp2_with (first | ((with_reducible refine gate_dst (N := 0) rfl ?_); refine bxn 0 #[.int .i64 0, .int .i64 0] 24 HB fun g1 w1 K1 G1 hg hb => ?_; replace HB := am (below_step (YA HB) hb); clear hb hg; have z_ := cB2 K1))
 refine bodyPost_ret (results_cell_row rfl _ _ g1 24 #[.int .i64 1, .int .i64 0] (0, 0) _ rfl (by refine pf ?_; refine blk_put (cs := #[.int .i64 1, .int .i64 0]) ?_ 1 _ rfl; refine pf ?_; refine blk_put (cs := #[.int .i64 0, .int .i64 0]) ?_ 0 _ rfl; exact Z K1) Try.underlying24 rfl (by kernel_rfl)) rfl ?_
 exact ⟨ez, YA HB⟩

/-! ### impl_NumOk: function 60 -/
attribute [local go_sem] Go.Proofs.YthbkakcchgnhpaaSet.isSome_setCell
def impl_NumOk.f (a0 : Int) : Option (Bool) := if a0 ≥ (-2147483648) then (some (decide (a0 ≤ 2147483647))) else (some false)
set_option maxHeartbeats 8000000 in
set_option maxRecDepth 100000 in
theorem impl_NumOk.calls (a0 : Int) (r : Bool) (w : World) (h : impl_NumOk.f a0 = some r) :
  Calls Try.prog 60 #[.int .i64 a0] w fun e w' => e = .returned (.bool r) ∧ Drawn0 w w' := by
 have H : (if a0 ≥ (-2147483648) then (some (decide (a0 ≤ 2147483647))) else (some false)) = some r := h
 clear h
 by_cases c1 : a0 ≥ (-2147483648)
 ·rw [if_pos c1] at H
  have d1 := dT c1
  clear c1
  obtain rfl := Option.some.inj H
  go_enter Try.func60, Try.ntmps60
  go_wp2
  go_ret
  exact ⟨by first | rfl | (simp; done) | (simp [*]; done), by repeat (first | exact Drawn0.refl _ | apply Drawn0.step)⟩
 rw [if_neg c1] at H
 have d1 := dF c1
 clear c1
 obtain rfl := Option.some.inj H
 go_enter Try.func60, Try.ntmps60
 go_wp2
 go_ret
 exact ⟨by first | rfl | (simp; done) | (simp [*]; done), by repeat (first | exact Drawn0.refl _ | apply Drawn0.step)⟩

/-! ### impl_RangeOk: function 46 -/
attribute [local go_sem] Go.Proofs.YthbkakcchgnhpaaSet.isSome_setCell
def impl_RangeOk.f (a0_0 : Int) (a0_1 : Int) : Option (Bool) := (impl_rangeNone.f).bind fun u1 => (if (a0_0 == u1.1 && (a0_1 == u1.2)) = true then (some true) else ((impl_NumOk.f a0_0).bind fun t1 => (if t1 = true then ((impl_NumOk.f a0_1).bind fun t2 => (if t2 = true then (some (decide (a0_0 ≤ a0_1))) else (some false))) else (some false))))
def impl_RangeOk.T1 : Bool × List (List Nat × List Nat) := (true, [([], []), ([], []), ([0, 1], [0, 1]), ([2, 1], [2]), ([3], [3]), ([4, 3], [3, 4]), ([5, 3, 3], [3, 5]), ([6, 6, 3], [3, 6]), ([7], [7]), ([8, 7], [7, 8]), ([9, 7, 7], [7, 9]), ([7, 10, 3], [3, 7, 10]), ([11, 10, 3], [3, 11]), ([12], [12]), ([13, 12], [12, 13]), ([12], [12]), ([15, 12], [12, 15]), ([14, 16, 12], [12, 14, 16]), ([12, 17, 3], [3, 12, 17]), ([3, 18], [3, 18]), ([19, 12, 0, 1, 2, 3, 4, 5, 6, 7, 8, 9, 10, 11, 12, 13, 14, 15, 16, 17, 18, 19], [19])])
def impl_RangeOk.B1 : List Nat := [0, 0, 3, 7, 15, 31, 63, 127, 255, 511, 1023, 2047, 4095, 8191, 16383, 8191, 40959, 131071, 262143, 524287, 1048575]
theorem impl_RangeOk.tab1 : rtab .any (opsOf Try.f46 1) = impl_RangeOk.T1 := by kernel_rfl
theorem impl_RangeOk.bits1 : waitsOk impl_RangeOk.T1.2 impl_RangeOk.B1 = true := by kernel_rfl
set_option maxHeartbeats 8000000 in
set_option maxRecDepth 100000 in
theorem impl_RangeOk.calls (a0_0 : Int) (a0_1 : Int) (r : Bool) (w : World) (h : impl_RangeOk.f a0_0 a0_1 = some r) :
  Calls Try.prog 46 #[.agg #[.int .i64 a0_0, .int .i64 a0_1]] w fun e w' => e = .returned (.bool r) ∧ Below w.heap.size w w' := by
 have hu24 := Try.underlying24
 have HB := am (Below.refl w.heap.size w)
 have H : ((impl_rangeNone.f).bind fun u1 => (if (a0_0 == u1.1 && (a0_1 == u1.2)) = true then (some true) else ((impl_NumOk.f a0_0).bind fun t1 => (if t1 = true then ((impl_NumOk.f a0_1).bind fun t2 => (if t2 = true then (some (decide (a0_0 ≤ a0_1))) else (some false))) else (some false))))) = some r := h
 clear h
 obtain ⟨⟨t3, t4⟩, A1, H⟩ := bd H
 try dsimp only at H
 by_cases c1 : (a0_0 == t3 && (a0_1 == t4)) = true
 ·rw [if_pos c1] at H
  have d1 : (a0_0 == t3 && (a0_1 == t4)) = true := c1
  (try (have d2 : decide (a0_0 = t3 && (a0_1 == t4)) = true := by simpa using c1))
  (try (have d3 : (a0_0 == t3 && (a0_1 == t4)) = true := by simpa using c1))
  clear c1
  obtain rfl := Option.some.inj H
  go_enter Try.func46, Try.ntmps46
  try go_wp2_with (first | ((with_reducible refine gate_dst (N := 1) rfl ?_); refine bxn 1 #[.int .i64 a0_0, .int .i64 a0_1] 24 HB fun g1 w1 K1 G1 hg hb => ?_; replace HB := am (below_step (YA HB) hb); clear hb hg))
  obtain ⟨K1, HB⟩ := dk1 K1 HB
  refine start_ (n := 21) (S := fun w' => ce2 w' g1 a0_0 a0_1) (ds := []) (lb 21 0) (by kernel_rfl) rfl rfl (cc2 K1) (fun hHeld => ?_); refine with_tabW impl_RangeOk.tab1 impl_RangeOk.bits1 (fun HT_ HW_ => ?_)
  generalize w1.drew = w2 at K1 HB hHeld ⊢
  refine tk 0 3 1 hHeld ?_
  refine on 1 (some 4) 3 fun K hK => ?_
  refine gq Try.func48 (impl_rangeNone.calls _ _ _ A1.out) fun w3 hb => ?_
  obtain ⟨K1, HB⟩ := bk1 K1 HB hb
  clear hb
  refine kk hK (cc2 K1) fun hHeld => ?_
  clear hK K
  refine pk 2 5 7 ?_
  refine pk 3 6 15 ?_
  refine uk 4 7 31 ?_
  refine uk 5 8 63 ?_
  refine uk 6 9 127 ?_
  refine uk 7 10 255 ?_
  refine uk 8 11 511 ?_
  refine uk 9 12 1023 ?_
  refine uk 10 13 2047 ?_
  refine uk 11 14 4095 ?_
  refine uk 12 15 8191 ?_
  refine uk 13 16 16383 ?_
  refine uk 14 17 32767 ?_
  refine uk 15 18 65535 ?_
  refine uk 16 19 131071 ?_
  refine uk 17 20 262143 ?_
  refine uk 18 21 524287 ?_
  refine pk 19 22 1048575 ?_
  refine pk 20 2 2097151 ?_
  refine done_ (done_of HT_.out (by kernel_rfl)) ?_
  try go_wp2
  go_ret
  exact ⟨ez, YA HB⟩
 rw [if_neg c1] at H
 have d1 : (a0_0 == t3 && (a0_1 == t4)) = false := by simpa using c1
 (try (have d2 : decide (a0_0 = t3 && (a0_1 == t4)) = false := by simpa using c1))
 (try (have d3 : (a0_0 == t3 && (a0_1 == t4)) = false := by simpa using c1))
 (try (have d4 : ¬ (a0_0 = t3 && (a0_1 == t4)) := by simpa using c1))
 clear c1
 obtain ⟨t1, A2, H⟩ := bd H
 try dsimp only at H
 by_cases c2 : t1 = true
 rotate_left
 ·replace c2 := Bool.eq_false_iff.mpr c2
  subst c2
  rw [if_neg ff] at H
  obtain rfl := Option.some.inj H
  go_enter Try.func46, Try.ntmps46
  try go_wp2_with (first | ((with_reducible refine gate_dst (N := 1) rfl ?_); refine bxn 1 #[.int .i64 a0_0, .int .i64 a0_1] 24 HB fun g1 w1 K1 G1 hg hb => ?_; replace HB := am (below_step (YA HB) hb); clear hb hg))
  obtain ⟨K1, HB⟩ := dk1 K1 HB
  refine start_ (n := 21) (S := fun w' => ce2 w' g1 a0_0 a0_1) (ds := []) (lb 21 0) (by kernel_rfl) rfl rfl (cc2 K1) (fun hHeld => ?_); refine with_tabW impl_RangeOk.tab1 impl_RangeOk.bits1 (fun HT_ HW_ => ?_)
  generalize w1.drew = w2 at K1 HB hHeld ⊢
  refine tk 0 3 1 hHeld ?_
  refine on 1 (some 4) 3 fun K hK => ?_
  refine gq Try.func48 (impl_rangeNone.calls _ _ _ A1.out) fun w3 hb => ?_
  obtain ⟨K1, HB⟩ := bk1 K1 HB hb
  clear hb
  refine kk hK (cc2 K1) fun hHeld => ?_
  clear hK K
  refine pk 2 5 7 ?_
  refine pk 3 6 15 ?_
  refine pk 4 7 31 ?_
  refine tk 5 8 63 hHeld ?_
  refine on 6 (some 9) 127 fun K hK => ?_
  refine goes_ Try.func60 (by kernel_rfl) rfl #[.int .i64 a0_0] (by rfl) rfl rfl mz ?_
  with_reducible refine (impl_NumOk.calls _ _ _ A2.out).mono ?_
  rintro e w' ⟨rfl, ⟨nd, rfl⟩⟩
  refine ⟨_, rfl, ?_⟩
  refine kk hK (cc2 K1) fun hHeld => ?_
  clear hK K
  refine pk 7 10 255 ?_
  refine uk 8 11 511 ?_
  refine uk 9 12 1023 ?_
  refine uk 10 13 2047 ?_
  refine pk 11 14 4095 ?_
  refine pk 12 15 8191 ?_
  refine uk 13 16 16383 ?_
  refine uk 14 17 32767 ?_
  refine uk 15 18 65535 ?_
  refine uk 16 19 131071 ?_
  refine uk 17 20 262143 ?_
  refine pk 18 21 524287 ?_
  refine pk 19 22 1048575 ?_
  refine pk 20 2 2097151 ?_
  refine done_ (done_of HT_.out (by kernel_rfl)) ?_
  try go_wp2
  go_ret
  exact ⟨ez, YA HB⟩
 subst c2
 rw [if_pos rfl] at H
 obtain ⟨t2, A3, H⟩ := bd H
 try dsimp only at H
 by_cases c3 : t2 = true
 rotate_left
 ·replace c3 := Bool.eq_false_iff.mpr c3
  subst c3
  rw [if_neg ff] at H
  obtain rfl := Option.some.inj H
  go_enter Try.func46, Try.ntmps46
  try go_wp2_with (first | ((with_reducible refine gate_dst (N := 1) rfl ?_); refine bxn 1 #[.int .i64 a0_0, .int .i64 a0_1] 24 HB fun g1 w1 K1 G1 hg hb => ?_; replace HB := am (below_step (YA HB) hb); clear hb hg))
  obtain ⟨K1, HB⟩ := dk1 K1 HB
  refine start_ (n := 21) (S := fun w' => ce2 w' g1 a0_0 a0_1) (ds := []) (lb 21 0) (by kernel_rfl) rfl rfl (cc2 K1) (fun hHeld => ?_); refine with_tabW impl_RangeOk.tab1 impl_RangeOk.bits1 (fun HT_ HW_ => ?_)
  generalize w1.drew = w2 at K1 HB hHeld ⊢
  refine tk 0 3 1 hHeld ?_
  refine on 1 (some 4) 3 fun K hK => ?_
  refine gq Try.func48 (impl_rangeNone.calls _ _ _ A1.out) fun w3 hb => ?_
  obtain ⟨K1, HB⟩ := bk1 K1 HB hb
  clear hb
  refine kk hK (cc2 K1) fun hHeld => ?_
  clear hK K
  refine pk 2 5 7 ?_
  refine pk 3 6 15 ?_
  refine pk 4 7 31 ?_
  refine tk 5 8 63 hHeld ?_
  refine on 6 (some 9) 127 fun K hK => ?_
  refine goes_ Try.func60 (by kernel_rfl) rfl #[.int .i64 a0_0] (by rfl) rfl rfl mz ?_
  with_reducible refine (impl_NumOk.calls _ _ _ A2.out).mono ?_
  rintro e w' ⟨rfl, ⟨nd, rfl⟩⟩
  refine ⟨_, rfl, ?_⟩
  refine kk hK (cc2 K1) fun hHeld => ?_
  clear hK K
  refine pk 7 10 255 ?_
  refine pk 8 11 511 ?_
  refine tk 9 12 1023 hHeld ?_
  refine on 10 (some 13) 2047 fun K hK => ?_
  refine goes_ Try.func60 (by kernel_rfl) rfl #[.int .i64 a0_1] (by rfl) rfl rfl mz ?_
  with_reducible refine (impl_NumOk.calls _ _ _ A3.out).mono ?_
  rintro e w' ⟨rfl, ⟨nd, rfl⟩⟩
  refine ⟨_, rfl, ?_⟩
  refine kk hK (cc2 K1) fun hHeld => ?_
  clear hK K
  refine pk 11 14 4095 ?_
  refine pk 12 15 8191 ?_
  refine uk 13 16 16383 ?_
  refine uk 14 17 32767 ?_
  refine uk 15 18 65535 ?_
  refine uk 16 19 131071 ?_
  refine uk 17 20 262143 ?_
  refine pk 18 21 524287 ?_
  refine pk 19 22 1048575 ?_
  refine pk 20 2 2097151 ?_
  refine done_ (done_of HT_.out (by kernel_rfl)) ?_
  try go_wp2
  go_ret
  exact ⟨ez, YA HB⟩
 subst c3
 rw [if_pos rfl] at H
 obtain rfl := Option.some.inj H
 go_enter Try.func46, Try.ntmps46
 try go_wp2_with (first | ((with_reducible refine gate_dst (N := 1) rfl ?_); refine bxn 1 #[.int .i64 a0_0, .int .i64 a0_1] 24 HB fun g1 w1 K1 G1 hg hb => ?_; replace HB := am (below_step (YA HB) hb); clear hb hg))
 obtain ⟨K1, HB⟩ := dk1 K1 HB
 refine start_ (n := 21) (S := fun w' => ce2 w' g1 a0_0 a0_1) (ds := []) (lb 21 0) (by kernel_rfl) rfl rfl (cc2 K1) (fun hHeld => ?_); refine with_tabW impl_RangeOk.tab1 impl_RangeOk.bits1 (fun HT_ HW_ => ?_)
 generalize w1.drew = w2 at K1 HB hHeld ⊢
 refine tk 0 3 1 hHeld ?_
 refine on 1 (some 4) 3 fun K hK => ?_
 refine gq Try.func48 (impl_rangeNone.calls _ _ _ A1.out) fun w3 hb => ?_
 obtain ⟨K1, HB⟩ := bk1 K1 HB hb
 clear hb
 refine kk hK (cc2 K1) fun hHeld => ?_
 clear hK K
 refine pk 2 5 7 ?_
 refine pk 3 6 15 ?_
 refine pk 4 7 31 ?_
 refine tk 5 8 63 hHeld ?_
 refine on 6 (some 9) 127 fun K hK => ?_
 refine goes_ Try.func60 (by kernel_rfl) rfl #[.int .i64 a0_0] (by rfl) rfl rfl mz ?_
 with_reducible refine (impl_NumOk.calls _ _ _ A2.out).mono ?_
 rintro e w' ⟨rfl, ⟨nd, rfl⟩⟩
 refine ⟨_, rfl, ?_⟩
 refine kk hK (cc2 K1) fun hHeld => ?_
 clear hK K
 refine pk 7 10 255 ?_
 refine pk 8 11 511 ?_
 refine tk 9 12 1023 hHeld ?_
 refine on 10 (some 13) 2047 fun K hK => ?_
 refine goes_ Try.func60 (by kernel_rfl) rfl #[.int .i64 a0_1] (by rfl) rfl rfl mz ?_
 with_reducible refine (impl_NumOk.calls _ _ _ A3.out).mono ?_
 rintro e w' ⟨rfl, ⟨nd, rfl⟩⟩
 refine ⟨_, rfl, ?_⟩
 refine kk hK (cc2 K1) fun hHeld => ?_
 clear hK K
 refine pk 11 14 4095 ?_
 refine pk 12 15 8191 ?_
 refine pk 13 16 16383 ?_
 refine pk 15 18 49151 ?_
 refine tk 14 17 65535 hHeld ?_
 refine tk 16 19 131071 hHeld ?_
 refine pk 17 20 262143 ?_
 refine pk 18 21 524287 ?_
 refine pk 19 22 1048575 ?_
 refine pk 20 2 2097151 ?_
 refine done_ (done_of HT_.out (by kernel_rfl)) ?_
 try go_wp2
 go_ret
 exact ⟨ez, YA HB⟩

/-! ### impl_Range_empty: function 47 -/
attribute [local go_sem] Go.Proofs.YthbkakcchgnhpaaSet.isSome_setCell
def impl_Range_empty.f (a0_0 : Int) (a0_1 : Int) : Option (Bool) := some (decide (a0_0 > a0_1))
set_option maxHeartbeats 8000000 in
set_option maxRecDepth 100000 in
theorem impl_Range_empty.calls (a0_0 : Int) (a0_1 : Int) (r : Bool) (w : World) (h : impl_Range_empty.f a0_0 a0_1 = some r) :
  Calls Try.prog 47 #[.agg #[.int .i64 a0_0, .int .i64 a0_1]] w fun e w' => e = .returned (.bool r) ∧ Below w.heap.size w w' := by
 have hu24 := Try.underlying24
 have HB := am (Below.refl w.heap.size w)
 have H : (some (decide (a0_0 > a0_1))) = some r := h
 clear h
 obtain rfl := Option.some.inj H
 go_enter Try.func47, Try.ntmps47
 go_wp2_with (first | ((with_reducible refine gate_dst (N := 1) rfl ?_); refine bxn 1 #[.int .i64 a0_0, .int .i64 a0_1] 24 HB fun g1 w1 K1 G1 hg hb => ?_; replace HB := am (below_step (YA HB) hb); clear hb hg; have z_ := cB2 K1))
 go_ret
 exact ⟨ez, YA HB⟩

end Go.Proofs.Ythbkakcchgnhpaa.PFnRangeMore
