/- Written by this session's own driver (wip/dprint.py): the functions that the law FnValTurn reaches, as Lean functions, each with its contract. -/
import Derived.Test.YthbkakcchgnhpaaPFnValTurnx0
import Derived.Test.YthbkakcchgnhpaaSv
namespace Go.Proofs.Ythbkakcchgnhpaa.PFnValTurn
open Go.RowKit Go.Proofs.YthbkakcchgnhpaaV.PrintWords Go.Proofs.YthbkakcchgnhpaaV.PrintLast Go.Proofs.YthbkakcchgnhpaaV.PrintMore Go.Proofs.YthbkakcchgnhpaaSv
set_option linter.unusedVariables false
set_option linter.unusedSimpArgs false
section
attribute [local go_sem] max2_int min2_int max_two min_two max_three min_three max_four min_four
theorem eqA24 (d : Nat) (w : World) (x0 y0 : Int) (x1 y1 : Int) :
  (Op.equalIn (d + 2) 24 (.agg #[.int .i64 x0, .int .i64 x1]) (.agg #[.int .i64 y0, .int .i64 y1])).run Try.prog w = .ok (x0 == y0 && (x1 == y1)) w := by
 refine eqA_of Try.underlying24 (by kernel_rfl) ?_
 refine eqf_cons (by rfl) (by go_simp; rfl) (by go_simp; rfl) (by go_simp) ?_
 exact eqf_last (by rfl) (by go_simp; rfl) (by go_simp; rfl) (by go_simp)
end
section
attribute [local go_sem] max2_int min2_int max_two min_two max_three min_three max_four min_four
theorem eqA50 (d : Nat) (w : World) (x0 y0 : Int) (x1 y1 : Int) (x2 y2 : Int) (x3 y3 : Int) :
  (Op.equalIn (d + 2) 50 (.agg #[.int .i64 x0, .int .i64 x1, .int .i64 x2, .int .i64 x3]) (.agg #[.int .i64 y0, .int .i64 y1, .int .i64 y2, .int .i64 y3])).run Try.prog w = .ok (x0 == y0 && (x1 == y1 && (x2 == y2 && (x3 == y3)))) w := by
 refine eqA_of Try.underlying50 (by kernel_rfl) ?_
 refine eqf_cons (by rfl) (by go_simp; rfl) (by go_simp; rfl) (by go_simp) ?_
 refine eqf_cons (by rfl) (by go_simp; rfl) (by go_simp; rfl) (by go_simp) ?_
 refine eqf_cons (by rfl) (by go_simp; rfl) (by go_simp; rfl) (by go_simp) ?_
 exact eqf_last (by rfl) (by go_simp; rfl) (by go_simp; rfl) (by go_simp)
end
section
attribute [local go_sem] max2_int min2_int max_two min_two max_three min_three max_four min_four
attribute [local go_sem] Go.Proofs.YthbkakcchgnhpaaSet.isSome_setCell
def laws_sameInts.l0 : Nat → List Int → List Int → Int → Option (Bool)
 | 0, _, _, _ => none
 | k + 1, x1, x2, x3 => if x3 < (x1.length : Int) then (if 0 ≤ x3 then (if x3 < (x2.length : Int) then (if (rd x1 x3) = (rd x2 x3) then (laws_sameInts.l0 k x1 x2 (wrap64 (x3 + 1))) else (some false)) else (none)) else (none)) else (some true)
def laws_sameInts.f (k : Nat) (l0 : List Int) (l1 : List Int) : Option (Bool) := if (l0.length : Int) = (l1.length : Int) then (laws_sameInts.l0 k l0 l1 0) else (some false)
theorem laws_sameInts.mono_l : ∀ k, (∀ y0 y1 y2, LeO (laws_sameInts.l0 k y0 y1 y2) (laws_sameInts.l0 (k + 1) y0 y1 y2))
 | 0 => fun _ _ _ r h => by simp [laws_sameInts.l0] at h
 | k + 1 => by
  have ih0 := laws_sameInts.mono_l k
  ·intro y0 y1 y2
   unfold laws_sameInts.l0
   repeat' first | (with_reducible first | apply ih0 | apply LeO.refl | apply LeO.none | refine LeO.ite ?_ ?_ | refine LeO.bind ?_ (fun _ => ?_)) | apply ih0 | apply LeO.none | refine LeO.ite ?_ ?_ | refine LeO.bind ?_ (fun _ => ?_)
theorem laws_sameInts.mono : ∀ a0 a1 k, LeO (laws_sameInts.f k a0 a1) (laws_sameInts.f (k + 1) a0 a1) := by
 intro a0 a1 k
 have ih0 := laws_sameInts.mono_l k
 unfold laws_sameInts.f
 repeat' first | (with_reducible first | apply ih0 | apply LeO.refl | apply LeO.none | refine LeO.ite ?_ ?_ | refine LeO.bind ?_ (fun _ => ?_)) | apply ih0 | apply LeO.none | refine LeO.ite ?_ ?_ | refine LeO.bind ?_ (fun _ => ?_)
set_option maxHeartbeats 8000000 in
set_option maxRecDepth 100000 in
theorem laws_sameInts.calls (k : Nat) (A1 : Option Addr) (c1 : Nat) (l0 : List Int) (A2 : Option Addr) (c2 : Nat) (l1 : List Int) (r : Bool) (w : World) (hr0 : Kd.C (Kd.int .i64) w A1 l0.length l0) (hc0 : l0.length ≤ c1) (hr1 : Kd.C (Kd.int .i64) w A2 l1.length l1) (hc1 : l1.length ≤ c2) (h : laws_sameInts.f k l0 l1 = some r) :
  Calls Try.prog 20 #[.slice A1 l0.length c1, .slice A2 l1.length c2] w fun e w' => e = .returned (.bool r) ∧ Drawn0 w w' := by
 have R1 := am hr0
 have C1 := am hc0
 clear hr0 hc0
 have R2 := am hr1
 have C2 := am hc1
 clear hr1 hc1
 have H : (if (l0.length : Int) = (l1.length : Int) then (laws_sameInts.l0 k l0 l1 0) else (some false)) = some r := h
 clear h
 by_cases c3 : (l0.length : Int) = (l1.length : Int)
 rotate_left
 ·rw [if_neg c3] at H
  have d1 := eF c3
  have d2 := nT c3
  have d3 : (l0.length == l1.length) = false := by first | simpa using c3 | (simp at c3 ⊢; omega)
  obtain rfl := Option.some.inj H
  go_enter Try.func20, Try.ntmps20
  go_wp2
  repeat (go_quiet (fail); try go_wp2)
  go_ret
  exact ⟨by first | rfl | (simp; done) | (simp [*]; done), qs1⟩
 rw [if_pos c3] at H
 have d1 := eT c3
 have d2 := nF c3
 have d3 : (l0.length == l1.length) = true := by first | simpa using c3 | (simp at c3 ⊢; omega)
 clear c3
 have H' := am H
 clear H
 go_enter Try.func20, Try.ntmps20
 go_wp2
 repeat (go_quiet (fail); try go_wp2)
 go_loopg [5] k (fun kq v1 w' => ∃ (x1 : Int), v1 = .int .i64 x1 ∧ Aside0 (laws_sameInts.l0 kq l0 l1 x1 = some r) ∧ Aside0 (kq ≤ k) ∧ Drawn0 w w')
 case atStart => exact ⟨(0), ey, H', ⟨Nat.le_refl _⟩, qs1⟩
 case round =>
  clear H'
  (try clear d1);(try clear d2);(try clear d3)
  obtain ⟨x1, rfl, HA, HK1, ⟨m1, rfl⟩⟩ := hrel
  cases gk with
  | zero => exact absurd HA.out (by simp [laws_sameInts.l0])
  | succ k1 => ?_
  have H := HA.out
  clear HA
  simp only [laws_sameInts.l0] at H
  by_cases c4 : x1 < (l0.length : Int)
  rotate_left
  ·rw [if_neg c4] at H
   have d4 := dF c4
   clear c4
   obtain rfl := Option.some.inj H
   go_wp2
   repeat (go_quiet (fail); try go_wp2)
   go_ret
   exact ⟨by first | rfl | (simp; done) | (simp [*]; done), qs1⟩
  rw [if_pos c4] at H
  have d4 := dT c4
  clear c4
  by_cases c5 : 0 ≤ x1
  rotate_left
  ·rw [if_neg c5] at H
   exact absurd H (by simp)
  rw [if_pos c5] at H
  have d5 := dT c5
  clear c5
  by_cases c6 : x1 < (l1.length : Int)
  rotate_left
  ·rw [if_neg c6] at H
   exact absurd H (by simp)
  rw [if_pos c6] at H
  have d6 := dT c6
  clear c6
  by_cases c7 : (rd l0 x1) = (rd l1 x1)
  rotate_left
  ·rw [if_neg c7] at H
   have d7 := eF c7
   have d8 := nT c7
   obtain rfl := Option.some.inj H
   have p101 : 0 ≤ (x1 : Int) := oz
   have q101 : x1 < (l0.length : Int) := oz
   obtain ⟨ad101, e101, hx101_0⟩ := Kd.at_int R1.out x1 p101 q101
   cases e101
   replace p101 := eq_true p101
   replace q101 := eq_true q101
   have p102 : 0 ≤ (x1 : Int) := oz
   have q102 : x1 < (l1.length : Int) := oz
   obtain ⟨ad102, e102, hx102_0⟩ := Kd.at_int R2.out x1 p102 q102
   cases e102
   replace p102 := eq_true p102
   replace q102 := eq_true q102
   go_wp2
   repeat (go_quiet (fail); try go_wp2)
   go_ret
   exact ⟨by first | rfl | (simp; done) | (simp [*]; done), qs1⟩
  rw [if_pos c7] at H
  have d7 := eT c7
  have d8 := nF c7
  clear c7
  have H' := am H
  clear H
  have p101 : 0 ≤ (x1 : Int) := oz
  have q101 : x1 < (l0.length : Int) := oz
  obtain ⟨ad101, e101, hx101_0⟩ := Kd.at_int R1.out x1 p101 q101
  cases e101
  replace p101 := eq_true p101
  replace q101 := eq_true q101
  have p102 : 0 ≤ (x1 : Int) := oz
  have q102 : x1 < (l1.length : Int) := oz
  obtain ⟨ad102, e102, hx102_0⟩ := Kd.at_int R2.out x1 p102 q102
  cases e102
  replace p102 := eq_true p102
  replace q102 := eq_true q102
  go_wp2
  repeat (go_quiet (fail); try go_wp2)
  go_roundg k1
  case measure => have := HK1.out; omega
  case rel => exact ⟨(wrap64 (x1 + 1)), ey, H', ⟨by have := HK1.out; omega⟩, qs1⟩

def impl_numOp.f (a0 : Int) : Option (Bool) := if a0 ≥ 1 then (some (decide (a0 ≤ 13))) else (some false)
set_option maxHeartbeats 8000000 in
set_option maxRecDepth 100000 in
theorem impl_numOp.calls (a0 : Int) (r : Bool) (w : World) (h : impl_numOp.f a0 = some r) :
  Calls Try.prog 45 #[.int .i64 a0] w fun e w' => e = .returned (.bool r) ∧ Drawn0 w w' := by
 have H : (if a0 ≥ 1 then (some (decide (a0 ≤ 13))) else (some false)) = some r := h
 clear h
 by_cases c1 : a0 ≥ 1
 ·rw [if_pos c1] at H
  have d1 := dT c1
  clear c1
  obtain rfl := Option.some.inj H
  go_enter Try.func45, Try.ntmps45
  go_wp2
  go_ret
  exact ⟨by first | rfl | (simp; done) | (simp [*]; done), qs1⟩
 rw [if_neg c1] at H
 have d1 := dF c1
 clear c1
 obtain rfl := Option.some.inj H
 go_enter Try.func45, Try.ntmps45
 go_wp2
 go_ret
 exact ⟨by first | rfl | (simp; done) | (simp [*]; done), qs1⟩

def impl_rangeNone.f  : Option (Int × Int) := some (1, 0)
set_option maxHeartbeats 8000000 in
set_option maxRecDepth 100000 in
theorem impl_rangeNone.calls  (r1 : Int) (r2 : Int) (w : World) (h : impl_rangeNone.f  = some (r1, r2)) :
  Calls Try.prog 48 #[] w fun e w' => e = .returned (.agg #[.int .i64 r1, .int .i64 r2]) ∧ Below w.heap.size w w' := by
 have hu24 := Try.underlying24
 have HB := am (Below.refl w.heap.size w)
 have H : (some (1, 0)) = some (r1, r2) := h
 clear h
 obtain ⟨rfl, rfl⟩ := sj2 H
 go_enter Try.func48, Try.ntmps48
 go_wp2_with (first | ((with_reducible refine gate_dst (N := 0) rfl ?_); refine bxn 0 #[.int .i64 0, .int .i64 0] 24 HB fun g1 w1 K1 G1 hg hb => ?_; replace HB := am (below_step (YA HB) hb); clear hb hg; have := cB2 K1))
 refine bodyPost_ret (results_cell_row rfl _ _ g1 24 #[.int .i64 1, .int .i64 0] (0, 0) _ rfl (by refine pf ?_; refine bp (ia2 1 0) ?_ 1; refine pf ?_; refine bp (ia2 0 0) ?_ 0; exact Z K1) Try.underlying24 rfl (by kernel_rfl)) rfl ?_
 exact ⟨ez, YA HB⟩

def impl_NumOk.f (a0 : Int) : Option (Bool) := if a0 ≥ (-2147483648) then (some (decide (a0 ≤ 2147483647))) else (some false)
set_option maxHeartbeats 8000000 in
set_option maxRecDepth 100000 in
theorem impl_NumOk.calls (a0 : Int) (r : Bool) (w : World) (h : impl_NumOk.f a0 = some r) :
  Calls Try.prog 60 #[.int .i64 a0] w fun e w' => e = .returned (.bool r) ∧ Drawn0 w w' := by
 have H : (if a0 ≥ (-2147483648) then (some (decide (a0 ≤ 2147483647))) else (some false)) = some r := h
 clear h
 by_cases c1 : a0 ≥ (-2147483648)
 ·rw [if_pos c1] at H
  have d1 := dT c1
  clear c1
  obtain rfl := Option.some.inj H
  go_enter Try.func60, Try.ntmps60
  go_wp2
  go_ret
  exact ⟨by first | rfl | (simp; done) | (simp [*]; done), qs1⟩
 rw [if_neg c1] at H
 have d1 := dF c1
 clear c1
 obtain rfl := Option.some.inj H
 go_enter Try.func60, Try.ntmps60
 go_wp2
 go_ret
 exact ⟨by first | rfl | (simp; done) | (simp [*]; done), qs1⟩
end
section
attribute [local go_sem] max2_int min2_int max_two min_two max_three min_three max_four min_four
attribute [local go_sem high] eqA24
attribute [local go_sem] Go.Proofs.YthbkakcchgnhpaaSet.isSome_setCell
def impl_RangeOk.f (a0_0 : Int) (a0_1 : Int) : Option (Bool) := (impl_rangeNone.f).bind fun u1 => (if (a0_0 == u1.1 && (a0_1 == u1.2)) = true then (some true) else ((impl_NumOk.f a0_0).bind fun t1 => (if t1 = true then ((impl_NumOk.f a0_1).bind fun t2 => (if t2 = true then (some (decide (a0_0 ≤ a0_1))) else (some false))) else (some false))))
def impl_RangeOk.T1 : Bool × List (List Nat × List Nat) := (true, [([], []), ([], []), ([0, 1], [0, 1]), ([2, 1], [2]), ([3], [3]), ([4, 3], [3, 4]), ([5, 3, 3], [3, 5]), ([6, 6, 3], [3, 6]), ([7], [7]), ([8, 7], [7, 8]), ([9, 7, 7], [7, 9]), ([7, 10, 3], [3, 7, 10]), ([11, 10, 3], [3, 11]), ([12], [12]), ([13, 12], [12, 13]), ([12], [12]), ([15, 12], [12, 15]), ([14, 16, 12], [12, 14, 16]), ([12, 17, 3], [3, 12, 17]), ([3, 18], [3, 18]), ([19, 12, 0, 1, 2, 3, 4, 5, 6, 7, 8, 9, 10, 11, 12, 13, 14, 15, 16, 17, 18, 19], [19])])
def impl_RangeOk.B1 : List Nat := [0, 0, 3, 7, 15, 31, 63, 127, 255, 511, 1023, 2047, 4095, 8191, 16383, 8191, 40959, 131071, 262143, 524287, 1048575]
theorem impl_RangeOk.tab1 : rtab .any (opsOf Try.f46 1) = impl_RangeOk.T1 := by kernel_rfl
theorem impl_RangeOk.bits1 : waitsOk impl_RangeOk.T1.2 impl_RangeOk.B1 = true := by kernel_rfl
set_option maxHeartbeats 8000000 in
set_option maxRecDepth 100000 in
theorem impl_RangeOk.calls (a0_0 : Int) (a0_1 : Int) (r : Bool) (w : World) (h : impl_RangeOk.f a0_0 a0_1 = some r) :
  Calls Try.prog 46 #[.agg #[.int .i64 a0_0, .int .i64 a0_1]] w fun e w' => e = .returned (.bool r) ∧ Below w.heap.size w w' := by
 have hu24 := Try.underlying24
 have HB := am (Below.refl w.heap.size w)
 have H : ((impl_rangeNone.f).bind fun u1 => (if (a0_0 == u1.1 && (a0_1 == u1.2)) = true then (some true) else ((impl_NumOk.f a0_0).bind fun t1 => (if t1 = true then ((impl_NumOk.f a0_1).bind fun t2 => (if t2 = true then (some (decide (a0_0 ≤ a0_1))) else (some false))) else (some false))))) = some r := h
 clear h
 obtain ⟨⟨t3, t4⟩, A1, H⟩ := bd H
 try dsimp only at H
 by_cases c1 : (a0_0 == t3 && (a0_1 == t4)) = true
 ·rw [if_pos c1] at H
  have d1 : (a0_0 == t3 && (a0_1 == t4)) = true := c1
  (try (have d2 : decide (a0_0 = t3 && (a0_1 == t4)) = true := by simpa using c1))
  (try (have d3 : (a0_0 == t3 && (a0_1 == t4)) = true := by simpa using c1))
  clear c1
  obtain rfl := Option.some.inj H
  go_enter Try.func46, Try.ntmps46
  try go_wp2_with (first | ((with_reducible refine gate_dst (N := 1) rfl ?_); refine bxn 1 #[.int .i64 a0_0, .int .i64 a0_1] 24 HB fun g1 w1 K1 G1 hg hb => ?_; replace HB := am (below_step (YA HB) hb); clear hb hg))
  obtain ⟨K1, HB⟩ := dk1 K1 HB
  refine start_ (n := 21) (S := fun w' => ce2 w' g1 a0_0 a0_1) (ds := []) (lb 21 0) (by kernel_rfl) rfl rfl (cc2 K1) (fun hHeld => ?_); refine with_tabW impl_RangeOk.tab1 impl_RangeOk.bits1 (fun HT_ HW_ => ?_)
  generalize w1.drew = w2 at K1 HB hHeld ⊢
  refine tk 0 3 1 hHeld ?_
  refine on 1 (some 4) 3 fun K hK => ?_
  refine ck hK Try.func48 (impl_rangeNone.calls _ _ _ A1.out) (fun _ b => bk1 K1 HB b) fun w3 Q_ hHeld => ?_
  clear hK K
  obtain ⟨K1, HB⟩ := Q_
  refine pk 2 5 7 ?_
  refine pk 3 6 15 ?_
  refine uk 4 7 31 ?_
  refine uk 5 8 63 ?_
  refine uk 6 9 127 ?_
  refine uk 7 10 255 ?_
  refine uk 8 11 511 ?_
  refine uk 9 12 1023 ?_
  refine uk 10 13 2047 ?_
  refine uk 11 14 4095 ?_
  refine uk 12 15 8191 ?_
  refine uk 13 16 16383 ?_
  refine uk 14 17 32767 ?_
  refine uk 15 18 65535 ?_
  refine uk 16 19 131071 ?_
  refine uk 17 20 262143 ?_
  refine uk 18 21 524287 ?_
  refine pk 19 22 1048575 ?_
  refine pk 20 2 2097151 ?_
  refine done_ (done_of HT_.out (by kernel_rfl)) ?_
  try go_wp2
  go_ret
  exact ⟨ez, YA HB⟩
 rw [if_neg c1] at H
 have d1 : (a0_0 == t3 && (a0_1 == t4)) = false := by simpa using c1
 (try (have d2 : decide (a0_0 = t3 && (a0_1 == t4)) = false := by simpa using c1))
 (try (have d3 : (a0_0 == t3 && (a0_1 == t4)) = false := by simpa using c1))
 (try (have d4 : ¬ (a0_0 = t3 && (a0_1 == t4)) := by simpa using c1))
 clear c1
 obtain ⟨t1, A2, H⟩ := bd H
 try dsimp only at H
 by_cases c2 : t1 = true
 rotate_left
 ·replace c2 := Bool.eq_false_iff.mpr c2
  subst c2
  rw [if_neg ff] at H
  obtain rfl := Option.some.inj H
  go_enter Try.func46, Try.ntmps46
  try go_wp2_with (first | ((with_reducible refine gate_dst (N := 1) rfl ?_); refine bxn 1 #[.int .i64 a0_0, .int .i64 a0_1] 24 HB fun g1 w1 K1 G1 hg hb => ?_; replace HB := am (below_step (YA HB) hb); clear hb hg))
  obtain ⟨K1, HB⟩ := dk1 K1 HB
  refine start_ (n := 21) (S := fun w' => ce2 w' g1 a0_0 a0_1) (ds := []) (lb 21 0) (by kernel_rfl) rfl rfl (cc2 K1) (fun hHeld => ?_); refine with_tabW impl_RangeOk.tab1 impl_RangeOk.bits1 (fun HT_ HW_ => ?_)
  generalize w1.drew = w2 at K1 HB hHeld ⊢
  refine tk 0 3 1 hHeld ?_
  refine on 1 (some 4) 3 fun K hK => ?_
  refine ck hK Try.func48 (impl_rangeNone.calls _ _ _ A1.out) (fun _ b => bk1 K1 HB b) fun w3 Q_ hHeld => ?_
  clear hK K
  obtain ⟨K1, HB⟩ := Q_
  refine pk 2 5 7 ?_
  refine pk 3 6 15 ?_
  refine pk 4 7 31 ?_
  refine tk 5 8 63 hHeld ?_
  refine on 6 (some 9) 127 fun K hK => ?_
  refine goes_ Try.func60 (by kernel_rfl) rfl #[.int .i64 a0_0] (by rfl) rfl rfl mz ?_
  with_reducible refine (impl_NumOk.calls _ _ _ A2.out).mono ?_
  rintro e w' ⟨rfl, ⟨nd, rfl⟩⟩
  refine ⟨_, rfl, ?_⟩
  refine kk hK (cc2 K1) fun hHeld => ?_
  clear hK K
  refine pk 7 10 255 ?_
  refine uk 8 11 511 ?_
  refine uk 9 12 1023 ?_
  refine uk 10 13 2047 ?_
  refine pk 11 14 4095 ?_
  refine pk 12 15 8191 ?_
  refine uk 13 16 16383 ?_
  refine uk 14 17 32767 ?_
  refine uk 15 18 65535 ?_
  refine uk 16 19 131071 ?_
  refine uk 17 20 262143 ?_
  refine pk 18 21 524287 ?_
  refine pk 19 22 1048575 ?_
  refine pk 20 2 2097151 ?_
  refine done_ (done_of HT_.out (by kernel_rfl)) ?_
  try go_wp2
  go_ret
  exact ⟨ez, YA HB⟩
 subst c2
 rw [if_pos rfl] at H
 obtain ⟨t2, A3, H⟩ := bd H
 try dsimp only at H
 by_cases c3 : t2 = true
 rotate_left
 ·replace c3 := Bool.eq_false_iff.mpr c3
  subst c3
  rw [if_neg ff] at H
  obtain rfl := Option.some.inj H
  go_enter Try.func46, Try.ntmps46
  try go_wp2_with (first | ((with_reducible refine gate_dst (N := 1) rfl ?_); refine bxn 1 #[.int .i64 a0_0, .int .i64 a0_1] 24 HB fun g1 w1 K1 G1 hg hb => ?_; replace HB := am (below_step (YA HB) hb); clear hb hg))
  obtain ⟨K1, HB⟩ := dk1 K1 HB
  refine start_ (n := 21) (S := fun w' => ce2 w' g1 a0_0 a0_1) (ds := []) (lb 21 0) (by kernel_rfl) rfl rfl (cc2 K1) (fun hHeld => ?_); refine with_tabW impl_RangeOk.tab1 impl_RangeOk.bits1 (fun HT_ HW_ => ?_)
  generalize w1.drew = w2 at K1 HB hHeld ⊢
  refine tk 0 3 1 hHeld ?_
  refine on 1 (some 4) 3 fun K hK => ?_
  refine ck hK Try.func48 (impl_rangeNone.calls _ _ _ A1.out) (fun _ b => bk1 K1 HB b) fun w3 Q_ hHeld => ?_
  clear hK K
  obtain ⟨K1, HB⟩ := Q_
  refine pk 2 5 7 ?_
  refine pk 3 6 15 ?_
  refine pk 4 7 31 ?_
  refine tk 5 8 63 hHeld ?_
  refine on 6 (some 9) 127 fun K hK => ?_
  refine goes_ Try.func60 (by kernel_rfl) rfl #[.int .i64 a0_0] (by rfl) rfl rfl mz ?_
  with_reducible refine (impl_NumOk.calls _ _ _ A2.out).mono ?_
  rintro e w' ⟨rfl, ⟨nd, rfl⟩⟩
  refine ⟨_, rfl, ?_⟩
  refine kk hK (cc2 K1) fun hHeld => ?_
  clear hK K
  refine pk 7 10 255 ?_
  refine pk 8 11 511 ?_
  refine tk 9 12 1023 hHeld ?_
  refine on 10 (some 13) 2047 fun K hK => ?_
  refine goes_ Try.func60 (by kernel_rfl) rfl #[.int .i64 a0_1] (by rfl) rfl rfl mz ?_
  with_reducible refine (impl_NumOk.calls _ _ _ A3.out).mono ?_
  rintro e w' ⟨rfl, ⟨nd, rfl⟩⟩
  refine ⟨_, rfl, ?_⟩
  refine kk hK (cc2 K1) fun hHeld => ?_
  clear hK K
  refine pk 11 14 4095 ?_
  refine pk 12 15 8191 ?_
  refine uk 13 16 16383 ?_
  refine uk 14 17 32767 ?_
  refine uk 15 18 65535 ?_
  refine uk 16 19 131071 ?_
  refine uk 17 20 262143 ?_
  refine pk 18 21 524287 ?_
  refine pk 19 22 1048575 ?_
  refine pk 20 2 2097151 ?_
  refine done_ (done_of HT_.out (by kernel_rfl)) ?_
  try go_wp2
  go_ret
  exact ⟨ez, YA HB⟩
 subst c3
 rw [if_pos rfl] at H
 obtain rfl := Option.some.inj H
 go_enter Try.func46, Try.ntmps46
 try go_wp2_with (first | ((with_reducible refine gate_dst (N := 1) rfl ?_); refine bxn 1 #[.int .i64 a0_0, .int .i64 a0_1] 24 HB fun g1 w1 K1 G1 hg hb => ?_; replace HB := am (below_step (YA HB) hb); clear hb hg))
 obtain ⟨K1, HB⟩ := dk1 K1 HB
 refine start_ (n := 21) (S := fun w' => ce2 w' g1 a0_0 a0_1) (ds := []) (lb 21 0) (by kernel_rfl) rfl rfl (cc2 K1) (fun hHeld => ?_); refine with_tabW impl_RangeOk.tab1 impl_RangeOk.bits1 (fun HT_ HW_ => ?_)
 generalize w1.drew = w2 at K1 HB hHeld ⊢
 refine tk 0 3 1 hHeld ?_
 refine on 1 (some 4) 3 fun K hK => ?_
 refine ck hK Try.func48 (impl_rangeNone.calls _ _ _ A1.out) (fun _ b => bk1 K1 HB b) fun w3 Q_ hHeld => ?_
 clear hK K
 obtain ⟨K1, HB⟩ := Q_
 refine pk 2 5 7 ?_
 refine pk 3 6 15 ?_
 refine pk 4 7 31 ?_
 refine tk 5 8 63 hHeld ?_
 refine on 6 (some 9) 127 fun K hK => ?_
 refine goes_ Try.func60 (by kernel_rfl) rfl #[.int .i64 a0_0] (by rfl) rfl rfl mz ?_
 with_reducible refine (impl_NumOk.calls _ _ _ A2.out).mono ?_
 rintro e w' ⟨rfl, ⟨nd, rfl⟩⟩
 refine ⟨_, rfl, ?_⟩
 refine kk hK (cc2 K1) fun hHeld => ?_
 clear hK K
 refine pk 7 10 255 ?_
 refine pk 8 11 511 ?_
 refine tk 9 12 1023 hHeld ?_
 refine on 10 (some 13) 2047 fun K hK => ?_
 refine goes_ Try.func60 (by kernel_rfl) rfl #[.int .i64 a0_1] (by rfl) rfl rfl mz ?_
 with_reducible refine (impl_NumOk.calls _ _ _ A3.out).mono ?_
 rintro e w' ⟨rfl, ⟨nd, rfl⟩⟩
 refine ⟨_, rfl, ?_⟩
 refine kk hK (cc2 K1) fun hHeld => ?_
 clear hK K
 refine pk 11 14 4095 ?_
 refine pk 12 15 8191 ?_
 refine pk 13 16 16383 ?_
 refine pk 15 18 49151 ?_
 refine tk 14 17 65535 hHeld ?_
 refine tk 16 19 131071 hHeld ?_
 refine pk 17 20 262143 ?_
 refine pk 18 21 524287 ?_
 refine pk 19 22 1048575 ?_
 refine pk 20 2 2097151 ?_
 refine done_ (done_of HT_.out (by kernel_rfl)) ?_
 try go_wp2
 go_ret
 exact ⟨ez, YA HB⟩

def impl_Range_empty.f (a0_0 : Int) (a0_1 : Int) : Option (Bool) := some (decide (a0_0 > a0_1))
set_option maxHeartbeats 8000000 in
set_option maxRecDepth 100000 in
theorem impl_Range_empty.calls (a0_0 : Int) (a0_1 : Int) (r : Bool) (w : World) (h : impl_Range_empty.f a0_0 a0_1 = some r) :
  Calls Try.prog 47 #[.agg #[.int .i64 a0_0, .int .i64 a0_1]] w fun e w' => e = .returned (.bool r) ∧ Below w.heap.size w w' := by
 have hu24 := Try.underlying24
 have HB := am (Below.refl w.heap.size w)
 have H : (some (decide (a0_0 > a0_1))) = some r := h
 clear h
 obtain rfl := Option.some.inj H
 go_enter Try.func47, Try.ntmps47
 go_wp2_with (first | ((with_reducible refine gate_dst (N := 1) rfl ?_); refine bxn 1 #[.int .i64 a0_0, .int .i64 a0_1] 24 HB fun g1 w1 K1 G1 hg hb => ?_; replace HB := am (below_step (YA HB) hb); clear hb hg; have := cB2 K1))
 go_ret
 exact ⟨ez, YA HB⟩
end
section
attribute [local go_sem] max2_int min2_int max_two min_two max_three min_three max_four min_four
attribute [local go_sem] Go.Proofs.YthbkakcchgnhpaaSet.isSome_setCell
mutual
def impl_numExact.j0 : Nat → Int → Int → Int → Bool → Option (Int)
 | 0, _, _, _, _ => none
 | k + 1, x1, x2, x3, x4 => if x4 = true then (some (wrap64 (x1 + x2))) else (if x3 = 2 then (impl_numExact.j1 k x1 x2 x3 (x3 == 2)) else (impl_numExact.j1 k x1 x2 x3 (x3 == 12)))
def impl_numExact.j1 : Nat → Int → Int → Int → Bool → Option (Int)
 | 0, _, _, _, _ => none
 | k + 1, x1, x2, x3, x4 => if x4 = true then (some (wrap64 (x1 - x2))) else (if x3 = 3 then (impl_numExact.j2 k x1 x2 x3 (x3 == 3)) else (impl_numExact.j2 k x1 x2 x3 (x3 == 13)))
def impl_numExact.j2 : Nat → Int → Int → Int → Bool → Option (Int)
 | 0, _, _, _, _ => none
 | k + 1, x1, x2, x3, x4 => if x4 = true then (some (wrap64 (x1 * x2))) else (if x3 = 4 then (if x2 = 0 then (none) else (some (wrap64 (Int.tdiv x1 x2)))) else (if x3 = 5 then (if x2 = 0 then (none) else (some (Int.tmod x1 x2))) else (if x3 = 6 then (some (Go.bits .and .i64 x1 x2)) else (if x3 = 7 then (some (Go.bits .or .i64 x1 x2)) else (if x3 = 8 then (some (Go.bits .xor .i64 x1 x2)) else (if x3 = 9 then (if 0 ≤ (IntKind.u64.wrap (x2)) then (some (shl .i64 x1 (IntKind.u64.wrap (x2)))) else (none)) else (if x3 = 10 then (if 0 ≤ (IntKind.u64.wrap (x2)) then (some (shr .i64 x1 (IntKind.u64.wrap (x2)))) else (none)) else (some 0))))))))
end
def impl_numExact.f (k : Nat) (a0 : Int) (a1 : Int) (a2 : Int) : Option (Int) := if a0 = 1 then (impl_numExact.j0 k a1 a2 a0 (a0 == 1)) else (impl_numExact.j0 k a1 a2 a0 (a0 == 11))
theorem impl_numExact.mono_l : ∀ k, (∀ y0 y1 y2 y3, LeO (impl_numExact.j0 k y0 y1 y2 y3) (impl_numExact.j0 (k + 1) y0 y1 y2 y3)) ∧ (∀ y0 y1 y2 y3, LeO (impl_numExact.j1 k y0 y1 y2 y3) (impl_numExact.j1 (k + 1) y0 y1 y2 y3)) ∧ (∀ y0 y1 y2 y3, LeO (impl_numExact.j2 k y0 y1 y2 y3) (impl_numExact.j2 (k + 1) y0 y1 y2 y3))
 | 0 => ⟨fun _ _ _ _ r h => by simp [impl_numExact.j0] at h, fun _ _ _ _ r h => by simp [impl_numExact.j1] at h, fun _ _ _ _ r h => by simp [impl_numExact.j2] at h⟩
 | k + 1 => by
  obtain ⟨ih0, ih1, ih2⟩ := impl_numExact.mono_l k
  refine ⟨?_, ?_, ?_⟩ <;> (intros; (first | unfold impl_numExact.j0 | unfold impl_numExact.j1 | unfold impl_numExact.j2); repeat' first | (with_reducible first | apply ih0 | apply ih1 | apply ih2 | apply LeO.refl | apply LeO.none | refine LeO.ite ?_ ?_ | refine LeO.bind ?_ (fun _ => ?_)) | apply ih0 | apply ih1 | apply ih2 | apply LeO.none | refine LeO.ite ?_ ?_ | refine LeO.bind ?_ (fun _ => ?_))
theorem impl_numExact.mono : ∀ a0 a1 a2 k, LeO (impl_numExact.f k a0 a1 a2) (impl_numExact.f (k + 1) a0 a1 a2) := by
 intro a0 a1 a2 k
 obtain ⟨ih0, ih1, ih2⟩ := impl_numExact.mono_l k
 unfold impl_numExact.f
 repeat' first | (with_reducible first | apply ih0 | apply ih1 | apply ih2 | apply LeO.refl | apply LeO.none | refine LeO.ite ?_ ?_ | refine LeO.bind ?_ (fun _ => ?_)) | apply ih0 | apply ih1 | apply ih2 | apply LeO.none | refine LeO.ite ?_ ?_ | refine LeO.bind ?_ (fun _ => ?_)
set_option maxHeartbeats 8000000 in
set_option maxRecDepth 100000 in
theorem impl_numExact.calls (k : Nat) (a0 : Int) (a1 : Int) (a2 : Int) (r : Int) (w : World) (h : impl_numExact.f k a0 a1 a2 = some r) :
  Calls Try.prog 61 #[.int .i64 a0, .int .i64 a1, .int .i64 a2] w fun e w' => e = .returned (.int .i64 r) ∧ Drawn0 w w' := by
 have H : (if a0 = 1 then (impl_numExact.j0 k a1 a2 a0 (a0 == 1)) else (impl_numExact.j0 k a1 a2 a0 (a0 == 11))) = some r := h
 clear h
 have C1 := am H
 clear H
 go_enter Try.func61, Try.ntmps61
 go_upto_if 8 with (fail)
 go_cut [8] (fun v1 wc => ∃ (kq : Nat) (x1 : Bool), v1 = .bool x1 ∧ Aside0 (impl_numExact.j0 kq a1 a2 a0 x1 = some r) ∧ Aside0 (kq ≤ k) ∧ Drawn0 w wc)
 case first =>
  have H := C1.out
  clear C1
  by_cases c1 : a0 = 1
  rotate_left
  ·rw [if_neg c1] at H
   have d1 := eF c1
   have d2 := nT c1
   (first | rw [d1] | (simp only [i64_w, i32_w]; rw [d1]) | skip)
   have H' := am H
   clear H
   go_wp2
   go_meet
   case rel => exact ⟨_, ((a0 == 11)), ey, H', le0, qs1⟩
  rw [if_pos c1] at H
  have d1 := eT c1
  have d2 := nF c1
  clear c1
  (first | rw [d1] | (simp only [i64_w, i32_w]; rw [d1]) | skip)
  have H' := am H
  clear H
  go_wp2
  go_meet
  case rel => exact ⟨_, ((a0 == 1)), ey, H', le0, qs1⟩
 clear C1
 obtain ⟨kq, x1, rfl, HA, J1, ⟨mc3, rfl⟩⟩ := hcut
 cases kq with
 | zero => exact absurd HA.out (by simp [impl_numExact.j0])
 | succ k1 => ?_
 have H := HA.out
 clear HA
 simp only [impl_numExact.j0] at H
 by_cases c1 : x1 = true
 ·subst c1
  rw [if_pos rfl] at H
  obtain rfl := Option.some.inj H
  go_wp2
  go_ret
  exact ⟨by first | rfl | (simp; done) | (simp [*]; done), qs1⟩
 replace c1 := Bool.eq_false_iff.mpr c1
 subst c1
 rw [if_neg ff] at H
 have C2 := am H
 clear H
 go_upto_if 14 with (fail)
 go_cut [14] (fun v2 wc => ∃ (kq : Nat) (x2 : Bool), v2 = .bool x2 ∧ Aside0 (impl_numExact.j1 kq a1 a2 a0 x2 = some r) ∧ Aside0 (kq ≤ k1) ∧ Drawn0 w wc)
 case first =>
  have H := C2.out
  clear C2
  by_cases c2 : a0 = 2
  rotate_left
  ·rw [if_neg c2] at H
   have d1 := eF c2
   have d2 := nT c2
   (first | rw [d1] | (simp only [i64_w, i32_w]; rw [d1]) | skip)
   have H' := am H
   clear H
   go_wp2
   go_meet
   case rel => exact ⟨_, ((a0 == 12)), ey, H', le1 J1, qs1⟩
  rw [if_pos c2] at H
  have d1 := eT c2
  have d2 := nF c2
  clear c2
  (first | rw [d1] | (simp only [i64_w, i32_w]; rw [d1]) | skip)
  have H' := am H
  clear H
  go_wp2
  go_meet
  case rel => exact ⟨_, ((a0 == 2)), ey, H', le1 J1, qs1⟩
 clear C2
 try clear c1
 obtain ⟨kq, x2, rfl, HA, J2, ⟨mc6, rfl⟩⟩ := hcut
 cases kq with
 | zero => exact absurd HA.out (by simp [impl_numExact.j1])
 | succ k2 => ?_
 have H := HA.out
 clear HA
 simp only [impl_numExact.j1] at H
 by_cases c2 : x2 = true
 ·subst c2
  rw [if_pos rfl] at H
  obtain rfl := Option.some.inj H
  go_wp2
  go_ret
  exact ⟨by first | rfl | (simp; done) | (simp [*]; done), qs1⟩
 replace c2 := Bool.eq_false_iff.mpr c2
 subst c2
 rw [if_neg ff] at H
 have C3 := am H
 clear H
 go_upto_if 20 with (fail)
 go_cut [20] (fun v3 wc => ∃ (kq : Nat) (x3 : Bool), v3 = .bool x3 ∧ Aside0 (impl_numExact.j2 kq a1 a2 a0 x3 = some r) ∧ Aside0 (kq ≤ k2) ∧ Drawn0 w wc)
 case first =>
  have H := C3.out
  clear C3
  by_cases c3 : a0 = 3
  rotate_left
  ·rw [if_neg c3] at H
   have d1 := eF c3
   have d2 := nT c3
   (first | rw [d1] | (simp only [i64_w, i32_w]; rw [d1]) | skip)
   have H' := am H
   clear H
   go_wp2
   go_meet
   case rel => exact ⟨_, ((a0 == 13)), ey, H', ⟨by have := J1.out; have := J2.out; first | omega | exact Nat.le_refl _⟩, qs1⟩
  rw [if_pos c3] at H
  have d1 := eT c3
  have d2 := nF c3
  clear c3
  (first | rw [d1] | (simp only [i64_w, i32_w]; rw [d1]) | skip)
  have H' := am H
  clear H
  go_wp2
  go_meet
  case rel => exact ⟨_, ((a0 == 3)), ey, H', ⟨by have := J1.out; have := J2.out; first | omega | exact Nat.le_refl _⟩, qs1⟩
 clear C3
 try clear c2
 obtain ⟨kq, x3, rfl, HA, J3, ⟨mc9, rfl⟩⟩ := hcut
 cases kq with
 | zero => exact absurd HA.out (by simp [impl_numExact.j2])
 | succ k3 => ?_
 have H := HA.out
 clear HA
 simp only [impl_numExact.j2] at H
 by_cases c3 : x3 = true
 ·subst c3
  rw [if_pos rfl] at H
  obtain rfl := Option.some.inj H
  go_wp2
  go_ret
  exact ⟨by first | rfl | (simp; done) | (simp [*]; done), qs1⟩
 replace c3 := Bool.eq_false_iff.mpr c3
 subst c3
 rw [if_neg ff] at H
 by_cases c4 : a0 = 4
 ·rw [if_pos c4] at H
  have d1 := eT c4
  have d2 := nF c4
  clear c4
  by_cases c5 : a2 = 0
  ·rw [if_pos c5] at H
   exact absurd H (by simp)
  rw [if_neg c5] at H
  have d3 := eF c5
  have d4 := nT c5
  obtain rfl := Option.some.inj H
  go_wp2
  go_ret
  exact ⟨by first | rfl | (simp; done) | (simp [*]; done), qs1⟩
 rw [if_neg c4] at H
 have d1 := eF c4
 have d2 := nT c4
 by_cases c5 : a0 = 5
 ·rw [if_pos c5] at H
  have d3 := eT c5
  have d4 := nF c5
  clear c5
  by_cases c6 : a2 = 0
  ·rw [if_pos c6] at H
   exact absurd H (by simp)
  rw [if_neg c6] at H
  have d5 := eF c6
  have d6 := nT c6
  obtain rfl := Option.some.inj H
  go_wp2
  go_ret
  exact ⟨by first | rfl | (simp; done) | (simp [*]; done), qs1⟩
 rw [if_neg c5] at H
 have d3 := eF c5
 have d4 := nT c5
 by_cases c6 : a0 = 6
 ·rw [if_pos c6] at H
  have d5 := eT c6
  have d6 := nF c6
  clear c6
  obtain rfl := Option.some.inj H
  go_wp2
  go_ret
  exact ⟨by first | rfl | (simp; done) | (simp [*]; done), qs1⟩
 rw [if_neg c6] at H
 have d5 := eF c6
 have d6 := nT c6
 by_cases c7 : a0 = 7
 ·rw [if_pos c7] at H
  have d7 := eT c7
  have d8 := nF c7
  clear c7
  obtain rfl := Option.some.inj H
  go_wp2
  go_ret
  exact ⟨by first | rfl | (simp; done) | (simp [*]; done), qs1⟩
 rw [if_neg c7] at H
 have d7 := eF c7
 have d8 := nT c7
 by_cases c8 : a0 = 8
 ·rw [if_pos c8] at H
  have d9 := eT c8
  have d10 := nF c8
  clear c8
  obtain rfl := Option.some.inj H
  go_wp2
  go_ret
  exact ⟨by first | rfl | (simp; done) | (simp [*]; done), qs1⟩
 rw [if_neg c8] at H
 have d9 := eF c8
 have d10 := nT c8
 by_cases c9 : a0 = 9
 ·rw [if_pos c9] at H
  have d11 := eT c9
  have d12 := nF c9
  clear c9
  obtain ⟨i1, j7⟩ : ∃ j_ : Int, (IntKind.u64.wrap (a2)) = j_ := ⟨_, rfl⟩
  replace H : (if 0 ≤ (i1) then (some (shl .i64 a1 (i1))) else (none)) = some r := by first | (rw [j7] at H; exact H) | (simp only [j7] at H ⊢; exact H)
  by_cases c10 : 0 ≤ (i1)
  rotate_left
  ·rw [if_neg c10] at H
   exact absurd H (by simp)
  rw [if_pos c10] at H
  have d13 := eq_true c10
  have d14 := dT c10
  clear c10
  obtain ⟨i2, j8⟩ : ∃ j_ : Int, (shl .i64 a1 (i1)) = j_ := ⟨_, rfl⟩
  replace H : (some i2) = some r := by first | (rw [j8] at H; exact H) | (simp only [j8] at H ⊢; exact H)
  have hji23_ : (IntKind.i64.wrap (a1 * 2 ^ min (i1).toNat 64)) = i2 := j8
  have hji23z : (i1) ≤ 64 → (IntKind.i64.wrap (a1 * 2 ^ (i1).toNat)) = i2 := shl_small j8
  have hji23y : (wrap64 (a1 * 2 ^ min (i1).toNat 64)) = i2 := (i64_w _).symm.trans hji23_
  have hji23x : (i1) ≤ 64 → (wrap64 (a1 * 2 ^ (i1).toNat)) = i2 := fun h_ => (i64_w _).symm.trans (hji23z h_)
  obtain rfl := Option.some.inj H
  go_wp2
  go_ret
  exact ⟨by first | rfl | (simp; done) | (simp only [← j7, ← j8] <;> (first | rfl | simp)) | (simp [*]; done), qs1⟩
 rw [if_neg c9] at H
 have d11 := eF c9
 have d12 := nT c9
 by_cases c10 : a0 = 10
 rotate_left
 ·rw [if_neg c10] at H
  have d13 := eF c10
  have d14 := nT c10
  obtain rfl := Option.some.inj H
  go_wp2
  go_ret
  exact ⟨by first | rfl | (simp; done) | (simp [*]; done), qs1⟩
 rw [if_pos c10] at H
 have d13 := eT c10
 have d14 := nF c10
 clear c10
 obtain ⟨i1, j7⟩ : ∃ j_ : Int, (IntKind.u64.wrap (a2)) = j_ := ⟨_, rfl⟩
 replace H : (if 0 ≤ (i1) then (some (shr .i64 a1 (i1))) else (none)) = some r := by first | (rw [j7] at H; exact H) | (simp only [j7] at H ⊢; exact H)
 by_cases c11 : 0 ≤ (i1)
 rotate_left
 ·rw [if_neg c11] at H
  exact absurd H (by simp)
 rw [if_pos c11] at H
 have d15 := eq_true c11
 have d16 := dT c11
 clear c11
 obtain ⟨i2, j8⟩ : ∃ j_ : Int, (shr .i64 a1 (i1)) = j_ := ⟨_, rfl⟩
 replace H : (some i2) = some r := by first | (rw [j8] at H; exact H) | (simp only [j8] at H ⊢; exact H)
 have hji27_ : (a1 / 2 ^ min (i1).toNat 64) = i2 := j8
 have hji27z : (i1) ≤ 64 → (a1 / 2 ^ (i1).toNat) = i2 := shr_small j8
 obtain rfl := Option.some.inj H
 go_wp2
 go_ret
 exact ⟨by first | rfl | (simp; done) | (simp only [← j7, ← j8] <;> (first | rfl | simp)) | (simp [*]; done), qs1⟩
end
section
attribute [local go_sem] max2_int min2_int max_two min_two max_three min_three max_four min_four
attribute [local go_sem] Go.Proofs.YthbkakcchgnhpaaSet.isSome_setCell
def impl_rangeCorners.l0 : Nat → Int → Int → Int → Int → Int → Int → Int → Option (Int × Int)
 | 0, _, _, _, _, _, _, _ => none
 | k + 1, x1, x2, x3, x4, x5, x6, x7 => if x3 < 4 then (if x3 = 0 then (impl_rangeCorners.l0 k (mn x1 x4) (mx x2 x4) (wrap64 (x3 + 1)) x4 x5 x6 x7) else (if x3 = 1 then (impl_rangeCorners.l0 k (mn x1 x5) (mx x2 x5) (wrap64 (x3 + 1)) x4 x5 x6 x7) else (if x3 = 2 then (impl_rangeCorners.l0 k (mn x1 x6) (mx x2 x6) (wrap64 (x3 + 1)) x4 x5 x6 x7) else (if x3 = 3 then (impl_rangeCorners.l0 k (mn x1 x7) (mx x2 x7) (wrap64 (x3 + 1)) x4 x5 x6 x7) else (none))))) else (some (x1, x2))
def impl_rangeCorners.f (k : Nat) (a0 : Int) (a1_0 : Int) (a1_1 : Int) (a2_0 : Int) (a2_1 : Int) : Option (Int × Int) := (impl_numExact.f k a0 a1_0 a2_0).bind fun t1 => ((impl_numExact.f k a0 a1_0 a2_1).bind fun t2 => ((impl_numExact.f k a0 a1_1 a2_0).bind fun t3 => ((impl_numExact.f k a0 a1_1 a2_1).bind fun t4 => (impl_rangeCorners.l0 k t1 t1 0 t1 t2 t3 t4))))
theorem impl_rangeCorners.mono_l : ∀ k, (∀ y0 y1 y2 y3 y4 y5 y6, LeO (impl_rangeCorners.l0 k y0 y1 y2 y3 y4 y5 y6) (impl_rangeCorners.l0 (k + 1) y0 y1 y2 y3 y4 y5 y6))
 | 0 => fun _ _ _ _ _ _ _ r h => by simp [impl_rangeCorners.l0] at h
 | k + 1 => by
  have ih0 := impl_rangeCorners.mono_l k
  ·intro y0 y1 y2 y3 y4 y5 y6
   unfold impl_rangeCorners.l0
   repeat' first | (with_reducible first | apply ih0 | apply impl_numExact.mono | apply LeO.refl | apply LeO.none | refine LeO.ite ?_ ?_ | refine LeO.bind ?_ (fun _ => ?_)) | apply ih0 | apply impl_numExact.mono | apply LeO.none | refine LeO.ite ?_ ?_ | refine LeO.bind ?_ (fun _ => ?_)
theorem impl_rangeCorners.mono : ∀ a0 a1 a2 a3 a4 k, LeO (impl_rangeCorners.f k a0 a1 a2 a3 a4) (impl_rangeCorners.f (k + 1) a0 a1 a2 a3 a4) := by
 intro a0 a1 a2 a3 a4 k
 have ih0 := impl_rangeCorners.mono_l k
 unfold impl_rangeCorners.f
 repeat' first | (with_reducible first | apply ih0 | apply impl_numExact.mono | apply LeO.refl | apply LeO.none | refine LeO.ite ?_ ?_ | refine LeO.bind ?_ (fun _ => ?_)) | apply ih0 | apply impl_numExact.mono | apply LeO.none | refine LeO.ite ?_ ?_ | refine LeO.bind ?_ (fun _ => ?_)
def impl_rangeCorners.T1 : Bool × List (List Nat × List Nat) := (true, [([], []), ([], []), ([1], [1]), ([], []), ([3], [3]), ([0, 2, 4], [0, 2, 4]), ([], []), ([], []), ([7], [7]), ([], []), ([9], [9]), ([6, 8, 10, 5], [6, 8, 10]), ([], []), ([], []), ([13], [13]), ([], []), ([15], [15]), ([12, 14, 16, 11], [12, 14, 16]), ([], []), ([], []), ([19], [19]), ([], []), ([21], [21]), ([18, 20, 22, 17], [18, 20, 22]), ([5, 11, 17, 23], [5, 11, 17, 23]), ([], []), ([25, 24, 23, 0, 1, 2, 3, 4, 5, 6, 7, 8, 9, 10, 11, 12, 13, 14, 15, 16, 17, 18, 19, 20, 21, 22, 23, 24, 25], [24, 25])])
def impl_rangeCorners.B1 : List Nat := [0, 0, 2, 0, 8, 31, 0, 0, 128, 0, 512, 2047, 0, 0, 8192, 0, 32768, 131071, 0, 0, 524288, 0, 2097152, 8388607, 16777215, 0, 67108863]
theorem impl_rangeCorners.tab1 : rtab .any (opsOf Try.f49 1) = impl_rangeCorners.T1 := by kernel_rfl
theorem impl_rangeCorners.bits1 : waitsOk impl_rangeCorners.T1.2 impl_rangeCorners.B1 = true := by kernel_rfl
set_option maxHeartbeats 8000000 in
set_option maxRecDepth 100000 in
theorem impl_rangeCorners.calls (k : Nat) (a0 : Int) (a1_0 : Int) (a1_1 : Int) (a2_0 : Int) (a2_1 : Int) (r1 : Int) (r2 : Int) (w : World) (h : impl_rangeCorners.f k a0 a1_0 a1_1 a2_0 a2_1 = some (r1, r2)) :
  Calls Try.prog 49 #[.int .i64 a0, .agg #[.int .i64 a1_0, .int .i64 a1_1], .agg #[.int .i64 a2_0, .int .i64 a2_1]] w fun e w' => e = .returned (.tuple #[.int .i64 r1, .int .i64 r2]) ∧ Below w.heap.size w w' := by
 have hu24 := Try.underlying24
 have hu95 := Try.underlying95
 have HB := am (Below.refl w.heap.size w)
 have H : ((impl_numExact.f k a0 a1_0 a2_0).bind fun t1 => ((impl_numExact.f k a0 a1_0 a2_1).bind fun t2 => ((impl_numExact.f k a0 a1_1 a2_0).bind fun t3 => ((impl_numExact.f k a0 a1_1 a2_1).bind fun t4 => (impl_rangeCorners.l0 k t1 t1 0 t1 t2 t3 t4))))) = some (r1, r2) := h
 clear h
 obtain ⟨t1, A1, H⟩ := bd H
 try dsimp only at H
 obtain ⟨t2, A2, H⟩ := bd H
 try dsimp only at H
 obtain ⟨t3, A3, H⟩ := bd H
 try dsimp only at H
 obtain ⟨t4, A4, H⟩ := bd H
 try dsimp only at H
 have H' := am H
 clear H
 go_enter Try.func49, Try.ntmps49
 try go_wp2_with (first | ((with_reducible refine gate_dst (N := 4) rfl ?_); refine bxn 4 #[.int .i64 a1_0, .int .i64 a1_1] 24 HB fun g1 w2 K1 G1 hg hb => ?_; replace HB := am (below_step (YA HB) hb); clear hb hg) | ((with_reducible refine gate_dst (N := 5) rfl ?_); refine bxn 5 #[.int .i64 a2_0, .int .i64 a2_1] 24 HB fun g2 w3 K2 G2 hg hb => ?_; obtain ⟨N1,N2⟩ := ne_ hg K1; obtain ⟨K1, HB⟩ := bk1 K1 HB hb; clear hb hg))
 obtain ⟨K1, K2, HB⟩ := dk2 K1 K2 HB
 refine start_ (n := 27) (S := fun w' => w'.cell? ⟨g1, 0, none⟩ = some (.int .i64 a1_0) ∧ w'.cell? ⟨g1, 1, none⟩ = some (.int .i64 a1_1) ∧ w'.cell? ⟨g2, 0, none⟩ = some (.int .i64 a2_0) ∧ w'.cell? ⟨g2, 1, none⟩ = some (.int .i64 a2_1)) (ds := []) (lb 27 0) (by kernel_rfl) rfl rfl ⟨bc K1 0, bc K1 1, bc K2 0, bc K2 1⟩ (fun hHeld => ?_); refine with_tabW impl_rangeCorners.tab1 impl_rangeCorners.bits1 (fun HT_ HW_ => ?_)
 generalize w3.drew = w4 at K1 K2 HB hHeld ⊢
 refine pk 0 13 1 ?_
 refine pk 1 14 3 ?_
 refine pk 3 16 11 ?_
 refine pk 6 19 75 ?_
 refine pk 7 20 203 ?_
 refine pk 9 22 715 ?_
 refine pk 12 25 4811 ?_
 refine pk 13 26 13003 ?_
 refine pk 15 28 45771 ?_
 refine pk 18 31 307915 ?_
 refine pk 19 32 832203 ?_
 refine pk 21 34 2929355 ?_
 refine tk 2 15 2929359 hHeld ?_
 refine tk 4 17 2929375 hHeld ?_
 refine tk 8 21 2929631 hHeld ?_
 refine tk 10 23 2930655 hHeld ?_
 refine tk 14 27 2947039 hHeld ?_
 refine tk 16 29 3012575 hHeld ?_
 refine tk 20 33 4061151 hHeld ?_
 refine tk 22 35 8255455 hHeld ?_
 refine join_ (σ := Nat) 1 (lb 27 67108863) (fun s_ => [(18, .int .i64 t1), (24, .int .i64 t2), (30, .int .i64 t3), (36, .int .i64 t4), (8, .pointer (some ⟨s_, 0, none⟩)), (37, .agg #[.int .i64 t1, .int .i64 t2, .int .i64 t3, .int .i64 t4])]) (fun s_ w' => (w'.cell? ⟨g1, 0, none⟩ = some (.int .i64 a1_0) ∧ w'.cell? ⟨g1, 1, none⟩ = some (.int .i64 a1_1) ∧ w'.cell? ⟨g2, 0, none⟩ = some (.int .i64 a2_0) ∧ w'.cell? ⟨g2, 1, none⟩ = some (.int .i64 a2_1)) ∧ Bx2 w' g1 a1_0 a1_1 24 ∧ Bx2 w' g2 a2_0 a2_1 24 ∧ Bx4 w' s_ 0 0 0 0 95 ∧ Aside0 (w.heap.size ≤ s_) ∧ Aside0 (w.heap.size ≤ s_) ∧ Aside0 (g1 ≠ s_) ∧ Aside0 (s_ ≠ g1) ∧ Aside0 (g2 ≠ s_) ∧ Aside0 (s_ ≠ g2) ∧ Aside0 (Below w.heap.size w w')) ?_ ?_
 rotate_left
 ·intro hJ5_11_17_23_25
  refine join_ (σ := Unit) 2 (lb 27 33554431) (fun s_ => [(18, .int .i64 t1), (24, .int .i64 t2), (30, .int .i64 t3), (36, .int .i64 t4), (37, .agg #[.int .i64 t1, .int .i64 t2, .int .i64 t3, .int .i64 t4])]) (fun s_ w' => (w'.cell? ⟨g1, 0, none⟩ = some (.int .i64 a1_0) ∧ w'.cell? ⟨g1, 1, none⟩ = some (.int .i64 a1_1) ∧ w'.cell? ⟨g2, 0, none⟩ = some (.int .i64 a2_0) ∧ w'.cell? ⟨g2, 1, none⟩ = some (.int .i64 a2_1)) ∧ Bx2 w' g1 a1_0 a1_1 24 ∧ Bx2 w' g2 a2_0 a2_1 24 ∧ Aside0 (Below w.heap.size w w')) ?_ ?_
  rotate_left
  rotate_left
  ·skip
   rintro _ w5 ⟨hHeld, K1, K2, HB⟩
   refine norm_ nz ?_
   refine on 25 (some 8) 67108863 fun K hK => ?_
   refine box_step ?hg (N := 8) ?hd (cs := #[.int .i64 0, .int .i64 0, .int .i64 0, .int .i64 0]) (t := 95) ?hr ?_; (case hd => rfl); (case hg => rfl); (case hr => first | (go_simp; done) | (go_simp; rfl))
   intro g3 hg w6 hbox hb
   have K3 := am (hbox)
   have G3 := am (bs hg (YA HB))
   have G4 := am (bs hg (YA HB))
   obtain ⟨N3,N4⟩ := ne_ hg K1
   obtain ⟨N5,N6⟩ := ne_ hg K2
   obtain ⟨K1, K2, HB⟩ := bk2 K1 K2 HB hb
   clear hb hbox hg
   refine kk hK ⟨bc K1 0, bc K1 1, bc K2 0, bc K2 1⟩ fun hHeld => ?_
   clear hK K
   exact norm_ nz (hJ5_11_17_23_25 (g3) _ ⟨hHeld, ⟨Z K1⟩, ⟨Z K2⟩, ⟨Z K3⟩, G3, G4, N3, N4, N5, N6, ⟨YA HB⟩⟩)
  intro hJ5_11_17_23
  refine join_ (σ := Nat) 3 (lb 27 41943039) (fun s_ => [(18, .int .i64 t1), (24, .int .i64 t2), (30, .int .i64 t3), (8, .pointer (some ⟨s_, 0, none⟩))]) (fun s_ w' => (w'.cell? ⟨g1, 0, none⟩ = some (.int .i64 a1_0) ∧ w'.cell? ⟨g1, 1, none⟩ = some (.int .i64 a1_1) ∧ w'.cell? ⟨g2, 0, none⟩ = some (.int .i64 a2_0) ∧ w'.cell? ⟨g2, 1, none⟩ = some (.int .i64 a2_1)) ∧ Bx2 w' g1 a1_0 a1_1 24 ∧ Bx2 w' g2 a2_0 a2_1 24 ∧ Bx4 w' s_ 0 0 0 0 95 ∧ Aside0 (w.heap.size ≤ s_) ∧ Aside0 (w.heap.size ≤ s_) ∧ Aside0 (g1 ≠ s_) ∧ Aside0 (s_ ≠ g1) ∧ Aside0 (g2 ≠ s_) ∧ Aside0 (s_ ≠ g2) ∧ Aside0 (Below w.heap.size w w')) ?_ ?_
  rotate_left
  rotate_left
  ·skip
   rintro g3 w5 ⟨hHeld, K1, K2, K3, G3, G4, N3, N4, N5, N6, HB⟩
   refine norm_ nz ?_
   refine on 23 (some 36) 50331647 fun K hK => ?_
   refine goes_ Try.func61 (by kernel_rfl) rfl #[.int .i64 a0, .int .i64 a1_1, .int .i64 a2_1] (by rfl) rfl rfl mz ?_
   with_reducible refine (impl_numExact.calls _ _ _ _ _ _ A4.out).mono ?_
   rintro e w' ⟨rfl, ⟨nd, rfl⟩⟩
   refine ⟨_, rfl, ?_⟩
   refine kk hK ⟨bc K1 0, bc K1 1, bc K2 0, bc K2 1⟩ fun hHeld => ?_
   clear hK K
   refine pk 24 37 67108863 ?_
   exact norm_ nz (hJ5_11_17_23_25 (g3) _ ⟨hHeld, ⟨Z K1⟩, ⟨Z K2⟩, ⟨Z K3⟩, G3, G4, N3, N4, N5, N6, ⟨YA HB⟩⟩)
  intro hJ5_11_17_25
  refine join_ (σ := Unit) 4 (lb 27 8388607) (fun s_ => [(18, .int .i64 t1), (24, .int .i64 t2), (30, .int .i64 t3)]) (fun s_ w' => (w'.cell? ⟨g1, 0, none⟩ = some (.int .i64 a1_0) ∧ w'.cell? ⟨g1, 1, none⟩ = some (.int .i64 a1_1) ∧ w'.cell? ⟨g2, 0, none⟩ = some (.int .i64 a2_0) ∧ w'.cell? ⟨g2, 1, none⟩ = some (.int .i64 a2_1)) ∧ Bx2 w' g1 a1_0 a1_1 24 ∧ Bx2 w' g2 a2_0 a2_1 24 ∧ Aside0 (Below w.heap.size w w')) ?_ ?_
  rotate_left
  rotate_left
  ·skip
   rintro _ w5 ⟨hHeld, K1, K2, HB⟩
   refine norm_ nz ?_
   refine two_ (i := 23) (j := 25) (Ni := some 36) (Nj := some 8) (lb 27 16777215) (lb 27 41943039) rfl rfl rfl rfl (two_of HT_.out (by kernel_rfl)) (by decide) (by decide) (fun K hK => ?_) (fun K hK => ?_)
   ·skip
    refine goes_ Try.func61 (by kernel_rfl) rfl #[.int .i64 a0, .int .i64 a1_1, .int .i64 a2_1] (by rfl) rfl rfl mz ?_
    with_reducible refine (impl_numExact.calls _ _ _ _ _ _ A4.out).mono ?_
    rintro e w' ⟨rfl, ⟨nd, rfl⟩⟩
    refine ⟨_, rfl, ?_⟩
    refine kk hK ⟨bc K1 0, bc K1 1, bc K2 0, bc K2 1⟩ fun hHeld => ?_
    clear hK K
    refine pk 24 37 33554431 ?_
    exact norm_ nz (hJ5_11_17_23 () _ ⟨hHeld, ⟨Z K1⟩, ⟨Z K2⟩, ⟨YA HB⟩⟩)
   skip
   refine box_step ?hg (N := 8) ?hd (cs := #[.int .i64 0, .int .i64 0, .int .i64 0, .int .i64 0]) (t := 95) ?hr ?_; (case hd => rfl); (case hg => rfl); (case hr => first | (go_simp; done) | (go_simp; rfl))
   intro g3 hg w6 hbox hb
   have K3 := am (hbox)
   have G3 := am (bs hg (YA HB))
   have G4 := am (bs hg (YA HB))
   obtain ⟨N3,N4⟩ := ne_ hg K1
   obtain ⟨N5,N6⟩ := ne_ hg K2
   obtain ⟨K1, K2, HB⟩ := bk2 K1 K2 HB hb
   clear hb hbox hg
   refine kk hK ⟨bc K1 0, bc K1 1, bc K2 0, bc K2 1⟩ fun hHeld => ?_
   clear hK K
   exact norm_ nz (hJ5_11_17_25 (g3) _ ⟨hHeld, ⟨Z K1⟩, ⟨Z K2⟩, ⟨Z K3⟩, G3, G4, N3, N4, N5, N6, ⟨YA HB⟩⟩)
  intro hJ5_11_17
  refine join_ (σ := Nat) 4 (lb 27 41811967) (fun s_ => [(18, .int .i64 t1), (24, .int .i64 t2), (8, .pointer (some ⟨s_, 0, none⟩))]) (fun s_ w' => (w'.cell? ⟨g1, 0, none⟩ = some (.int .i64 a1_0) ∧ w'.cell? ⟨g1, 1, none⟩ = some (.int .i64 a1_1) ∧ w'.cell? ⟨g2, 0, none⟩ = some (.int .i64 a2_0) ∧ w'.cell? ⟨g2, 1, none⟩ = some (.int .i64 a2_1)) ∧ Bx2 w' g1 a1_0 a1_1 24 ∧ Bx2 w' g2 a2_0 a2_1 24 ∧ Bx4 w' s_ 0 0 0 0 95 ∧ Aside0 (w.heap.size ≤ s_) ∧ Aside0 (w.heap.size ≤ s_) ∧ Aside0 (g1 ≠ s_) ∧ Aside0 (s_ ≠ g1) ∧ Aside0 (g2 ≠ s_) ∧ Aside0 (s_ ≠ g2) ∧ Aside0 (Below w.heap.size w w')) ?_ ?_
  rotate_left
  rotate_left
  ·skip
   rintro g3 w5 ⟨hHeld, K1, K2, K3, G3, G4, N3, N4, N5, N6, HB⟩
   refine norm_ nz ?_
   refine on 17 (some 30) 41943039 fun K hK => ?_
   refine goes_ Try.func61 (by kernel_rfl) rfl #[.int .i64 a0, .int .i64 a1_1, .int .i64 a2_0] (by rfl) rfl rfl mz ?_
   with_reducible refine (impl_numExact.calls _ _ _ _ _ _ A3.out).mono ?_
   rintro e w' ⟨rfl, ⟨nd, rfl⟩⟩
   refine ⟨_, rfl, ?_⟩
   refine kk hK ⟨bc K1 0, bc K1 1, bc K2 0, bc K2 1⟩ fun hHeld => ?_
   clear hK K
   exact norm_ nz (hJ5_11_17_25 (g3) _ ⟨hHeld, ⟨Z K1⟩, ⟨Z K2⟩, ⟨Z K3⟩, G3, G4, N3, N4, N5, N6, ⟨YA HB⟩⟩)
  intro hJ5_11_25
  refine join_ (σ := Unit) 5 (lb 27 8257535) (fun s_ => [(18, .int .i64 t1), (24, .int .i64 t2)]) (fun s_ w' => (w'.cell? ⟨g1, 0, none⟩ = some (.int .i64 a1_0) ∧ w'.cell? ⟨g1, 1, none⟩ = some (.int .i64 a1_1) ∧ w'.cell? ⟨g2, 0, none⟩ = some (.int .i64 a2_0) ∧ w'.cell? ⟨g2, 1, none⟩ = some (.int .i64 a2_1)) ∧ Bx2 w' g1 a1_0 a1_1 24 ∧ Bx2 w' g2 a2_0 a2_1 24 ∧ Aside0 (Below w.heap.size w w')) ?_ ?_
  rotate_left
  rotate_left
  ·skip
   rintro _ w5 ⟨hHeld, K1, K2, HB⟩
   refine norm_ nz ?_
   refine two_ (i := 17) (j := 25) (Ni := some 30) (Nj := some 8) (lb 27 8388607) (lb 27 41811967) rfl rfl rfl rfl (two_of HT_.out (by kernel_rfl)) (by decide) (by decide) (fun K hK => ?_) (fun K hK => ?_)
   ·skip
    refine goes_ Try.func61 (by kernel_rfl) rfl #[.int .i64 a0, .int .i64 a1_1, .int .i64 a2_0] (by rfl) rfl rfl mz ?_
    with_reducible refine (impl_numExact.calls _ _ _ _ _ _ A3.out).mono ?_
    rintro e w' ⟨rfl, ⟨nd, rfl⟩⟩
    refine ⟨_, rfl, ?_⟩
    refine kk hK ⟨bc K1 0, bc K1 1, bc K2 0, bc K2 1⟩ fun hHeld => ?_
    clear hK K
    exact norm_ nz (hJ5_11_17 () _ ⟨hHeld, ⟨Z K1⟩, ⟨Z K2⟩, ⟨YA HB⟩⟩)
   skip
   refine box_step ?hg (N := 8) ?hd (cs := #[.int .i64 0, .int .i64 0, .int .i64 0, .int .i64 0]) (t := 95) ?hr ?_; (case hd => rfl); (case hg => rfl); (case hr => first | (go_simp; done) | (go_simp; rfl))
   intro g3 hg w6 hbox hb
   have K3 := am (hbox)
   have G3 := am (bs hg (YA HB))
   have G4 := am (bs hg (YA HB))
   obtain ⟨N3,N4⟩ := ne_ hg K1
   obtain ⟨N5,N6⟩ := ne_ hg K2
   obtain ⟨K1, K2, HB⟩ := bk2 K1 K2 HB hb
   clear hb hbox hg
   refine kk hK ⟨bc K1 0, bc K1 1, bc K2 0, bc K2 1⟩ fun hHeld => ?_
   clear hK K
   exact norm_ nz (hJ5_11_25 (g3) _ ⟨hHeld, ⟨Z K1⟩, ⟨Z K2⟩, ⟨Z K3⟩, G3, G4, N3, N4, N5, N6, ⟨YA HB⟩⟩)
  intro hJ5_11
  refine join_ (σ := Nat) 5 (lb 27 41809919) (fun s_ => [(18, .int .i64 t1), (8, .pointer (some ⟨s_, 0, none⟩))]) (fun s_ w' => (w'.cell? ⟨g1, 0, none⟩ = some (.int .i64 a1_0) ∧ w'.cell? ⟨g1, 1, none⟩ = some (.int .i64 a1_1) ∧ w'.cell? ⟨g2, 0, none⟩ = some (.int .i64 a2_0) ∧ w'.cell? ⟨g2, 1, none⟩ = some (.int .i64 a2_1)) ∧ Bx2 w' g1 a1_0 a1_1 24 ∧ Bx2 w' g2 a2_0 a2_1 24 ∧ Bx4 w' s_ 0 0 0 0 95 ∧ Aside0 (w.heap.size ≤ s_) ∧ Aside0 (w.heap.size ≤ s_) ∧ Aside0 (g1 ≠ s_) ∧ Aside0 (s_ ≠ g1) ∧ Aside0 (g2 ≠ s_) ∧ Aside0 (s_ ≠ g2) ∧ Aside0 (Below w.heap.size w w')) ?_ ?_
  rotate_left
  rotate_left
  ·skip
   rintro g3 w5 ⟨hHeld, K1, K2, K3, G3, G4, N3, N4, N5, N6, HB⟩
   refine norm_ nz ?_
   refine on 11 (some 24) 41811967 fun K hK => ?_
   refine goes_ Try.func61 (by kernel_rfl) rfl #[.int .i64 a0, .int .i64 a1_0, .int .i64 a2_1] (by rfl) rfl rfl mz ?_
   with_reducible refine (impl_numExact.calls _ _ _ _ _ _ A2.out).mono ?_
   rintro e w' ⟨rfl, ⟨nd, rfl⟩⟩
   refine ⟨_, rfl, ?_⟩
   refine kk hK ⟨bc K1 0, bc K1 1, bc K2 0, bc K2 1⟩ fun hHeld => ?_
   clear hK K
   exact norm_ nz (hJ5_11_25 (g3) _ ⟨hHeld, ⟨Z K1⟩, ⟨Z K2⟩, ⟨Z K3⟩, G3, G4, N3, N4, N5, N6, ⟨YA HB⟩⟩)
  intro hJ5_25
  refine join_ (σ := Unit) 6 (lb 27 8255487) (fun s_ => [(18, .int .i64 t1)]) (fun s_ w' => (w'.cell? ⟨g1, 0, none⟩ = some (.int .i64 a1_0) ∧ w'.cell? ⟨g1, 1, none⟩ = some (.int .i64 a1_1) ∧ w'.cell? ⟨g2, 0, none⟩ = some (.int .i64 a2_0) ∧ w'.cell? ⟨g2, 1, none⟩ = some (.int .i64 a2_1)) ∧ Bx2 w' g1 a1_0 a1_1 24 ∧ Bx2 w' g2 a2_0 a2_1 24 ∧ Aside0 (Below w.heap.size w w')) ?_ ?_
  rotate_left
  rotate_left
  ·skip
   rintro _ w5 ⟨hHeld, K1, K2, HB⟩
   refine norm_ nz ?_
   refine two_ (i := 11) (j := 25) (Ni := some 24) (Nj := some 8) (lb 27 8257535) (lb 27 41809919) rfl rfl rfl rfl (two_of HT_.out (by kernel_rfl)) (by decide) (by decide) (fun K hK => ?_) (fun K hK => ?_)
   ·skip
    refine goes_ Try.func61 (by kernel_rfl) rfl #[.int .i64 a0, .int .i64 a1_0, .int .i64 a2_1] (by rfl) rfl rfl mz ?_
    with_reducible refine (impl_numExact.calls _ _ _ _ _ _ A2.out).mono ?_
    rintro e w' ⟨rfl, ⟨nd, rfl⟩⟩
    refine ⟨_, rfl, ?_⟩
    refine kk hK ⟨bc K1 0, bc K1 1, bc K2 0, bc K2 1⟩ fun hHeld => ?_
    clear hK K
    exact norm_ nz (hJ5_11 () _ ⟨hHeld, ⟨Z K1⟩, ⟨Z K2⟩, ⟨YA HB⟩⟩)
   skip
   refine box_step ?hg (N := 8) ?hd (cs := #[.int .i64 0, .int .i64 0, .int .i64 0, .int .i64 0]) (t := 95) ?hr ?_; (case hd => rfl); (case hg => rfl); (case hr => first | (go_simp; done) | (go_simp; rfl))
   intro g3 hg w6 hbox hb
   have K3 := am (hbox)
   have G3 := am (bs hg (YA HB))
   have G4 := am (bs hg (YA HB))
   obtain ⟨N3,N4⟩ := ne_ hg K1
   obtain ⟨N5,N6⟩ := ne_ hg K2
   obtain ⟨K1, K2, HB⟩ := bk2 K1 K2 HB hb
   clear hb hbox hg
   refine kk hK ⟨bc K1 0, bc K1 1, bc K2 0, bc K2 1⟩ fun hHeld => ?_
   clear hK K
   exact norm_ nz (hJ5_25 (g3) _ ⟨hHeld, ⟨Z K1⟩, ⟨Z K2⟩, ⟨Z K3⟩, G3, G4, N3, N4, N5, N6, ⟨YA HB⟩⟩)
  intro hJ5
  refine join_ (σ := Nat) 6 (lb 27 41809887) (fun s_ => [(8, .pointer (some ⟨s_, 0, none⟩))]) (fun s_ w' => (w'.cell? ⟨g1, 0, none⟩ = some (.int .i64 a1_0) ∧ w'.cell? ⟨g1, 1, none⟩ = some (.int .i64 a1_1) ∧ w'.cell? ⟨g2, 0, none⟩ = some (.int .i64 a2_0) ∧ w'.cell? ⟨g2, 1, none⟩ = some (.int .i64 a2_1)) ∧ Bx2 w' g1 a1_0 a1_1 24 ∧ Bx2 w' g2 a2_0 a2_1 24 ∧ Bx4 w' s_ 0 0 0 0 95 ∧ Aside0 (w.heap.size ≤ s_) ∧ Aside0 (w.heap.size ≤ s_) ∧ Aside0 (g1 ≠ s_) ∧ Aside0 (s_ ≠ g1) ∧ Aside0 (g2 ≠ s_) ∧ Aside0 (s_ ≠ g2) ∧ Aside0 (Below w.heap.size w w')) ?_ ?_
  rotate_left
  rotate_left
  ·skip
   rintro g3 w5 ⟨hHeld, K1, K2, K3, G3, G4, N3, N4, N5, N6, HB⟩
   refine norm_ nz ?_
   refine on 5 (some 18) 41809919 fun K hK => ?_
   refine goes_ Try.func61 (by kernel_rfl) rfl #[.int .i64 a0, .int .i64 a1_0, .int .i64 a2_0] (by rfl) rfl rfl mz ?_
   with_reducible refine (impl_numExact.calls _ _ _ _ _ _ A1.out).mono ?_
   rintro e w' ⟨rfl, ⟨nd, rfl⟩⟩
   refine ⟨_, rfl, ?_⟩
   refine kk hK ⟨bc K1 0, bc K1 1, bc K2 0, bc K2 1⟩ fun hHeld => ?_
   clear hK K
   exact norm_ nz (hJ5_25 (g3) _ ⟨hHeld, ⟨Z K1⟩, ⟨Z K2⟩, ⟨Z K3⟩, G3, G4, N3, N4, N5, N6, ⟨YA HB⟩⟩)
  intro hJ25
  refine two_ (i := 5) (j := 25) (Ni := some 18) (Nj := some 8) (lb 27 8255487) (lb 27 41809887) rfl rfl rfl rfl (two_of HT_.out (by kernel_rfl)) (by decide) (by decide) (fun K hK => ?_) (fun K hK => ?_)
  ·skip
   refine goes_ Try.func61 (by kernel_rfl) rfl #[.int .i64 a0, .int .i64 a1_0, .int .i64 a2_0] (by rfl) rfl rfl mz ?_
   with_reducible refine (impl_numExact.calls _ _ _ _ _ _ A1.out).mono ?_
   rintro e w' ⟨rfl, ⟨nd, rfl⟩⟩
   refine ⟨_, rfl, ?_⟩
   refine kk hK ⟨bc K1 0, bc K1 1, bc K2 0, bc K2 1⟩ fun hHeld => ?_
   clear hK K
   exact norm_ nz (hJ5 () _ ⟨hHeld, ⟨Z K1⟩, ⟨Z K2⟩, ⟨YA HB⟩⟩)
  skip
  refine box_step ?hg (N := 8) ?hd (cs := #[.int .i64 0, .int .i64 0, .int .i64 0, .int .i64 0]) (t := 95) ?hr ?_; (case hd => rfl); (case hg => rfl); (case hr => first | (go_simp; done) | (go_simp; rfl))
  intro g3 hg w5 hbox hb
  have K3 := am (hbox)
  have G3 := am (bs hg (YA HB))
  have G4 := am (bs hg (YA HB))
  obtain ⟨N3,N4⟩ := ne_ hg K1
  obtain ⟨N5,N6⟩ := ne_ hg K2
  obtain ⟨K1, K2, HB⟩ := bk2 K1 K2 HB hb
  clear hb hbox hg
  refine kk hK ⟨bc K1 0, bc K1 1, bc K2 0, bc K2 1⟩ fun hHeld => ?_
  clear hK K
  exact norm_ nz (hJ25 (g3) _ ⟨hHeld, ⟨Z K1⟩, ⟨Z K2⟩, ⟨Z K3⟩, G3, G4, N3, N4, N5, N6, ⟨YA HB⟩⟩)
 rintro g3 w5 ⟨hHeld, K1, K2, K3, G3, G4, N3, N4, N5, N6, HB⟩
 refine norm_ nz ?_
 refine on 26 none 134217727 fun K hK => ?_
 have s4 : w5.cell? ⟨g3, 0, none⟩ = some (.int .i64 0) := bc K3 0
 have hfs13 := blk_frozen K3.out 0
 have := ns4 N3 N5 N4 N6
 have s5 : w5.cell? ⟨g3, 1, none⟩ = some (.int .i64 0) := bc K3 1
 have hfs14 := blk_frozen K3.out 1
 have := ns4 N3 N5 N4 N6
 have s6 : w5.cell? ⟨g3, 2, none⟩ = some (.int .i64 0) := bc K3 2
 have hfs15 := blk_frozen K3.out 2
 have := ns4 N3 N5 N4 N6
 have s7 : w5.cell? ⟨g3, 3, none⟩ = some (.int .i64 0) := bc K3 3
 have hfs16 := blk_frozen K3.out 3
 have := ns4 N3 N5 N4 N6
 refine skip_ (w1 := ?_) (by rfl) rfl ?_ ?_
 rotate_left
 ·go_simp
  rfl
 refine hK.out _ _ ⟨(cf N3 ((cf N3 ((cf N3 ((cf N3 (hHeld.1)))))))), (cf N3 ((cf N3 ((cf N3 ((cf N3 (hHeld.2.1)))))))), (cf N5 ((cf N5 ((cf N5 ((cf N5 (hHeld.2.2.1)))))))), (cf N5 ((cf N5 ((cf N5 ((cf N5 (hHeld.2.2.2))))))))⟩ (fun hHeld => ?_)
 clear hK K
 refine done_ (done_of HT_.out (by kernel_rfl)) ?_
 try go_wp2
 have n0_ : Aside0 (((((w5.setCell ⟨g3, 0, none⟩ (.int .i64 t1)).setCell ⟨g3, 1, none⟩ (.int .i64 t2)).setCell ⟨g3, 2, none⟩ (.int .i64 t3)).setCell ⟨g3, 3, none⟩ (.int .i64 t4)).heap[g1]? = some (.cells #[.int .i64 a1_0, .int .i64 a1_1] 24 (0, 0))) := ⟨ft N3 K1⟩
 have n1_ : Aside0 (((((w5.setCell ⟨g3, 0, none⟩ (.int .i64 t1)).setCell ⟨g3, 1, none⟩ (.int .i64 t2)).setCell ⟨g3, 2, none⟩ (.int .i64 t3)).setCell ⟨g3, 3, none⟩ (.int .i64 t4)).heap[g2]? = some (.cells #[.int .i64 a2_0, .int .i64 a2_1] 24 (0, 0))) := ⟨ft N5 K2⟩
 have n2_ : Aside0 (((((w5.setCell ⟨g3, 0, none⟩ (.int .i64 t1)).setCell ⟨g3, 1, none⟩ (.int .i64 t2)).setCell ⟨g3, 2, none⟩ (.int .i64 t3)).setCell ⟨g3, 3, none⟩ (.int .i64 t4)).heap[g3]? = some (.cells #[.int .i64 t1, .int .i64 t2, .int .i64 t3, .int .i64 t4] 95 (0, 0))) := ⟨by refine pf ?_; refine bp (ia4 t1 t2 t3 0) ?_ 3; refine pf ?_; refine bp (ia4 t1 t2 0 0) ?_ 2; refine pf ?_; refine bp (ia4 t1 0 0 0) ?_ 1; refine pf ?_; refine bp (ia4 0 0 0 0) ?_ 0; exact Z K3⟩
 have n3_ : Aside0 (Below w.heap.size w ((((w5.setCell ⟨g3, 0, none⟩ (.int .i64 t1)).setCell ⟨g3, 1, none⟩ (.int .i64 t2)).setCell ⟨g3, 2, none⟩ (.int .i64 t3)).setCell ⟨g3, 3, none⟩ (.int .i64 t4))) := ⟨YA HB⟩
 (try clear K1)
 (try clear K2)
 (try clear K3)
 (try clear HB)
 generalize ((((w5.setCell ⟨g3, 0, none⟩ (.int .i64 t1)).setCell ⟨g3, 1, none⟩ (.int .i64 t2)).setCell ⟨g3, 2, none⟩ (.int .i64 t3)).setCell ⟨g3, 3, none⟩ (.int .i64 t4)) = w6 at n0_ n1_ n2_ n3_ ⊢
 have K1 := n0_
 have K2 := n1_
 have K3 := n2_
 have HB := n3_
 clear n0_ n1_ n2_ n3_
 obtain ⟨K1, K2, K3, HB⟩ := dk3 K1 K2 K3 HB
 refine start_ (n := 6) (S := fun w' => w'.cell? ⟨g3, 0, none⟩ = some (.int .i64 t1) ∧ w'.cell? ⟨g3, 1, none⟩ = some (.int .i64 t2) ∧ w'.cell? ⟨g3, 2, none⟩ = some (.int .i64 t3) ∧ w'.cell? ⟨g3, 3, none⟩ = some (.int .i64 t4)) (ds := []) (lb 6 0) (by kernel_rfl) rfl rfl ⟨bc K3 0, bc K3 1, bc K3 2, bc K3 3⟩ (fun hHeld => ?_)
 generalize w6.drew = w7 at K1 K2 K3 HB hHeld ⊢
 refine pure_ (i := 0) (N := some 38) (v := ?_) (a' := ?_) (lb 6 1) rfl rfl (by kernel_rfl) (fun _ _ _ h => h) (Or.inl ⟨by rfl, ?_⟩) ?_ ?_
 rotate_left
 ·exact gz
 rotate_left
 ·exact pz
 refine pure_ (i := 2) (N := some 40) (v := ?_) (a' := ?_) (lb 6 5) rfl rfl (by kernel_rfl) (fun _ _ _ h => h) (Or.inl ⟨by rfl, ?_⟩) ?_ ?_
 rotate_left
 ·exact gz
 rotate_left
 ·exact pz
 refine tq 1 39 7 hHeld ?_
 refine pure_ (i := 4) (N := some 9) (v := ?_) (a' := ?_) (lb 6 23) rfl rfl (by kernel_rfl) (fun _ _ _ h => h) (Or.inl ⟨by rfl, ?_⟩) ?_ ?_
 rotate_left
 ·exact gz
 rotate_left
 ·exact pz
 refine tq 3 41 31 hHeld ?_
 refine pure_ (i := 5) (N := some 10) (v := ?_) (a' := ?_) (lb 6 63) rfl rfl (by kernel_rfl) (fun _ _ _ h => h) (Or.inl ⟨by rfl, ?_⟩) ?_ ?_
 rotate_left
 ·exact gz
 rotate_left
 ·exact pz
 refine done_ (by kernel_rfl) ?_
 have := ns2 N4 N6
 have := cB4 K3
 try go_wp2
 go_loopg [9, 10, 43] k (fun kq v1 v2 v3 w' => ∃ (x1 : Int) (x2 : Int) (x3 : Int), v1 = .int .i64 x1 ∧ v2 = .int .i64 x2 ∧ v3 = .int .i64 x3 ∧ Aside0 (impl_rangeCorners.l0 kq x1 x2 x3 t1 t2 t3 t4 = some (r1, r2)) ∧ Aside0 (kq ≤ k) ∧ Aside0 (w'.heap[g1]? = some (.cells #[.int .i64 a1_0, .int .i64 a1_1] 24 (0, 0))) ∧ Aside0 (w'.heap[g2]? = some (.cells #[.int .i64 a2_0, .int .i64 a2_1] 24 (0, 0))) ∧ Aside0 (w'.heap[g3]? = some (.cells #[.int .i64 t1, .int .i64 t2, .int .i64 t3, .int .i64 t4] 95 (0, 0))) ∧ Aside0 (Below w.heap.size w w'))
 case atStart => exact ⟨(t1), (t1), (0), ey, ey, ey, H', ⟨Nat.le_refl _⟩, ⟨Z K1⟩, ⟨Z K2⟩, ⟨Z K3⟩, ⟨YA HB⟩⟩
 case round =>
  clear H'
  obtain ⟨x1, x2, x3, rfl, rfl, rfl, HA, HK1, K1, K2, K3, HB⟩ := hrel
  cases gk with
  | zero => exact absurd HA.out (by simp [impl_rangeCorners.l0])
  | succ k1 => ?_
  have H := HA.out
  clear HA
  simp only [impl_rangeCorners.l0] at H
  by_cases c1 : x3 < 4
  rotate_left
  ·rw [if_neg c1] at H
   have d1 := dF c1
   clear c1
   obtain ⟨rfl, rfl⟩ := sj2 H
   go_wp2
   go_ret2
   exact ⟨ez, YA HB⟩
  rw [if_pos c1] at H
  have d1 := dT c1
  clear c1
  by_cases c2 : x3 = 0
  ·rw [if_pos c2] at H
   have hix23 : ∀ w', (Instr.index 95 (.agg #[.int .i64 t1, .int .i64 t2, .int .i64 t3, .int .i64 t4]) (.int .i64 x3)).run Try.prog w' = .ok (.int .i64 t1) w' := by intro w'; rw [c2]; first | (go_simp; done) | (go_simp; rfl) | rfl
   have d2 := eT c2
   have d3 := nF c2
   clear c2
   obtain ⟨i1, j7⟩ : ∃ j_ : Int, (mn x1 t1) = j_ := ⟨_, rfl⟩
   replace H : (impl_rangeCorners.l0 k1 i1 (mx x2 t1) (wrap64 (x3 + 1)) t1 t2 t3 t4) = some (r1, r2) := by first | (rw [j7] at H; exact H) | (simp only [j7] at H ⊢; exact H)
   have hji24_ : (if t1 < x1 then t1 else x1) = i1 := j7
   obtain ⟨i2, j8⟩ : ∃ j_ : Int, (mx x2 t1) = j_ := ⟨_, rfl⟩
   replace H : (impl_rangeCorners.l0 k1 i1 i2 (wrap64 (x3 + 1)) t1 t2 t3 t4) = some (r1, r2) := by first | (rw [j8] at H; exact H) | (simp only [j8] at H ⊢; exact H)
   have hji25_ : (if x2 < t1 then t1 else x2) = i2 := j8
   have H' := am H
   clear H
   go_wp2
   go_roundg k1
   case measure => have := HK1.out; omega
   case rel => exact ⟨(i1), (i2), (wrap64 (x3 + 1)), (by first | rfl | (simp; done) | (simp only [← j7] <;> (first | rfl | simp)) | (simp [*]; done)), (by first | rfl | (simp; done) | (simp only [← j8] <;> (first | rfl | simp)) | (simp [*]; done)), ey, H', ⟨by have := HK1.out; omega⟩, ⟨Z K1⟩, ⟨Z K2⟩, ⟨Z K3⟩, ⟨YA HB⟩⟩
  rw [if_neg c2] at H
  have d2 := eF c2
  have d3 := nT c2
  by_cases c3 : x3 = 1
  ·rw [if_pos c3] at H
   have hix26 : ∀ w', (Instr.index 95 (.agg #[.int .i64 t1, .int .i64 t2, .int .i64 t3, .int .i64 t4]) (.int .i64 x3)).run Try.prog w' = .ok (.int .i64 t2) w' := by intro w'; rw [c3]; first | (go_simp; done) | (go_simp; rfl) | rfl
   have d4 := eT c3
   have d5 := nF c3
   clear c3
   obtain ⟨i1, j7⟩ : ∃ j_ : Int, (mn x1 t2) = j_ := ⟨_, rfl⟩
   replace H : (impl_rangeCorners.l0 k1 i1 (mx x2 t2) (wrap64 (x3 + 1)) t1 t2 t3 t4) = some (r1, r2) := by first | (rw [j7] at H; exact H) | (simp only [j7] at H ⊢; exact H)
   have hji27_ : (if t2 < x1 then t2 else x1) = i1 := j7
   obtain ⟨i2, j8⟩ : ∃ j_ : Int, (mx x2 t2) = j_ := ⟨_, rfl⟩
   replace H : (impl_rangeCorners.l0 k1 i1 i2 (wrap64 (x3 + 1)) t1 t2 t3 t4) = some (r1, r2) := by first | (rw [j8] at H; exact H) | (simp only [j8] at H ⊢; exact H)
   have hji28_ : (if x2 < t2 then t2 else x2) = i2 := j8
   have H' := am H
   clear H
   go_wp2
   go_roundg k1
   case measure => have := HK1.out; omega
   case rel => exact ⟨(i1), (i2), (wrap64 (x3 + 1)), (by first | rfl | (simp; done) | (simp only [← j7] <;> (first | rfl | simp)) | (simp [*]; done)), (by first | rfl | (simp; done) | (simp only [← j8] <;> (first | rfl | simp)) | (simp [*]; done)), ey, H', ⟨by have := HK1.out; omega⟩, ⟨Z K1⟩, ⟨Z K2⟩, ⟨Z K3⟩, ⟨YA HB⟩⟩
  rw [if_neg c3] at H
  have d4 := eF c3
  have d5 := nT c3
  by_cases c4 : x3 = 2
  ·rw [if_pos c4] at H
   have hix29 : ∀ w', (Instr.index 95 (.agg #[.int .i64 t1, .int .i64 t2, .int .i64 t3, .int .i64 t4]) (.int .i64 x3)).run Try.prog w' = .ok (.int .i64 t3) w' := by intro w'; rw [c4]; first | (go_simp; done) | (go_simp; rfl) | rfl
   have d6 := eT c4
   have d7 := nF c4
   clear c4
   obtain ⟨i1, j7⟩ : ∃ j_ : Int, (mn x1 t3) = j_ := ⟨_, rfl⟩
   replace H : (impl_rangeCorners.l0 k1 i1 (mx x2 t3) (wrap64 (x3 + 1)) t1 t2 t3 t4) = some (r1, r2) := by first | (rw [j7] at H; exact H) | (simp only [j7] at H ⊢; exact H)
   have hji30_ : (if t3 < x1 then t3 else x1) = i1 := j7
   obtain ⟨i2, j8⟩ : ∃ j_ : Int, (mx x2 t3) = j_ := ⟨_, rfl⟩
   replace H : (impl_rangeCorners.l0 k1 i1 i2 (wrap64 (x3 + 1)) t1 t2 t3 t4) = some (r1, r2) := by first | (rw [j8] at H; exact H) | (simp only [j8] at H ⊢; exact H)
   have hji31_ : (if x2 < t3 then t3 else x2) = i2 := j8
   have H' := am H
   clear H
   go_wp2
   go_roundg k1
   case measure => have := HK1.out; omega
   case rel => exact ⟨(i1), (i2), (wrap64 (x3 + 1)), (by first | rfl | (simp; done) | (simp only [← j7] <;> (first | rfl | simp)) | (simp [*]; done)), (by first | rfl | (simp; done) | (simp only [← j8] <;> (first | rfl | simp)) | (simp [*]; done)), ey, H', ⟨by have := HK1.out; omega⟩, ⟨Z K1⟩, ⟨Z K2⟩, ⟨Z K3⟩, ⟨YA HB⟩⟩
  rw [if_neg c4] at H
  have d6 := eF c4
  have d7 := nT c4
  by_cases c5 : x3 = 3
  rotate_left
  ·rw [if_neg c5] at H
   exact absurd H (by simp)
  rw [if_pos c5] at H
  have hix32 : ∀ w', (Instr.index 95 (.agg #[.int .i64 t1, .int .i64 t2, .int .i64 t3, .int .i64 t4]) (.int .i64 x3)).run Try.prog w' = .ok (.int .i64 t4) w' := by intro w'; rw [c5]; first | (go_simp; done) | (go_simp; rfl) | rfl
  have d8 := eT c5
  have d9 := nF c5
  clear c5
  obtain ⟨i1, j7⟩ : ∃ j_ : Int, (mn x1 t4) = j_ := ⟨_, rfl⟩
  replace H : (impl_rangeCorners.l0 k1 i1 (mx x2 t4) (wrap64 (x3 + 1)) t1 t2 t3 t4) = some (r1, r2) := by first | (rw [j7] at H; exact H) | (simp only [j7] at H ⊢; exact H)
  have hji33_ : (if t4 < x1 then t4 else x1) = i1 := j7
  obtain ⟨i2, j8⟩ : ∃ j_ : Int, (mx x2 t4) = j_ := ⟨_, rfl⟩
  replace H : (impl_rangeCorners.l0 k1 i1 i2 (wrap64 (x3 + 1)) t1 t2 t3 t4) = some (r1, r2) := by first | (rw [j8] at H; exact H) | (simp only [j8] at H ⊢; exact H)
  have hji34_ : (if x2 < t4 then t4 else x2) = i2 := j8
  have H' := am H
  clear H
  go_wp2
  go_roundg k1
  case measure => have := HK1.out; omega
  case rel => exact ⟨(i1), (i2), (wrap64 (x3 + 1)), (by first | rfl | (simp; done) | (simp only [← j7] <;> (first | rfl | simp)) | (simp [*]; done)), (by first | rfl | (simp; done) | (simp only [← j8] <;> (first | rfl | simp)) | (simp [*]; done)), ey, H', ⟨by have := HK1.out; omega⟩, ⟨Z K1⟩, ⟨Z K2⟩, ⟨Z K3⟩, ⟨YA HB⟩⟩
end
section
attribute [local go_sem] max2_int min2_int max_two min_two max_three min_three max_four min_four
attribute [local go_sem] Go.Proofs.YthbkakcchgnhpaaSet.isSome_setCell
def impl_rangeFrom.f (a0 : Int) (a1 : Int) : Option (Int × Int) := if (mx a0 (-2147483648)) > (mn a1 2147483647) then ((impl_rangeNone.f).bind fun u1 => (some (u1.1, u1.2))) else (some (mx a0 (-2147483648), mn a1 2147483647))
set_option maxHeartbeats 8000000 in
set_option maxRecDepth 100000 in
theorem impl_rangeFrom.calls (a0 : Int) (a1 : Int) (r1 : Int) (r2 : Int) (w : World) (h : impl_rangeFrom.f a0 a1 = some (r1, r2)) :
  Calls Try.prog 50 #[.int .i64 a0, .int .i64 a1] w fun e w' => e = .returned (.agg #[.int .i64 r1, .int .i64 r2]) ∧ Below w.heap.size w w' := by
 have hu24 := Try.underlying24
 have HB := am (Below.refl w.heap.size w)
 have H : (if (mx a0 (-2147483648)) > (mn a1 2147483647) then ((impl_rangeNone.f).bind fun u1 => (some (u1.1, u1.2))) else (some (mx a0 (-2147483648), mn a1 2147483647))) = some (r1, r2) := h
 clear h
 obtain ⟨i1, j7⟩ : ∃ j_ : Int, (mx a0 (-2147483648)) = j_ := ⟨_, rfl⟩
 replace H : (if (i1) > (mn a1 2147483647) then ((impl_rangeNone.f).bind fun u1 => (some (u1.1, u1.2))) else (some (i1, mn a1 2147483647))) = some (r1, r2) := by first | (rw [j7] at H; exact H) | (simp only [j7] at H ⊢; exact H)
 have hji3_ : (if a0 < (-2147483648) then (-2147483648) else a0) = i1 := j7
 obtain ⟨i2, j8⟩ : ∃ j_ : Int, (mn a1 2147483647) = j_ := ⟨_, rfl⟩
 replace H : (if (i1) > (i2) then ((impl_rangeNone.f).bind fun u1 => (some (u1.1, u1.2))) else (some (i1, i2))) = some (r1, r2) := by first | (rw [j8] at H; exact H) | (simp only [j8] at H ⊢; exact H)
 (try (have hji4h : i2 ≤ 2147483647 := by (rw [← j8]; unfold mn; (repeat' split) <;> omega)))
 (try (have hji4g : i2 ≤ 64 := by omega))
 have hji4_ : (if 2147483647 < a1 then 2147483647 else a1) = i2 := j8
 by_cases c1 : (i1) > (i2)
 rotate_left
 ·rw [if_neg c1] at H
  have d1 := dF c1
  clear c1
  obtain ⟨rfl, rfl⟩ := sj2 H
  go_enter Try.func50, Try.ntmps50
  go_wp2_with (first | ((with_reducible refine gate_dst (N := 4) rfl ?_); refine bxn 4 #[.int .i64 0, .int .i64 0] 24 HB fun g1 w1 K1 G1 hg hb => ?_; replace HB := am (below_step (YA HB) hb); clear hb hg) | ((with_reducible refine gate_dst (N := 5) rfl ?_); refine bxn 5 #[.int .i64 0, .int .i64 0] 24 HB fun g2 w2 K2 G2 hg hb => ?_; obtain ⟨N1,N2⟩ := ne_ hg K1; obtain ⟨K1, HB⟩ := bk1 K1 HB hb; clear hb hg; have := ns1 N2; have := cB2 K2; have := cB2 K1))
  refine bodyPost_ret (results_cell_row rfl _ _ g1 24 #[.int .i64 i1, .int .i64 i2] (0, 0) _ rfl (by refine pf ?_; refine bp (ia2 i1 0) ?_ 1; refine pf ?_; refine bp (ia2 0 0) ?_ 0; refine fa N1 ?_; refine fa N1 ?_; exact Z K1) Try.underlying24 rfl (by kernel_rfl)) rfl ?_
  exact ⟨by first | rfl | (simp [errW_none, errW_some] <;> rfl) | (simp only [← j7, ← j8]; first | rfl | (simp [errW_none, errW_some] <;> rfl)) | (simp [*, errW_none, errW_some] <;> rfl), YA HB⟩
 rw [if_pos c1] at H
 have d1 := dT c1
 clear c1
 obtain ⟨⟨t1, t2⟩, A1, H⟩ := bd H
 try dsimp only at H
 obtain ⟨rfl, rfl⟩ := sj2 H
 go_enter Try.func50, Try.ntmps50
 go_wp2_with (first | ((with_reducible refine gate_dst (N := 4) rfl ?_); refine bxn 4 #[.int .i64 0, .int .i64 0] 24 HB fun g1 w1 K1 G1 hg hb => ?_; replace HB := am (below_step (YA HB) hb); clear hb hg) | ((with_reducible refine gate_dst (N := 5) rfl ?_); refine bxn 5 #[.int .i64 0, .int .i64 0] 24 HB fun g2 w2 K2 G2 hg hb => ?_; obtain ⟨N1,N2⟩ := ne_ hg K1; obtain ⟨K1, HB⟩ := bk1 K1 HB hb; clear hb hg; have := ns1 N2; have := cB2 K2) | ((with_reducible refine gate_callee (f := 48) rfl ?_); refine gL 16 Try.func48 (impl_rangeNone.calls _ _ _ A1.out) fun w3 hb => ?_; replace K1 := am (blk_below (g := g1) (o := b2 0 0 24) (ft N1 K1) hb); replace K2 := am (blk_below (g := g2) (o := b2 i1 i2 24) (by refine pf ?_; refine bp (ia2 i1 0) ?_ 1; refine pf ?_; refine bp (ia2 0 0) ?_ 0; exact Z K2) hb); replace HB := am (below_step (YA HB) hb); (try clear hb); have := cB2 K1))
 refine bodyPost_ret (results_cell_row rfl _ _ g1 24 #[.int .i64 t1, .int .i64 t2] (0, 0) _ rfl (by refine pf ?_; refine bp (ia2 t1 0) ?_ 1; refine pf ?_; refine bp (ia2 0 0) ?_ 0; exact Z K1) Try.underlying24 rfl (by kernel_rfl)) rfl ?_
 exact ⟨by first | rfl | (simp [errW_none, errW_some] <;> rfl) | (simp only [← j7, ← j8]; first | rfl | (simp [errW_none, errW_some] <;> rfl)) | (simp [*, errW_none, errW_some] <;> rfl), YA HB⟩

def impl_NumWrap.f (a0 : Int) : Option (Int) := some (wrap64 (wrap32 (a0)))
set_option maxHeartbeats 8000000 in
set_option maxRecDepth 100000 in
theorem impl_NumWrap.calls (a0 : Int) (r : Int) (w : World) (h : impl_NumWrap.f a0 = some r) :
  Calls Try.prog 62 #[.int .i64 a0] w fun e w' => e = .returned (.int .i64 r) ∧ Drawn0 w w' := by
 have H : (some (wrap64 (wrap32 (a0)))) = some r := h
 clear h
 obtain rfl := Option.some.inj H
 go_enter Try.func62, Try.ntmps62
 go_wp2
 go_ret
 exact ⟨by first | rfl | (simp; done) | (simp [*]; done), qs1⟩

def impl_rangeWrap.j0 : Nat → Int → Int → Bool → Option (Int × Int)
 | 0, _, _, _ => none
 | k + 1, x1, x2, x3 => if x3 = true then ((impl_rangeFrom.f (-2147483648) 2147483647).bind fun u1 => (some (u1.1, u1.2))) else ((impl_NumWrap.f x1).bind fun t1 => ((impl_NumWrap.f x2).bind fun t2 => ((impl_rangeFrom.f t1 t2).bind fun u2 => (some (u2.1, u2.2)))))
def impl_rangeWrap.f (k : Nat) (a0 : Int) (a1_0 : Int) (a1_1 : Int) (a2_0 : Int) (a2_1 : Int) : Option (Int × Int) := (impl_rangeCorners.f k a0 a1_0 a1_1 a2_0 a2_1).bind fun u1 => (if (wrap64 (u1.2 - u1.1)) > 4294967295 then (impl_rangeWrap.j0 k u1.1 u1.2 true) else ((impl_NumWrap.f u1.1).bind fun t1 => ((impl_NumWrap.f u1.2).bind fun t2 => (impl_rangeWrap.j0 k u1.1 u1.2 (decide (t1 > t2))))))
theorem impl_rangeWrap.mono_l : ∀ k, (∀ y0 y1 y2, LeO (impl_rangeWrap.j0 k y0 y1 y2) (impl_rangeWrap.j0 (k + 1) y0 y1 y2))
 | 0 => fun _ _ _ r h => by simp [impl_rangeWrap.j0] at h
 | k + 1 => by
  have ih0 := impl_rangeWrap.mono_l k
  ·intro y0 y1 y2
   unfold impl_rangeWrap.j0
   repeat' first | (with_reducible first | apply ih0 | apply impl_rangeCorners.mono | apply LeO.refl | apply LeO.none | refine LeO.ite ?_ ?_ | refine LeO.bind ?_ (fun _ => ?_)) | apply ih0 | apply impl_rangeCorners.mono | apply LeO.none | refine LeO.ite ?_ ?_ | refine LeO.bind ?_ (fun _ => ?_)
theorem impl_rangeWrap.mono : ∀ a0 a1 a2 a3 a4 k, LeO (impl_rangeWrap.f k a0 a1 a2 a3 a4) (impl_rangeWrap.f (k + 1) a0 a1 a2 a3 a4) := by
 intro a0 a1 a2 a3 a4 k
 have ih0 := impl_rangeWrap.mono_l k
 unfold impl_rangeWrap.f
 repeat' first | (with_reducible first | apply ih0 | apply impl_rangeCorners.mono | apply LeO.refl | apply LeO.none | refine LeO.ite ?_ ?_ | refine LeO.bind ?_ (fun _ => ?_)) | apply ih0 | apply impl_rangeCorners.mono | apply LeO.none | refine LeO.ite ?_ ?_ | refine LeO.bind ?_ (fun _ => ?_)
set_option maxHeartbeats 8000000 in
set_option maxRecDepth 100000 in
theorem impl_rangeWrap.calls (k : Nat) (a0 : Int) (a1_0 : Int) (a1_1 : Int) (a2_0 : Int) (a2_1 : Int) (r1 : Int) (r2 : Int) (w : World) (h : impl_rangeWrap.f k a0 a1_0 a1_1 a2_0 a2_1 = some (r1, r2)) :
  Calls Try.prog 51 #[.int .i64 a0, .agg #[.int .i64 a1_0, .int .i64 a1_1], .agg #[.int .i64 a2_0, .int .i64 a2_1]] w fun e w' => e = .returned (.agg #[.int .i64 r1, .int .i64 r2]) ∧ Below w.heap.size w w' := by
 have hu24 := Try.underlying24
 have HB := am (Below.refl w.heap.size w)
 have H : ((impl_rangeCorners.f k a0 a1_0 a1_1 a2_0 a2_1).bind fun u1 => (if (wrap64 (u1.2 - u1.1)) > 4294967295 then (impl_rangeWrap.j0 k u1.1 u1.2 true) else ((impl_NumWrap.f u1.1).bind fun t1 => ((impl_NumWrap.f u1.2).bind fun t2 => (impl_rangeWrap.j0 k u1.1 u1.2 (decide (t1 > t2))))))) = some (r1, r2) := h
 clear h
 obtain ⟨⟨t3, t4⟩, A1, H⟩ := bd H
 try dsimp only at H
 have C1 := am H
 clear H
 go_enter Try.func51, Try.ntmps51
 go_upto_region 2 with (first | ((with_reducible refine gate_dst (N := 4) rfl ?_); refine bxn 4 #[.int .i64 a1_0, .int .i64 a1_1] 24 HB fun g1 w1 K1 G1 hg hb => ?_; replace HB := am (below_step (YA HB) hb); clear hb hg) | ((with_reducible refine gate_dst (N := 5) rfl ?_); refine bxn 5 #[.int .i64 a2_0, .int .i64 a2_1] 24 HB fun g2 w2 K2 G2 hg hb => ?_; obtain ⟨N1,N2⟩ := ne_ hg K1; obtain ⟨K1, HB⟩ := bk1 K1 HB hb; clear hb hg) | ((with_reducible refine gate_dst (N := 6) rfl ?_); refine bxn 6 #[.int .i64 0, .int .i64 0] 24 HB fun g3 w3 K3 G3 hg hb => ?_; obtain ⟨N3,N4⟩ := ne_ hg K1; obtain ⟨N5,N6⟩ := ne_ hg K2; obtain ⟨K1, K2, HB⟩ := bk2 K1 K2 HB hb; clear hb hg; have := ns3 N1 N3 N5; have := cB2 K1; have := cB2 K2) | ((with_reducible refine gate_callee (f := 49) rfl ?_); refine gL 13 Try.func49 (impl_rangeCorners.calls _ _ _ _ _ _ _ _ _ A1.out) fun w4 hb => ?_; obtain ⟨K1, K2, K3, HB⟩ := bk3 K1 K2 K3 HB hb; (try clear hb)))
 (try simp only [Act.put, List.setIfInBounds_toArray, List.set_cons_zero, List.set_cons_succ])
 go_cut [26] (fun v1 wc => ∃ (kq : Nat) (x1 : Bool), v1 = .bool x1 ∧ Aside0 (impl_rangeWrap.j0 kq t3 t4 x1 = some (r1, r2)) ∧ Aside0 (kq ≤ k) ∧ Bx2 wc g1 a1_0 a1_1 24 ∧ Bx2 wc g2 a2_0 a2_1 24 ∧ Bx2 wc g3 0 0 24 ∧ Aside0 (Below w.heap.size w wc))
 case first =>
  have H := C1.out
  clear C1
  by_cases c1 : (wrap64 (t4 - t3)) > 4294967295
  ·rw [if_pos c1] at H
   have d1 := dT c1
   clear c1
   (first | rw [d1] | (simp only [i64_w, i32_w]; rw [d1]) | skip)
   have H' := am H
   clear H
   go_wp2
   go_meet
   case rel => exact ⟨_, (true), ey, H', le0, ⟨Z K1⟩, ⟨Z K2⟩, ⟨Z K3⟩, ⟨YA HB⟩⟩
  rw [if_neg c1] at H
  have d1 := dF c1
  clear c1
  (first | rw [d1] | (simp only [i64_w, i32_w]; rw [d1]) | skip)
  obtain ⟨t1, A2, H⟩ := bd H
  try dsimp only at H
  obtain ⟨t2, A3, H⟩ := bd H
  try dsimp only at H
  have H' := am H
  clear H
  go_wp2_with (first | (go_at_call 62; (with_reducible refine (impl_NumWrap.calls _ _ _ A2.out).mono ?_); rintro e w' ⟨rfl, ⟨nd, rfl⟩⟩) | (go_at_call 62; (with_reducible refine (impl_NumWrap.calls _ _ _ A3.out).mono ?_); rintro e w' ⟨rfl, ⟨nd, rfl⟩⟩))
  go_meet
  case rel => exact ⟨_, (decide (t1 > t2)), ey, H', le0, ⟨Z K1⟩, ⟨Z K2⟩, ⟨Z K3⟩, ⟨YA HB⟩⟩
 clear C1
 obtain ⟨kq, x1, rfl, HA, J1, K1, K2, K3, HB⟩ := hcut
 cases kq with
 | zero => exact absurd HA.out (by simp [impl_rangeWrap.j0])
 | succ k1 => ?_
 have H := HA.out
 clear HA
 simp only [impl_rangeWrap.j0] at H
 by_cases c1 : x1 = true
 ·subst c1
  rw [if_pos rfl] at H
  obtain ⟨⟨t5, t6⟩, A2, H⟩ := bd H
  try dsimp only at H
  obtain ⟨rfl, rfl⟩ := sj2 H
  go_wp2_with (first | ((with_reducible refine gate_callee (f := 50) rfl ?_); refine gL 27 Try.func50 (impl_rangeFrom.calls _ _ _ _ _ A2.out) fun w5 hb => ?_; obtain ⟨K1, K2, K3, HB⟩ := bk3 K1 K2 K3 HB hb; (try clear hb); have := ns2 N4 N6; have := cB2 K3))
  refine bodyPost_ret (results_cell_row rfl _ _ g3 24 #[.int .i64 t5, .int .i64 t6] (0, 0) _ rfl (by refine pf ?_; refine bp (ia2 t5 0) ?_ 1; refine pf ?_; refine bp (ia2 0 0) ?_ 0; exact Z K3) Try.underlying24 rfl (by kernel_rfl)) rfl ?_
  exact ⟨ez, YA HB⟩
 replace c1 := Bool.eq_false_iff.mpr c1
 subst c1
 rw [if_neg ff] at H
 obtain ⟨t5, A2, H⟩ := bd H
 try dsimp only at H
 obtain ⟨t6, A3, H⟩ := bd H
 try dsimp only at H
 obtain ⟨⟨t7, t8⟩, A4, H⟩ := bd H
 try dsimp only at H
 obtain ⟨rfl, rfl⟩ := sj2 H
 go_wp2_with (first | ((with_reducible refine gate_callee (f := 62) rfl ?_); refine goesL_ (some 29) rfl rfl Try.func62 (by kernel_rfl) rfl #[.int .i64 t3] rfl mz ?_; (with_reducible refine (impl_NumWrap.calls _ _ _ A2.out).mono ?_); rintro e w' ⟨rfl, ⟨nd, rfl⟩⟩; refine ⟨_, rfl, ?_⟩; (try (rw [drewN_self wc]; generalize hq_ : World.drewN wc _ = wc; replace K1 : Bx2 wc g1 a1_0 a1_1 24 := ⟨by rw [← hq_]; exact (Z K1)⟩; replace K2 : Bx2 wc g2 a2_0 a2_1 24 := ⟨by rw [← hq_]; exact (Z K2)⟩; replace K3 : Bx2 wc g3 0 0 24 := ⟨by rw [← hq_]; exact (Z K3)⟩; replace HB : Aside0 (Below w.heap.size w wc) := ⟨by rw [← hq_]; exact (YA HB)⟩; clear hq_))) | ((with_reducible refine gate_callee (f := 62) rfl ?_); refine goesL_ (some 31) rfl rfl Try.func62 (by kernel_rfl) rfl #[.int .i64 t4] rfl mz ?_; (with_reducible refine (impl_NumWrap.calls _ _ _ A3.out).mono ?_); rintro e w' ⟨rfl, ⟨nd, rfl⟩⟩; refine ⟨_, rfl, ?_⟩; (try (rw [drewN_self wc]; generalize hq_ : World.drewN wc _ = wc; replace K1 : Bx2 wc g1 a1_0 a1_1 24 := ⟨by rw [← hq_]; exact (Z K1)⟩; replace K2 : Bx2 wc g2 a2_0 a2_1 24 := ⟨by rw [← hq_]; exact (Z K2)⟩; replace K3 : Bx2 wc g3 0 0 24 := ⟨by rw [← hq_]; exact (Z K3)⟩; replace HB : Aside0 (Below w.heap.size w wc) := ⟨by rw [← hq_]; exact (YA HB)⟩; clear hq_))) | ((with_reducible refine gate_callee (f := 50) rfl ?_); refine gL 32 Try.func50 (impl_rangeFrom.calls _ _ _ _ _ A4.out) fun w5 hb => ?_; obtain ⟨K1, K2, K3, HB⟩ := bk3 K1 K2 K3 HB hb; (try clear hb); have := ns2 N4 N6; have := cB2 K3))
 refine bodyPost_ret (results_cell_row rfl _ _ g3 24 #[.int .i64 t7, .int .i64 t8] (0, 0) _ rfl (by refine pf ?_; refine bp (ia2 t7 0) ?_ 1; refine pf ?_; refine bp (ia2 0 0) ?_ 0; exact Z K3) Try.underlying24 rfl (by kernel_rfl)) rfl ?_
 exact ⟨ez, YA HB⟩

def impl_RangeMeet.j0 : Nat → Bool → Int → Int → Int → Int → Option (Int × Int)
 | 0, _, _, _, _, _ => none
 | k + 1, x1, x2, x3, x4, x5 => if x1 = true then ((impl_rangeNone.f).bind fun u1 => (some (u1.1, u1.2))) else ((impl_rangeFrom.f (mx x2 x4) (mn x3 x5)).bind fun u2 => (some (u2.1, u2.2)))
def impl_RangeMeet.f (k : Nat) (a0_0 : Int) (a0_1 : Int) (a1_0 : Int) (a1_1 : Int) : Option (Int × Int) := (impl_RangeOk.f a0_0 a0_1).bind fun t1 => (if t1 = true then ((impl_RangeOk.f a1_0 a1_1).bind fun t2 => (if t2 = true then ((impl_Range_empty.f a0_0 a0_1).bind fun t3 => (if t3 = true then (impl_RangeMeet.j0 k true a0_0 a0_1 a1_0 a1_1) else ((impl_Range_empty.f a1_0 a1_1).bind fun t4 => (impl_RangeMeet.j0 k t4 a0_0 a0_1 a1_0 a1_1)))) else (impl_RangeMeet.j0 k true a0_0 a0_1 a1_0 a1_1))) else (impl_RangeMeet.j0 k true a0_0 a0_1 a1_0 a1_1))
theorem impl_RangeMeet.mono_l : ∀ k, (∀ y0 y1 y2 y3 y4, LeO (impl_RangeMeet.j0 k y0 y1 y2 y3 y4) (impl_RangeMeet.j0 (k + 1) y0 y1 y2 y3 y4))
 | 0 => fun _ _ _ _ _ r h => by simp [impl_RangeMeet.j0] at h
 | k + 1 => by
  have ih0 := impl_RangeMeet.mono_l k
  ·intro y0 y1 y2 y3 y4
   unfold impl_RangeMeet.j0
   repeat' first | (with_reducible first | apply ih0 | apply LeO.refl | apply LeO.none | refine LeO.ite ?_ ?_ | refine LeO.bind ?_ (fun _ => ?_)) | apply ih0 | apply LeO.none | refine LeO.ite ?_ ?_ | refine LeO.bind ?_ (fun _ => ?_)
theorem impl_RangeMeet.mono : ∀ a0 a1 a2 a3 k, LeO (impl_RangeMeet.f k a0 a1 a2 a3) (impl_RangeMeet.f (k + 1) a0 a1 a2 a3) := by
 intro a0 a1 a2 a3 k
 have ih0 := impl_RangeMeet.mono_l k
 unfold impl_RangeMeet.f
 repeat' first | (with_reducible first | apply ih0 | apply LeO.refl | apply LeO.none | refine LeO.ite ?_ ?_ | refine LeO.bind ?_ (fun _ => ?_)) | apply ih0 | apply LeO.none | refine LeO.ite ?_ ?_ | refine LeO.bind ?_ (fun _ => ?_)
set_option maxHeartbeats 8000000 in
set_option maxRecDepth 100000 in
theorem impl_RangeMeet.calls (k : Nat) (a0_0 : Int) (a0_1 : Int) (a1_0 : Int) (a1_1 : Int) (r1 : Int) (r2 : Int) (w : World) (h : impl_RangeMeet.f k a0_0 a0_1 a1_0 a1_1 = some (r1, r2)) :
  Calls Try.prog 93 #[.agg #[.int .i64 a0_0, .int .i64 a0_1], .agg #[.int .i64 a1_0, .int .i64 a1_1]] w fun e w' => e = .returned (.agg #[.int .i64 r1, .int .i64 r2]) ∧ Below w.heap.size w w' := by
 have hu24 := Try.underlying24
 have HB := am (Below.refl w.heap.size w)
 have H : ((impl_RangeOk.f a0_0 a0_1).bind fun t1 => (if t1 = true then ((impl_RangeOk.f a1_0 a1_1).bind fun t2 => (if t2 = true then ((impl_Range_empty.f a0_0 a0_1).bind fun t3 => (if t3 = true then (impl_RangeMeet.j0 k true a0_0 a0_1 a1_0 a1_1) else ((impl_Range_empty.f a1_0 a1_1).bind fun t4 => (impl_RangeMeet.j0 k t4 a0_0 a0_1 a1_0 a1_1)))) else (impl_RangeMeet.j0 k true a0_0 a0_1 a1_0 a1_1))) else (impl_RangeMeet.j0 k true a0_0 a0_1 a1_0 a1_1))) = some (r1, r2) := h
 clear h
 have C1 := am H
 clear H
 go_enter Try.func93, Try.ntmps93
 go_upto_region 1 with (first | ((with_reducible refine gate_dst (N := 2) rfl ?_); refine bxn 2 #[.int .i64 a0_0, .int .i64 a0_1] 24 HB fun g1 w1 K1 G1 hg hb => ?_; replace HB := am (below_step (YA HB) hb); clear hb hg) | ((with_reducible refine gate_dst (N := 3) rfl ?_); refine bxn 3 #[.int .i64 a1_0, .int .i64 a1_1] 24 HB fun g2 w2 K2 G2 hg hb => ?_; obtain ⟨N1,N2⟩ := ne_ hg K1; obtain ⟨K1, HB⟩ := bk1 K1 HB hb; clear hb hg) | ((with_reducible refine gate_dst (N := 4) rfl ?_); refine bxn 4 #[.int .i64 0, .int .i64 0] 24 HB fun g3 w3 K3 G3 hg hb => ?_; obtain ⟨N3,N4⟩ := ne_ hg K1; obtain ⟨N5,N6⟩ := ne_ hg K2; obtain ⟨K1, K2, HB⟩ := bk2 K1 K2 HB hb; clear hb hg))
 (try simp only [Act.put, List.setIfInBounds_toArray, List.set_cons_zero, List.set_cons_succ])
 go_cut [20] (fun v1 wc => ∃ (kq : Nat) (x1 : Bool), v1 = .bool x1 ∧ Aside0 (impl_RangeMeet.j0 kq x1 a0_0 a0_1 a1_0 a1_1 = some (r1, r2)) ∧ Aside0 (kq ≤ k) ∧ Bx2 wc g1 a0_0 a0_1 24 ∧ Bx2 wc g2 a1_0 a1_1 24 ∧ Bx2 wc g3 0 0 24 ∧ Aside0 (Below w.heap.size w wc))
 case first =>
  have H := C1.out
  clear C1
  obtain ⟨t1, A1, H⟩ := bd H
  try dsimp only at H
  by_cases c1 : t1 = true
  rotate_left
  ·replace c1 := Bool.eq_false_iff.mpr c1
   subst c1
   rw [if_neg ff] at H
   have H' := am H
   clear H
   have := ns2 N1 N3
   have := cB2 K1
   go_wp2_with (first | ((with_reducible refine gate_callee (f := 46) rfl ?_); refine gL 6 Try.func46 (impl_RangeOk.calls _ _ _ _ A1.out) fun w4 hb => ?_; obtain ⟨K1, K2, K3, HB⟩ := bk3 K1 K2 K3 HB hb; (try clear hb)))
   go_meet
   case rel => exact ⟨_, (true), ey, H', le0, ⟨Z K1⟩, ⟨Z K2⟩, ⟨Z K3⟩, ⟨YA HB⟩⟩
  subst c1
  rw [if_pos rfl] at H
  obtain ⟨t2, A2, H⟩ := bd H
  try dsimp only at H
  by_cases c2 : t2 = true
  rotate_left
  ·replace c2 := Bool.eq_false_iff.mpr c2
   subst c2
   rw [if_neg ff] at H
   have H' := am H
   clear H
   have := ns2 N1 N3
   have := cB2 K1
   go_wp2_with (first | ((with_reducible refine gate_callee (f := 46) rfl ?_); refine gL 6 Try.func46 (impl_RangeOk.calls _ _ _ _ A1.out) fun w4 hb => ?_; obtain ⟨K1, K2, K3, HB⟩ := bk3 K1 K2 K3 HB hb; (try clear hb); have := ns1 N5; have := cB2 K2) | (go_at_call 46; (with_reducible refine (impl_RangeOk.calls _ _ _ _ A2.out).mono ?_); rintro e w5 ⟨rfl, hb⟩; obtain ⟨K1, K2, K3, HB⟩ := bk3 K1 K2 K3 HB hb; (try clear hb)))
   go_meet
   case rel => exact ⟨_, (true), ey, H', le0, ⟨Z K1⟩, ⟨Z K2⟩, ⟨Z K3⟩, ⟨YA HB⟩⟩
  subst c2
  rw [if_pos rfl] at H
  obtain ⟨t3, A3, H⟩ := bd H
  try dsimp only at H
  by_cases c3 : t3 = true
  ·subst c3
   rw [if_pos rfl] at H
   have H' := am H
   clear H
   have := ns2 N1 N3
   have := cB2 K1
   go_wp2_with (first | ((with_reducible refine gate_callee (f := 46) rfl ?_); refine gL 6 Try.func46 (impl_RangeOk.calls _ _ _ _ A1.out) fun w4 hb => ?_; obtain ⟨K1, K2, K3, HB⟩ := bk3 K1 K2 K3 HB hb; (try clear hb); have := ns1 N5; have := cB2 K2) | (go_at_call 46; (with_reducible refine (impl_RangeOk.calls _ _ _ _ A2.out).mono ?_); rintro e w5 ⟨rfl, hb⟩; obtain ⟨K1, K2, K3, HB⟩ := bk3 K1 K2 K3 HB hb; (try clear hb); have := cB2 K1) | (go_at_call 47; (with_reducible refine (impl_Range_empty.calls _ _ _ _ A3.out).mono ?_); rintro e w6 ⟨rfl, hb⟩; obtain ⟨K1, K2, K3, HB⟩ := bk3 K1 K2 K3 HB hb; (try clear hb)))
   go_meet
   case rel => exact ⟨_, (true), ey, H', le0, ⟨Z K1⟩, ⟨Z K2⟩, ⟨Z K3⟩, ⟨YA HB⟩⟩
  replace c3 := Bool.eq_false_iff.mpr c3
  subst c3
  rw [if_neg ff] at H
  obtain ⟨t4, A4, H⟩ := bd H
  try dsimp only at H
  have H' := am H
  clear H
  have := ns2 N1 N3
  have := cB2 K1
  go_wp2_with (first | ((with_reducible refine gate_callee (f := 46) rfl ?_); refine gL 6 Try.func46 (impl_RangeOk.calls _ _ _ _ A1.out) fun w4 hb => ?_; obtain ⟨K1, K2, K3, HB⟩ := bk3 K1 K2 K3 HB hb; (try clear hb); have := ns1 N5; have := cB2 K2) | (go_at_call 46; (with_reducible refine (impl_RangeOk.calls _ _ _ _ A2.out).mono ?_); rintro e w5 ⟨rfl, hb⟩; obtain ⟨K1, K2, K3, HB⟩ := bk3 K1 K2 K3 HB hb; (try clear hb); have := cB2 K1) | (go_at_call 47; (with_reducible refine (impl_Range_empty.calls _ _ _ _ A3.out).mono ?_); rintro e w6 ⟨rfl, hb⟩; obtain ⟨K1, K2, K3, HB⟩ := bk3 K1 K2 K3 HB hb; (try clear hb); have := cB2 K2) | (go_at_call 47; (with_reducible refine (impl_Range_empty.calls _ _ _ _ A4.out).mono ?_); rintro e w7 ⟨rfl, hb⟩; obtain ⟨K1, K2, K3, HB⟩ := bk3 K1 K2 K3 HB hb; (try clear hb)))
  go_meet
  case rel => exact ⟨_, (t4), ey, H', le0, ⟨Z K1⟩, ⟨Z K2⟩, ⟨Z K3⟩, ⟨YA HB⟩⟩
 clear C1
 obtain ⟨kq, x1, rfl, HA, J1, K1, K2, K3, HB⟩ := hcut
 cases kq with
 | zero => exact absurd HA.out (by simp [impl_RangeMeet.j0])
 | succ k1 => ?_
 have H := HA.out
 clear HA
 simp only [impl_RangeMeet.j0] at H
 by_cases c1 : x1 = true
 ·subst c1
  rw [if_pos rfl] at H
  obtain ⟨⟨t5, t6⟩, A1, H⟩ := bd H
  try dsimp only at H
  obtain ⟨rfl, rfl⟩ := sj2 H
  go_wp2_with (first | ((with_reducible refine gate_callee (f := 48) rfl ?_); refine gL 21 Try.func48 (impl_rangeNone.calls _ _ _ A1.out) fun w4 hb => ?_; obtain ⟨K1, K2, K3, HB⟩ := bk3 K1 K2 K3 HB hb; (try clear hb); have := ns2 N4 N6; have := cB2 K3))
  refine bodyPost_ret (results_cell_row rfl _ _ g3 24 #[.int .i64 t5, .int .i64 t6] (0, 0) _ rfl (by refine pf ?_; refine bp (ia2 t5 0) ?_ 1; refine pf ?_; refine bp (ia2 0 0) ?_ 0; exact Z K3) Try.underlying24 rfl (by kernel_rfl)) rfl ?_
  exact ⟨ez, YA HB⟩
 replace c1 := Bool.eq_false_iff.mpr c1
 subst c1
 rw [if_neg ff] at H
 obtain ⟨i1, j7⟩ : ∃ j_ : Int, (mx a0_0 a1_0) = j_ := ⟨_, rfl⟩
 replace H : ((impl_rangeFrom.f (i1) (mn a0_1 a1_1)).bind fun u1 => (some (u1.1, u1.2))) = some (r1, r2) := by first | (rw [j7] at H; exact H) | (simp only [j7] at H ⊢; exact H)
 have hji51_ : (if a0_0 < a1_0 then a1_0 else a0_0) = i1 := j7
 obtain ⟨i2, j8⟩ : ∃ j_ : Int, (mn a0_1 a1_1) = j_ := ⟨_, rfl⟩
 replace H : ((impl_rangeFrom.f (i1) (i2)).bind fun u1 => (some (u1.1, u1.2))) = some (r1, r2) := by first | (rw [j8] at H; exact H) | (simp only [j8] at H ⊢; exact H)
 have hji52_ : (if a1_1 < a0_1 then a1_1 else a0_1) = i2 := j8
 obtain ⟨⟨t5, t6⟩, A1, H⟩ := bd H
 try dsimp only at H
 obtain ⟨rfl, rfl⟩ := sj2 H
 have := ns3 N1 N3 N5
 have := cB2 K1
 have := cB2 K2
 go_wp2_with (first | ((with_reducible refine gate_callee (f := 50) rfl ?_); refine goesL_ (some 32) rfl rfl Try.func50 (by kernel_rfl) rfl #[.int .i64 i1, .int .i64 i2] rfl (by (try simp only [List.map_toArray, List.map_cons, List.map_nil]); first | done | (simp only [j7, j8]; rfl) | rfl | (simp only [List.length_drop, List.length_take]; rfl)) ?_; (with_reducible refine (impl_rangeFrom.calls _ _ _ _ _ A1.out).mono ?_); rintro e w4 ⟨rfl, hb⟩; refine ⟨_, rfl, ?_⟩; obtain ⟨K1, K2, K3, HB⟩ := bk3 K1 K2 K3 HB hb; (try clear hb); have := cB2 K3))
 refine bodyPost_ret (results_cell_row rfl _ _ g3 24 #[.int .i64 t5, .int .i64 t6] (0, 0) _ rfl (by refine pf ?_; refine bp (ia2 t5 0) ?_ 1; refine pf ?_; refine bp (ia2 0 0) ?_ 0; exact Z K3) Try.underlying24 rfl (by kernel_rfl)) rfl ?_
 exact ⟨by first | rfl | (simp [errW_none, errW_some] <;> rfl) | (simp only [← j7, ← j8]; first | rfl | (simp [errW_none, errW_some] <;> rfl)) | (simp [*, errW_none, errW_some] <;> rfl), YA HB⟩
end
section
attribute [local go_sem] max2_int min2_int max_two min_two max_three min_three max_four min_four
attribute [local go_sem high] eqA24
attribute [local go_sem] Go.Proofs.YthbkakcchgnhpaaSet.isSome_setCell
def impl_rangeShift.j0 : Nat → List Int → Bool → Int → Int → Int → Int → Int → Int → Option (Int × Int × List Int)
 | 0, _, _, _, _, _, _, _, _ => none
 | k + 1, x1, x2, x3, x4, x5, x6, x7, x8 => if x2 = true then (if x1.length < 17592186044416 then ((some (x1 ++ [1] : List Int)).bind fun y1 => (if (!(x5 == x3) || (!(x6 == x4))) = true then (if y1.length < 17592186044416 then (some (x7, x8, (y1 ++ [3]))) else (none)) else (some (x7, x8, y1)))) else (none)) else (if (!(x5 == x3) || (!(x6 == x4))) = true then (if x1.length < 17592186044416 then (some (x7, x8, (x1 ++ [3]))) else (none)) else (some (x7, x8, x1)))
def impl_rangeShift.f (k : Nat) (a0 : Int) (a1_0 : Int) (a1_1 : Int) (a2_0 : Int) (a2_1 : Int) : Option (Int × Int × List Int) := (impl_RangeMeet.f k a2_0 a2_1 0 31).bind fun u1 => ((impl_rangeNone.f).bind fun u2 => ((impl_Range_empty.f u1.1 u1.2).bind fun t1 => (if t1 = true then (if (!(u1.1 == a2_0) || (!(u1.2 == a2_1))) = true then (if ([] : List Int).length < 17592186044416 then (some (u2.1, u2.2, (([] : List Int) ++ [3]))) else (none)) else (some (u2.1, u2.2, ([] : List Int)))) else ((impl_rangeCorners.f k a0 a1_0 a1_1 u1.1 u1.2).bind fun u3 => ((impl_rangeFrom.f u3.1 u3.2).bind fun u4 => (if u3.1 < (-2147483648) then (impl_rangeShift.j0 k ([] : List Int) true a2_0 a2_1 u1.1 u1.2 u4.1 u4.2) else (impl_rangeShift.j0 k ([] : List Int) (decide (u3.2 > 2147483647)) a2_0 a2_1 u1.1 u1.2 u4.1 u4.2)))))))
theorem impl_rangeShift.mono_l : ∀ k, (∀ y0 y1 y2 y3 y4 y5 y6 y7, LeO (impl_rangeShift.j0 k y0 y1 y2 y3 y4 y5 y6 y7) (impl_rangeShift.j0 (k + 1) y0 y1 y2 y3 y4 y5 y6 y7))
 | 0 => fun _ _ _ _ _ _ _ _ r h => by simp [impl_rangeShift.j0] at h
 | k + 1 => by
  have ih0 := impl_rangeShift.mono_l k
  ·intro y0 y1 y2 y3 y4 y5 y6 y7
   unfold impl_rangeShift.j0
   repeat' first | (with_reducible first | apply ih0 | apply impl_RangeMeet.mono | apply impl_rangeCorners.mono | apply LeO.refl | apply LeO.none | refine LeO.ite ?_ ?_ | refine LeO.bind ?_ (fun _ => ?_)) | apply ih0 | apply impl_RangeMeet.mono | apply impl_rangeCorners.mono | apply LeO.none | refine LeO.ite ?_ ?_ | refine LeO.bind ?_ (fun _ => ?_)
theorem impl_rangeShift.mono : ∀ a0 a1 a2 a3 a4 k, LeO (impl_rangeShift.f k a0 a1 a2 a3 a4) (impl_rangeShift.f (k + 1) a0 a1 a2 a3 a4) := by
 intro a0 a1 a2 a3 a4 k
 have ih0 := impl_rangeShift.mono_l k
 unfold impl_rangeShift.f
 repeat' first | (with_reducible first | apply ih0 | apply impl_RangeMeet.mono | apply impl_rangeCorners.mono | apply LeO.refl | apply LeO.none | refine LeO.ite ?_ ?_ | refine LeO.bind ?_ (fun _ => ?_)) | apply ih0 | apply impl_RangeMeet.mono | apply impl_rangeCorners.mono | apply LeO.none | refine LeO.ite ?_ ?_ | refine LeO.bind ?_ (fun _ => ?_)
set_option maxHeartbeats 8000000 in
set_option maxRecDepth 100000 in
theorem impl_rangeShift.calls (k : Nat) (a0 : Int) (a1_0 : Int) (a1_1 : Int) (a2_0 : Int) (a2_1 : Int) (r1 : Int) (r2 : Int) (r3 : List Int) (w : World) (h : impl_rangeShift.f k a0 a1_0 a1_1 a2_0 a2_1 = some (r1, r2, r3)) :
  Calls Try.prog 52 #[.int .i64 a0, .agg #[.int .i64 a1_0, .int .i64 a1_1], .agg #[.int .i64 a2_0, .int .i64 a2_1]] w fun e w' => ∃ v2_ : Value, e = .returned (.tuple #[.agg #[.int .i64 r1, .int .i64 r2], v2_]) ∧ Kd.R (Kd.int .i64) 3 w' w.heap.size (fun _ => True) v2_ r3 ∧ Below w.heap.size w w' := by
 have hu24 := Try.underlying24
 have HB := am (Below.refl w.heap.size w)
 have H : ((impl_RangeMeet.f k a2_0 a2_1 0 31).bind fun u1 => ((impl_rangeNone.f).bind fun u2 => ((impl_Range_empty.f u1.1 u1.2).bind fun t1 => (if t1 = true then (if (!(u1.1 == a2_0) || (!(u1.2 == a2_1))) = true then (if ([] : List Int).length < 17592186044416 then (some (u2.1, u2.2, (([] : List Int) ++ [3]))) else (none)) else (some (u2.1, u2.2, ([] : List Int)))) else ((impl_rangeCorners.f k a0 a1_0 a1_1 u1.1 u1.2).bind fun u3 => ((impl_rangeFrom.f u3.1 u3.2).bind fun u4 => (if u3.1 < (-2147483648) then (impl_rangeShift.j0 k ([] : List Int) true a2_0 a2_1 u1.1 u1.2 u4.1 u4.2) else (impl_rangeShift.j0 k ([] : List Int) (decide (u3.2 > 2147483647)) a2_0 a2_1 u1.1 u1.2 u4.1 u4.2)))))))) = some (r1, r2, r3) := h
 clear h
 obtain ⟨⟨t2, t3⟩, A1, H⟩ := bd H
 try dsimp only at H
 obtain ⟨⟨t4, t5⟩, A2, H⟩ := bd H
 try dsimp only at H
 obtain ⟨t1, A3, H⟩ := bd H
 try dsimp only at H
 by_cases c1 : t1 = true
 ·subst c1
  rw [if_pos rfl] at H
  by_cases c2 : (!(t2 == a2_0) || (!(t3 == a2_1))) = true
  rotate_left
  ·rw [if_neg c2] at H
   have d1 : (!(t2 == a2_0) || (!(t3 == a2_1))) = false := by simpa using c2
   clear c2
   obtain ⟨rfl, rfl, rfl⟩ := sj3 H
   go_enter Try.func52, Try.ntmps52
   go_wp2_with (first | ((with_reducible refine gate_dst (N := 4) rfl ?_); refine bxn 4 #[.int .i64 a1_0, .int .i64 a1_1] 24 HB fun g1 w1 K1 G1 hg hb => ?_; replace HB := am (below_step (YA HB) hb); clear hb hg) | ((with_reducible refine gate_dst (N := 5) rfl ?_); refine bxn 5 #[.int .i64 a2_0, .int .i64 a2_1] 24 HB fun g2 w2 K2 G2 hg hb => ?_; obtain ⟨N1,N2⟩ := ne_ hg K1; obtain ⟨K1, HB⟩ := bk1 K1 HB hb; clear hb hg) | ((with_reducible refine gate_dst (N := 6) rfl ?_); refine bxn 6 #[.int .i64 0, .int .i64 0] 24 HB fun g3 w3 K3 G3 hg hb => ?_; obtain ⟨N3,N4⟩ := ne_ hg K1; obtain ⟨N5,N6⟩ := ne_ hg K2; obtain ⟨K1, K2, HB⟩ := bk2 K1 K2 HB hb; clear hb hg; have := ns2 N2 N5; have := cB2 K2) | ((with_reducible refine gate_callee (f := 93) rfl ?_); refine gL 15 Try.func93 (impl_RangeMeet.calls _ _ _ _ _ _ _ _ A1.out) fun w4 hb => ?_; obtain ⟨K1, K2, K3, HB⟩ := bk3 K1 K2 K3 HB hb; (try clear hb)) | ((with_reducible refine gate_dst (N := 8) rfl ?_); refine bxn 8 #[.int .i64 0, .int .i64 0] 24 HB fun g4 w5 K4 G4 hg hb => ?_; obtain ⟨N7,N8⟩ := ne_ hg K1; obtain ⟨N9,N10⟩ := ne_ hg K2; obtain ⟨N11,N12⟩ := ne_ hg K3; obtain ⟨K1, K2, K3, HB⟩ := bk3 K1 K2 K3 HB hb; clear hb hg; have := ns3 N8 N10 N12; have := cB2 K4) | ((with_reducible refine gate_callee (f := 48) rfl ?_); refine gL 16 Try.func48 (impl_rangeNone.calls _ _ _ A2.out) fun w6 hb => ?_; replace K1 := am (blk_below (g := g1) (o := b2 a1_0 a1_1 24) (ft N7 K1) hb); replace K2 := am (blk_below (g := g2) (o := b2 a2_0 a2_1 24) (ft N9 K2) hb); replace K3 := am (blk_below (g := g3) (o := b2 0 0 24) (ft N11 K3) hb); replace K4 := am (blk_below (g := g4) (o := b2 t2 t3 24) (by refine pf ?_; refine bp (ia2 t2 0) ?_ 1; refine pf ?_; refine bp (ia2 0 0) ?_ 0; exact Z K4) hb); replace HB := am (below_step (YA HB) hb); (try clear hb)) | ((with_reducible refine gate_dst (N := 9) rfl ?_); refine bxn 9 #[.int .i64 0, .int .i64 0] 24 HB fun g5 w7 K5 G5 hg hb => ?_; obtain ⟨N13,N14⟩ := ne_ hg K1; obtain ⟨N15,N16⟩ := ne_ hg K2; obtain ⟨N17,N18⟩ := ne_ hg K3; obtain ⟨N19,N20⟩ := ne_ hg K4; obtain ⟨K1, K2, K3, K4, HB⟩ := bk4 K1 K2 K3 K4 HB hb; clear hb hg; have := ns4 N14 N16 N18 N20; have := cB2 K5; have := cB2 K4) | ((with_reducible refine gate_callee (f := 47) rfl ?_); refine gL 18 Try.func47 (impl_Range_empty.calls _ _ _ _ A3.out) fun w8 hb => ?_; replace K1 := am (blk_below (g := g1) (o := b2 a1_0 a1_1 24) (ft N13 K1) hb); replace K2 := am (blk_below (g := g2) (o := b2 a2_0 a2_1 24) (ft N15 K2) hb); replace K3 := am (blk_below (g := g3) (o := b2 0 0 24) (ft N17 K3) hb); replace K4 := am (blk_below (g := g4) (o := b2 t2 t3 24) (ft N19 K4) hb); replace K5 := am (blk_below (g := g5) (o := b2 t4 t5 24) (by refine pf ?_; refine bp (ia2 t4 0) ?_ 1; refine pf ?_; refine bp (ia2 0 0) ?_ 0; exact Z K5) hb); replace HB := am (below_step (YA HB) hb); (try clear hb); have := ns1 N4; have := cB2 K4; have := cB2 K2; have := cB2 K5; have := cB2 K3))
   refine bodyPost_ret (results_ct rfl _ _ g3 24 #[.int .i64 t4, .int .i64 t5] (0, 0) _ rfl (by refine pf ?_; refine bp (ia2 t4 0) ?_ 1; refine pf ?_; refine bp (ia2 0 0) ?_ 0; exact Z K3) Try.underlying24 rfl (by kernel_rfl)) rfl ?_
   exact ⟨_, ez, by first | exact Kd.R_nil _ _ _ _ _ | exact Kd.N_nil _ _ _ _ _ | exact Kd.V_nil _ _ _ _ _ | exact Kd.Q_nil _ _ _ _ _ | exact Kd.S_nil _ _ _ _ _, YA HB⟩
  rw [if_pos c2] at H
  have d1 : (!(t2 == a2_0) || (!(t3 == a2_1))) = true := c2
  clear c2
  by_cases c3 : ([] : List Int).length < 17592186044416
  rotate_left
  ·rw [if_neg c3] at H
   exact absurd H (by simp)
  rw [if_pos c3] at H
  have L1 := am c3
  clear c3
  obtain ⟨y1, y2⟩ : ∃ y_ : List Int, y_ = (([] : List Int) ++ [3]) := ⟨_, rfl⟩
  replace H : (some (t4, t5, y1)) = some (r1, r2, r3) := by first | (rw [y2]; with_reducible exact H) | (have H2_ := (Option.bind_some _ _).symm.trans H; rw [y2]; with_reducible exact H2_) | (have H2_ := (Option.bind_some _ _).symm.trans H; with_reducible exact H2_) | with_reducible exact H | (rw [y2]; exact H) | exact H
  have Y25 := am y2
  clear y2
  obtain ⟨rfl, rfl, rfl⟩ := sj3 H
  go_enter Try.func52, Try.ntmps52
  go_wp2_with (first | ((with_reducible refine gate_dst (N := 4) rfl ?_); refine bxn 4 #[.int .i64 a1_0, .int .i64 a1_1] 24 HB fun g1 w1 K1 G1 hg hb => ?_; replace HB := am (below_step (YA HB) hb); clear hb hg) | ((with_reducible refine gate_dst (N := 5) rfl ?_); refine bxn 5 #[.int .i64 a2_0, .int .i64 a2_1] 24 HB fun g2 w2 K2 G2 hg hb => ?_; obtain ⟨N1,N2⟩ := ne_ hg K1; obtain ⟨K1, HB⟩ := bk1 K1 HB hb; clear hb hg) | ((with_reducible refine gate_dst (N := 6) rfl ?_); refine bxn 6 #[.int .i64 0, .int .i64 0] 24 HB fun g3 w3 K3 G3 hg hb => ?_; obtain ⟨N3,N4⟩ := ne_ hg K1; obtain ⟨N5,N6⟩ := ne_ hg K2; obtain ⟨K1, K2, HB⟩ := bk2 K1 K2 HB hb; clear hb hg; have := ns2 N2 N5; have := cB2 K2) | ((with_reducible refine gate_callee (f := 93) rfl ?_); refine gL 15 Try.func93 (impl_RangeMeet.calls _ _ _ _ _ _ _ _ A1.out) fun w4 hb => ?_; obtain ⟨K1, K2, K3, HB⟩ := bk3 K1 K2 K3 HB hb; (try clear hb)) | ((with_reducible refine gate_dst (N := 8) rfl ?_); refine bxn 8 #[.int .i64 0, .int .i64 0] 24 HB fun g4 w5 K4 G4 hg hb => ?_; obtain ⟨N7,N8⟩ := ne_ hg K1; obtain ⟨N9,N10⟩ := ne_ hg K2; obtain ⟨N11,N12⟩ := ne_ hg K3; obtain ⟨K1, K2, K3, HB⟩ := bk3 K1 K2 K3 HB hb; clear hb hg; have := ns3 N8 N10 N12; have := cB2 K4) | ((with_reducible refine gate_callee (f := 48) rfl ?_); refine gL 16 Try.func48 (impl_rangeNone.calls _ _ _ A2.out) fun w6 hb => ?_; replace K1 := am (blk_below (g := g1) (o := b2 a1_0 a1_1 24) (ft N7 K1) hb); replace K2 := am (blk_below (g := g2) (o := b2 a2_0 a2_1 24) (ft N9 K2) hb); replace K3 := am (blk_below (g := g3) (o := b2 0 0 24) (ft N11 K3) hb); replace K4 := am (blk_below (g := g4) (o := b2 t2 t3 24) (by refine pf ?_; refine bp (ia2 t2 0) ?_ 1; refine pf ?_; refine bp (ia2 0 0) ?_ 0; exact Z K4) hb); replace HB := am (below_step (YA HB) hb); (try clear hb)) | ((with_reducible refine gate_dst (N := 9) rfl ?_); refine bxn 9 #[.int .i64 0, .int .i64 0] 24 HB fun g5 w7 K5 G5 hg hb => ?_; obtain ⟨N13,N14⟩ := ne_ hg K1; obtain ⟨N15,N16⟩ := ne_ hg K2; obtain ⟨N17,N18⟩ := ne_ hg K3; obtain ⟨N19,N20⟩ := ne_ hg K4; obtain ⟨K1, K2, K3, K4, HB⟩ := bk4 K1 K2 K3 K4 HB hb; clear hb hg; have := ns4 N14 N16 N18 N20; have := cB2 K5; have := cB2 K4) | ((with_reducible refine gate_callee (f := 47) rfl ?_); refine gL 18 Try.func47 (impl_Range_empty.calls _ _ _ _ A3.out) fun w8 hb => ?_; replace K1 := am (blk_below (g := g1) (o := b2 a1_0 a1_1 24) (ft N13 K1) hb); replace K2 := am (blk_below (g := g2) (o := b2 a2_0 a2_1 24) (ft N15 K2) hb); replace K3 := am (blk_below (g := g3) (o := b2 0 0 24) (ft N17 K3) hb); replace K4 := am (blk_below (g := g4) (o := b2 t2 t3 24) (ft N19 K4) hb); replace K5 := am (blk_below (g := g5) (o := b2 t4 t5 24) (by refine pf ?_; refine bp (ia2 t4 0) ?_ 1; refine pf ?_; refine bp (ia2 0 0) ?_ 0; exact Z K5) hb); replace HB := am (below_step (YA HB) hb); (try clear hb); have := cB2 K4; have := cB2 K2) | ((with_reducible refine gate_builtin (b := .append) (xs := #[.tmp 42, .tmp 43]) rfl ?_); at_builtin; refine Kd.R_append (Kd.int .i64) (w0 := w) w.heap.size rfl (.tmp 42) (.tmp 43) 25 3 (.int .i64 0) 8 rfl Try.underlying25 info3 rfl (by decide) (by omega) (.slice none 0 0) ([] : List Int) 3 [.int .i64 3] (fun _ => True) (fun _ => False) rfl rfl ?aP (fun _ hk => hk.elim) ?aF ?aO ?aB ?aS ?aL ?_; (case aP => exact rfl); (case aB => exact (YA HB)); (case aF => exact (fun _ _ => trivial)); (case aO => exact ((Kd.R_nil _ _ _ _ (fun _ => True)))); (case aS => exact (below_size (YA HB))); (case aL => have := L1.out; omega); intro v1 w9 ho hb hg hat; rw [← Y25.out] at ho; have O1 := am (ho); replace K1 := am (blk_grown (g := g1) (o := b2 a1_0 a1_1 24) (Z K1) hg (by simp [Value.ownBlock])); replace K2 := am (blk_grown (g := g2) (o := b2 a2_0 a2_1 24) (Z K2) hg (by simp [Value.ownBlock])); replace K3 := am (blk_grown (g := g3) (o := b2 0 0 24) (Z K3) hg (by simp [Value.ownBlock])); replace K4 := am (blk_grown (g := g4) (o := b2 t2 t3 24) (Z K4) hg (by simp [Value.ownBlock])); replace K5 := am (blk_grown (g := g5) (o := b2 t4 t5 24) (Z K5) hg (by simp [Value.ownBlock])); replace HB := am (hb); clear ho hb hg hat; have := ns1 N4; have := cB2 K5; have := cB2 K3))
  refine bodyPost_ret (results_ct rfl _ _ g3 24 #[.int .i64 t4, .int .i64 t5] (0, 0) _ rfl (by refine pf ?_; refine bp (ia2 t4 0) ?_ 1; refine pf ?_; refine bp (ia2 0 0) ?_ 0; exact Z K3) Try.underlying24 rfl (by kernel_rfl)) rfl ?_
  exact ⟨_, ez, by (with_reducible repeat (first | apply Kd.R_alloc | apply Kd.R_drewN | apply Kd.R_drew)); exact Kd.R_mono (Kd.R_far (p := ⟨g3, 1, none⟩) (Kd.R_far (p := ⟨g3, 0, none⟩) (Kd.R_types O1.out K3.out (by decide)) (fun _ hk => hk.2) (.int .i64 t4)) (fun _ hk => hk.2) (.int .i64 t5)) (fun _ hk => trivial), YA HB⟩
 replace c1 := Bool.eq_false_iff.mpr c1
 subst c1
 rw [if_neg ff] at H
 obtain ⟨⟨t6, t7⟩, A4, H⟩ := bd H
 try dsimp only at H
 obtain ⟨⟨t8, t9⟩, A5, H⟩ := bd H
 try dsimp only at H
 have C1 := am H
 clear H
 go_enter Try.func52, Try.ntmps52
 go_upto_region 7 with (first | ((with_reducible refine gate_dst (N := 4) rfl ?_); refine bxn 4 #[.int .i64 a1_0, .int .i64 a1_1] 24 HB fun g1 w1 K1 G1 hg hb => ?_; replace HB := am (below_step (YA HB) hb); clear hb hg) | ((with_reducible refine gate_dst (N := 5) rfl ?_); refine bxn 5 #[.int .i64 a2_0, .int .i64 a2_1] 24 HB fun g2 w2 K2 G2 hg hb => ?_; obtain ⟨N1,N2⟩ := ne_ hg K1; obtain ⟨K1, HB⟩ := bk1 K1 HB hb; clear hb hg) | ((with_reducible refine gate_dst (N := 6) rfl ?_); refine bxn 6 #[.int .i64 0, .int .i64 0] 24 HB fun g3 w3 K3 G3 hg hb => ?_; obtain ⟨N3,N4⟩ := ne_ hg K1; obtain ⟨N5,N6⟩ := ne_ hg K2; obtain ⟨K1, K2, HB⟩ := bk2 K1 K2 HB hb; clear hb hg; have := ns2 N2 N5; have := cB2 K2) | ((with_reducible refine gate_callee (f := 93) rfl ?_); refine gL 15 Try.func93 (impl_RangeMeet.calls _ _ _ _ _ _ _ _ A1.out) fun w4 hb => ?_; obtain ⟨K1, K2, K3, HB⟩ := bk3 K1 K2 K3 HB hb; (try clear hb)) | ((with_reducible refine gate_dst (N := 8) rfl ?_); refine bxn 8 #[.int .i64 0, .int .i64 0] 24 HB fun g4 w5 K4 G4 hg hb => ?_; obtain ⟨N7,N8⟩ := ne_ hg K1; obtain ⟨N9,N10⟩ := ne_ hg K2; obtain ⟨N11,N12⟩ := ne_ hg K3; obtain ⟨K1, K2, K3, HB⟩ := bk3 K1 K2 K3 HB hb; clear hb hg; have := ns3 N8 N10 N12; have := cB2 K4) | ((with_reducible refine gate_callee (f := 48) rfl ?_); refine gL 16 Try.func48 (impl_rangeNone.calls _ _ _ A2.out) fun w6 hb => ?_; replace K1 := am (blk_below (g := g1) (o := b2 a1_0 a1_1 24) (ft N7 K1) hb); replace K2 := am (blk_below (g := g2) (o := b2 a2_0 a2_1 24) (ft N9 K2) hb); replace K3 := am (blk_below (g := g3) (o := b2 0 0 24) (ft N11 K3) hb); replace K4 := am (blk_below (g := g4) (o := b2 t2 t3 24) (by refine pf ?_; refine bp (ia2 t2 0) ?_ 1; refine pf ?_; refine bp (ia2 0 0) ?_ 0; exact Z K4) hb); replace HB := am (below_step (YA HB) hb); (try clear hb)) | ((with_reducible refine gate_dst (N := 9) rfl ?_); refine bxn 9 #[.int .i64 0, .int .i64 0] 24 HB fun g5 w7 K5 G5 hg hb => ?_; obtain ⟨N13,N14⟩ := ne_ hg K1; obtain ⟨N15,N16⟩ := ne_ hg K2; obtain ⟨N17,N18⟩ := ne_ hg K3; obtain ⟨N19,N20⟩ := ne_ hg K4; obtain ⟨K1, K2, K3, K4, HB⟩ := bk4 K1 K2 K3 K4 HB hb; clear hb hg; have := ns4 N14 N16 N18 N20; have := cB2 K5; have := cB2 K4) | ((with_reducible refine gate_callee (f := 47) rfl ?_); refine gL 18 Try.func47 (impl_Range_empty.calls _ _ _ _ A3.out) fun w8 hb => ?_; replace K1 := am (blk_below (g := g1) (o := b2 a1_0 a1_1 24) (ft N13 K1) hb); replace K2 := am (blk_below (g := g2) (o := b2 a2_0 a2_1 24) (ft N15 K2) hb); replace K3 := am (blk_below (g := g3) (o := b2 0 0 24) (ft N17 K3) hb); replace K4 := am (blk_below (g := g4) (o := b2 t2 t3 24) (ft N19 K4) hb); replace K5 := am (blk_below (g := g5) (o := b2 t4 t5 24) (by refine pf ?_; refine bp (ia2 t4 0) ?_ 1; refine pf ?_; refine bp (ia2 0 0) ?_ 0; exact Z K5) hb); replace HB := am (below_step (YA HB) hb); (try clear hb); have := ns1 N3; have := cB2 K1; have := cB2 K4) | ((with_reducible refine gate_callee (f := 49) rfl ?_); refine gL 24 Try.func49 (impl_rangeCorners.calls _ _ _ _ _ _ _ _ _ A4.out) fun w9 hb => ?_; obtain ⟨K1, K2, K3, K4, K5, HB⟩ := bk5 K1 K2 K3 K4 K5 HB hb; (try clear hb)) | ((with_reducible refine gate_callee (f := 50) rfl ?_); refine gL 29 Try.func50 (impl_rangeFrom.calls _ _ _ _ _ A5.out) fun w10 hb => ?_; obtain ⟨K1, K2, K3, K4, K5, HB⟩ := bk5 K1 K2 K3 K4 K5 HB hb; (try clear hb); have := cB2 K5))
 (try simp only [Act.put, List.setIfInBounds_toArray, List.set_cons_zero, List.set_cons_succ])
 go_cut [35] (fun v1 wc => ∃ (kq : Nat) (x1 : Bool), v1 = .bool x1 ∧ Aside0 (impl_rangeShift.j0 kq ([] : List Int) x1 a2_0 a2_1 t2 t3 t8 t9 = some (r1, r2, r3)) ∧ Aside0 (kq ≤ k) ∧ Aside0 (Kd.R (Kd.int .i64) 3 wc w.heap.size (fun _ => True) (.slice none 0 0) ([] : List Int)) ∧ Bx2 wc g1 a1_0 a1_1 24 ∧ Bx2 wc g2 a2_0 a2_1 24 ∧ Bx2 wc g3 0 0 24 ∧ Bx2 wc g4 t2 t3 24 ∧ Bx2 wc g5 t8 t9 24 ∧ Aside0 (Below w.heap.size w wc))
 case first =>
  have H := C1.out
  clear C1
  by_cases c2 : t6 < (-2147483648)
  ·rw [if_pos c2] at H
   have d1 := dT c2
   clear c2
   (first | rw [d1] | (simp only [i64_w, i32_w]; rw [d1]) | skip)
   have H' := am H
   clear H
   go_wp2
   go_meet
   case rel => exact ⟨_, (true), ey, H', le0, ⟨by first | exact Kd.R_nil _ _ _ _ _ | exact Kd.N_nil _ _ _ _ _ | exact Kd.V_nil _ _ _ _ _ | exact Kd.Q_nil _ _ _ _ _ | exact Kd.S_nil _ _ _ _ _⟩, ⟨ft N13 K1⟩, ⟨ft N15 K2⟩, ⟨ft N17 K3⟩, ⟨ft N19 K4⟩, ⟨by refine pf ?_; refine bp (ia2 t8 t5) ?_ 1; refine pf ?_; refine bp (ia2 t4 t5) ?_ 0; exact Z K5⟩, ⟨YA HB⟩⟩
  rw [if_neg c2] at H
  have d1 := dF c2
  clear c2
  (first | rw [d1] | (simp only [i64_w, i32_w]; rw [d1]) | skip)
  have H' := am H
  clear H
  go_wp2
  go_meet
  case rel => exact ⟨_, (decide (t7 > 2147483647)), ey, H', le0, ⟨by first | exact Kd.R_nil _ _ _ _ _ | exact Kd.N_nil _ _ _ _ _ | exact Kd.V_nil _ _ _ _ _ | exact Kd.Q_nil _ _ _ _ _ | exact Kd.S_nil _ _ _ _ _⟩, ⟨ft N13 K1⟩, ⟨ft N15 K2⟩, ⟨ft N17 K3⟩, ⟨ft N19 K4⟩, ⟨by refine pf ?_; refine bp (ia2 t8 t5) ?_ 1; refine pf ?_; refine bp (ia2 t4 t5) ?_ 0; exact Z K5⟩, ⟨YA HB⟩⟩
 clear C1
 (try clear c1)
 obtain ⟨kq, x1, rfl, HA, J1, O1, K1, K2, K3, K4, K5, HB⟩ := hcut
 cases kq with
 | zero => exact absurd HA.out (by simp [impl_rangeShift.j0])
 | succ k1 => ?_
 have H := HA.out
 clear HA
 simp only [impl_rangeShift.j0] at H
 by_cases c2 : x1 = true
 rotate_left
 ·replace c2 := Bool.eq_false_iff.mpr c2
  subst c2
  rw [if_neg ff] at H
  by_cases c3 : (!(t2 == a2_0) || (!(t3 == a2_1))) = true
  rotate_left
  ·rw [if_neg c3] at H
   have d1 : (!(t2 == a2_0) || (!(t3 == a2_1))) = false := by simpa using c3
   clear c3
   obtain ⟨rfl, rfl, rfl⟩ := sj3 H
   have := ns10 N8 N10 N12 N19 N2 N5 N15 N14 N18 N4
   have := cB2 K4
   have := cB2 K2
   have := cB2 K5
   have := cB2 K3
   go_wp2
   refine bodyPost_ret (results_ct rfl _ _ g3 24 #[.int .i64 t8, .int .i64 t9] (0, 0) _ rfl (by refine pf ?_; refine bp (ia2 t8 0) ?_ 1; refine pf ?_; refine bp (ia2 0 0) ?_ 0; exact Z K3) Try.underlying24 rfl (by kernel_rfl)) rfl ?_
   exact ⟨_, ez, by (with_reducible repeat (first | apply Kd.R_alloc | apply Kd.R_drewN | apply Kd.R_drew)); exact Kd.R_mono (Kd.R_far (p := ⟨g3, 1, none⟩) (Kd.R_far (p := ⟨g3, 0, none⟩) (Kd.R_types O1.out K3.out (by decide)) (fun _ hk => hk.2) (.int .i64 t8)) (fun _ hk => hk.2) (.int .i64 t9)) (fun _ hk => trivial), YA HB⟩
  rw [if_pos c3] at H
  have d1 : (!(t2 == a2_0) || (!(t3 == a2_1))) = true := c3
  clear c3
  by_cases c4 : ([] : List Int).length < 17592186044416
  rotate_left
  ·rw [if_neg c4] at H
   exact absurd H (by simp)
  rw [if_pos c4] at H
  have L1 := am c4
  clear c4
  obtain ⟨y1, y2⟩ : ∃ y_ : List Int, y_ = (([] : List Int) ++ [3]) := ⟨_, rfl⟩
  replace H : (some (t8, t9, y1)) = some (r1, r2, r3) := by first | (rw [y2]; with_reducible exact H) | (have H2_ := (Option.bind_some _ _).symm.trans H; rw [y2]; with_reducible exact H2_) | (have H2_ := (Option.bind_some _ _).symm.trans H; with_reducible exact H2_) | with_reducible exact H | (rw [y2]; exact H) | exact H
  have Y25 := am y2
  clear y2
  obtain ⟨rfl, rfl, rfl⟩ := sj3 H
  have := ns7 N8 N10 N12 N19 N2 N5 N15
  have := cB2 K4
  have := cB2 K2
  go_wp2_with (first | ((with_reducible refine gate_builtin (b := .append) (xs := #[.tmp 42, .tmp 43]) rfl ?_); at_builtin; refine Kd.R_append (Kd.int .i64) (w0 := w) w.heap.size rfl (.tmp 42) (.tmp 43) 25 3 (.int .i64 0) 8 rfl Try.underlying25 info3 rfl (by decide) (by omega) (.slice none 0 0) ([] : List Int) 3 [.int .i64 3] (fun _ => True) (fun _ => False) rfl rfl ?aP (fun _ hk => hk.elim) ?aF ?aO ?aB ?aS ?aL ?_; (case aP => exact rfl); (case aB => exact (YA HB)); (case aF => exact (fun _ _ => trivial)); (case aO => exact (RZ O1)); (case aS => exact (below_size (YA HB))); (case aL => have := L1.out; omega); intro v2 w11 ho hb hg hat; rw [← Y25.out] at ho; have O2 := am (ho); replace K1 := am (blk_grown (g := g1) (o := b2 a1_0 a1_1 24) (Z K1) hg (Kd.R_ne O1.out K1.out (by decide))); replace K2 := am (blk_grown (g := g2) (o := b2 a2_0 a2_1 24) (Z K2) hg (Kd.R_ne O1.out K2.out (by decide))); replace K3 := am (blk_grown (g := g3) (o := b2 0 0 24) (Z K3) hg (Kd.R_ne O1.out K3.out (by decide))); replace K4 := am (blk_grown (g := g4) (o := b2 t2 t3 24) (Z K4) hg (Kd.R_ne O1.out K4.out (by decide))); replace K5 := am (blk_grown (g := g5) (o := b2 t8 t9 24) (Z K5) hg (Kd.R_ne O1.out K5.out (by decide))); replace HB := am (hb); clear O1; clear ho hb hg hat; have := ns3 N14 N18 N4; have := cB2 K5; have := cB2 K3))
  refine bodyPost_ret (results_ct rfl _ _ g3 24 #[.int .i64 t8, .int .i64 t9] (0, 0) _ rfl (by refine pf ?_; refine bp (ia2 t8 0) ?_ 1; refine pf ?_; refine bp (ia2 0 0) ?_ 0; exact Z K3) Try.underlying24 rfl (by kernel_rfl)) rfl ?_
  exact ⟨_, ez, by (with_reducible repeat (first | apply Kd.R_alloc | apply Kd.R_drewN | apply Kd.R_drew)); exact Kd.R_mono (Kd.R_far (p := ⟨g3, 1, none⟩) (Kd.R_far (p := ⟨g3, 0, none⟩) (Kd.R_types O2.out K3.out (by decide)) (fun _ hk => hk.2) (.int .i64 t8)) (fun _ hk => hk.2) (.int .i64 t9)) (fun _ hk => trivial), YA HB⟩
 subst c2
 rw [if_pos rfl] at H
 by_cases c3 : ([] : List Int).length < 17592186044416
 rotate_left
 ·rw [if_neg c3] at H
  exact absurd H (by simp)
 rw [if_pos c3] at H
 have L1 := am c3
 clear c3
 obtain ⟨y1, y2⟩ : ∃ y_ : List Int, y_ = (([] : List Int) ++ [1]) := ⟨_, rfl⟩
 replace H : (if (!(t2 == a2_0) || (!(t3 == a2_1))) = true then (if y1.length < 17592186044416 then (some (t8, t9, (y1 ++ [3]))) else (none)) else (some (t8, t9, y1))) = some (r1, r2, r3) := by first | (rw [y2]; with_reducible exact H) | (have H2_ := (Option.bind_some _ _).symm.trans H; rw [y2]; with_reducible exact H2_) | (have H2_ := (Option.bind_some _ _).symm.trans H; with_reducible exact H2_) | with_reducible exact H | (rw [y2]; exact H) | exact H
 have Y25 := am y2
 clear y2
 by_cases c4 : (!(t2 == a2_0) || (!(t3 == a2_1))) = true
 rotate_left
 ·rw [if_neg c4] at H
  have d1 : (!(t2 == a2_0) || (!(t3 == a2_1))) = false := by simpa using c4
  clear c4
  obtain ⟨rfl, rfl, rfl⟩ := sj3 H
  go_wp2_with (first | ((with_reducible refine gate_builtin (b := .append) (xs := #[.tmp 36, .tmp 37]) rfl ?_); at_builtin; refine Kd.R_append (Kd.int .i64) (w0 := w) w.heap.size rfl (.tmp 36) (.tmp 37) 25 3 (.int .i64 0) 8 rfl Try.underlying25 info3 rfl (by decide) (by omega) (.slice none 0 0) ([] : List Int) 1 [.int .i64 1] (fun _ => True) (fun _ => False) rfl rfl ?aP (fun _ hk => hk.elim) ?aF ?aO ?aB ?aS ?aL ?_; (case aP => exact rfl); (case aB => exact (YA HB)); (case aF => exact (fun _ _ => trivial)); (case aO => exact (RZ O1)); (case aS => exact (below_size (YA HB))); (case aL => have := L1.out; omega); intro v2 w11 ho hb hg hat; rw [← Y25.out] at ho; have O2 := am (ho); replace K1 := am (blk_grown (g := g1) (o := b2 a1_0 a1_1 24) (Z K1) hg (Kd.R_ne O1.out K1.out (by decide))); replace K2 := am (blk_grown (g := g2) (o := b2 a2_0 a2_1 24) (Z K2) hg (Kd.R_ne O1.out K2.out (by decide))); replace K3 := am (blk_grown (g := g3) (o := b2 0 0 24) (Z K3) hg (Kd.R_ne O1.out K3.out (by decide))); replace K4 := am (blk_grown (g := g4) (o := b2 t2 t3 24) (Z K4) hg (Kd.R_ne O1.out K4.out (by decide))); replace K5 := am (blk_grown (g := g5) (o := b2 t8 t9 24) (Z K5) hg (Kd.R_ne O1.out K5.out (by decide))); replace HB := am (hb); clear O1; clear ho hb hg hat; have := ns10 N8 N10 N12 N19 N2 N5 N15 N14 N18 N4; have := cB2 K4; have := cB2 K2; have := cB2 K5; have := cB2 K3))
  refine bodyPost_ret (results_ct rfl _ _ g3 24 #[.int .i64 t8, .int .i64 t9] (0, 0) _ rfl (by refine pf ?_; refine bp (ia2 t8 0) ?_ 1; refine pf ?_; refine bp (ia2 0 0) ?_ 0; exact Z K3) Try.underlying24 rfl (by kernel_rfl)) rfl ?_
  exact ⟨_, ez, by (with_reducible repeat (first | apply Kd.R_alloc | apply Kd.R_drewN | apply Kd.R_drew)); exact Kd.R_mono (Kd.R_far (p := ⟨g3, 1, none⟩) (Kd.R_far (p := ⟨g3, 0, none⟩) (Kd.R_types O2.out K3.out (by decide)) (fun _ hk => hk.2) (.int .i64 t8)) (fun _ hk => hk.2) (.int .i64 t9)) (fun _ hk => trivial), YA HB⟩
 rw [if_pos c4] at H
 have d1 : (!(t2 == a2_0) || (!(t3 == a2_1))) = true := c4
 clear c4
 by_cases c5 : y1.length < 17592186044416
 rotate_left
 ·rw [if_neg c5] at H
  exact absurd H (by simp)
 rw [if_pos c5] at H
 have L2 := am c5
 clear c5
 obtain ⟨y3, y4⟩ : ∃ y_ : List Int, y_ = (y1 ++ [3]) := ⟨_, rfl⟩
 replace H : (some (t8, t9, y3)) = some (r1, r2, r3) := by first | (rw [y4]; with_reducible exact H) | (have H2_ := (Option.bind_some _ _).symm.trans H; rw [y4]; with_reducible exact H2_) | (have H2_ := (Option.bind_some _ _).symm.trans H; with_reducible exact H2_) | with_reducible exact H | (rw [y4]; exact H) | exact H
 have Y26 := am y4
 clear y4
 obtain ⟨rfl, rfl, rfl⟩ := sj3 H
 go_wp2_with (first | ((with_reducible refine gate_builtin (b := .append) (xs := #[.tmp 36, .tmp 37]) rfl ?_); at_builtin; refine Kd.R_append (Kd.int .i64) (w0 := w) w.heap.size rfl (.tmp 36) (.tmp 37) 25 3 (.int .i64 0) 8 rfl Try.underlying25 info3 rfl (by decide) (by omega) (.slice none 0 0) ([] : List Int) 1 [.int .i64 1] (fun _ => True) (fun _ => False) rfl rfl ?aP (fun _ hk => hk.elim) ?aF ?aO ?aB ?aS ?aL ?_; (case aP => exact rfl); (case aB => exact (YA HB)); (case aF => exact (fun _ _ => trivial)); (case aO => exact (RZ O1)); (case aS => exact (below_size (YA HB))); (case aL => have := L1.out; omega); intro v2 w11 ho hb hg hat; rw [← Y25.out] at ho; have O2 := am (ho); replace K1 := am (blk_grown (g := g1) (o := b2 a1_0 a1_1 24) (Z K1) hg (Kd.R_ne O1.out K1.out (by decide))); replace K2 := am (blk_grown (g := g2) (o := b2 a2_0 a2_1 24) (Z K2) hg (Kd.R_ne O1.out K2.out (by decide))); replace K3 := am (blk_grown (g := g3) (o := b2 0 0 24) (Z K3) hg (Kd.R_ne O1.out K3.out (by decide))); replace K4 := am (blk_grown (g := g4) (o := b2 t2 t3 24) (Z K4) hg (Kd.R_ne O1.out K4.out (by decide))); replace K5 := am (blk_grown (g := g5) (o := b2 t8 t9 24) (Z K5) hg (Kd.R_ne O1.out K5.out (by decide))); replace HB := am (hb); clear O1; clear ho hb hg hat; have := ns7 N8 N10 N12 N19 N2 N5 N15; have := cB2 K4; have := cB2 K2) | ((with_reducible refine gate_builtin (b := .append) (xs := #[.tmp 42, .tmp 43]) rfl ?_); at_builtin; refine Kd.R_append (Kd.int .i64) (w0 := w) w.heap.size rfl (.tmp 42) (.tmp 43) 25 3 (.int .i64 0) 8 rfl Try.underlying25 info3 rfl (by decide) (by omega) v2 y1 3 [.int .i64 3] (fun _ => True) (fun _ => False) rfl rfl ?aP (fun _ hk => hk.elim) ?aF ?aO ?aB ?aS ?aL ?_; (case aP => exact rfl); (case aB => exact (YA HB)); (case aF => exact (fun _ _ => trivial)); (case aO => exact (RZ O2)); (case aS => exact (below_size (YA HB))); (case aL => have := L2.out; omega); intro v3 w12 ho hb hg hat; rw [← Y26.out] at ho; have O3 := am (ho); replace K1 := am (blk_grown (g := g1) (o := b2 a1_0 a1_1 24) (Z K1) hg (Kd.R_ne O2.out K1.out (by decide))); replace K2 := am (blk_grown (g := g2) (o := b2 a2_0 a2_1 24) (Z K2) hg (Kd.R_ne O2.out K2.out (by decide))); replace K3 := am (blk_grown (g := g3) (o := b2 0 0 24) (Z K3) hg (Kd.R_ne O2.out K3.out (by decide))); replace K4 := am (blk_grown (g := g4) (o := b2 t2 t3 24) (Z K4) hg (Kd.R_ne O2.out K4.out (by decide))); replace K5 := am (blk_grown (g := g5) (o := b2 t8 t9 24) (Z K5) hg (Kd.R_ne O2.out K5.out (by decide))); replace HB := am (hb); clear O2; clear ho hb hg hat; have := ns3 N14 N18 N4; have := cB2 K5; have := cB2 K3))
 refine bodyPost_ret (results_ct rfl _ _ g3 24 #[.int .i64 t8, .int .i64 t9] (0, 0) _ rfl (by refine pf ?_; refine bp (ia2 t8 0) ?_ 1; refine pf ?_; refine bp (ia2 0 0) ?_ 0; exact Z K3) Try.underlying24 rfl (by kernel_rfl)) rfl ?_
 exact ⟨_, ez, by (with_reducible repeat (first | apply Kd.R_alloc | apply Kd.R_drewN | apply Kd.R_drew)); exact Kd.R_mono (Kd.R_far (p := ⟨g3, 1, none⟩) (Kd.R_far (p := ⟨g3, 0, none⟩) (Kd.R_types O3.out K3.out (by decide)) (fun _ hk => hk.2) (.int .i64 t8)) (fun _ hk => hk.2) (.int .i64 t9)) (fun _ hk => trivial), YA HB⟩

def impl_rangeSides.f (k : Nat) (a0_0 : Int) (a0_1 : Int) : Option (Int × Int × Int × Int) := (impl_RangeMeet.f k a0_0 a0_1 (-2147483648) (-1)).bind fun u1 => ((impl_RangeMeet.f k a0_0 a0_1 1 2147483647).bind fun u2 => (some (u1.1, u1.2, u2.1, u2.2)))
theorem impl_rangeSides.mono : ∀ a0 a1 k, LeO (impl_rangeSides.f k a0 a1) (impl_rangeSides.f (k + 1) a0 a1) := by
 intro a0 a1 k
 unfold impl_rangeSides.f
 repeat' first | (with_reducible first | apply impl_RangeMeet.mono | apply LeO.refl | apply LeO.none | refine LeO.ite ?_ ?_ | refine LeO.bind ?_ (fun _ => ?_)) | apply impl_RangeMeet.mono | apply LeO.none | refine LeO.ite ?_ ?_ | refine LeO.bind ?_ (fun _ => ?_)
def impl_rangeSides.T1 : Bool × List (List Nat × List Nat) := (true, [([], []), ([], []), ([0, 1], [0, 1]), ([], []), ([], []), ([3, 4, 2], [3, 4]), ([2, 5], [2, 5]), ([6, 5, 0, 1, 2, 3, 4, 5, 6], [6])])
def impl_rangeSides.B1 : List Nat := [0, 0, 3, 0, 0, 31, 63, 127]
theorem impl_rangeSides.tab1 : rtab .any (opsOf Try.f94 1) = impl_rangeSides.T1 := by kernel_rfl
theorem impl_rangeSides.bits1 : waitsOk impl_rangeSides.T1.2 impl_rangeSides.B1 = true := by kernel_rfl
set_option maxHeartbeats 8000000 in
set_option maxRecDepth 100000 in
theorem impl_rangeSides.calls (k : Nat) (a0_0 : Int) (a0_1 : Int) (r1 : Int) (r2 : Int) (r3 : Int) (r4 : Int) (w : World) (h : impl_rangeSides.f k a0_0 a0_1 = some (r1, r2, r3, r4)) :
  Calls Try.prog 94 #[.agg #[.int .i64 a0_0, .int .i64 a0_1]] w fun e w' => e = .returned (.agg #[.int .i64 r1, .int .i64 r2, .int .i64 r3, .int .i64 r4]) ∧ Below w.heap.size w w' := by
 have hu24 := Try.underlying24
 have hu96 := Try.underlying96
 have HB := am (Below.refl w.heap.size w)
 have H : ((impl_RangeMeet.f k a0_0 a0_1 (-2147483648) (-1)).bind fun u1 => ((impl_RangeMeet.f k a0_0 a0_1 1 2147483647).bind fun u2 => (some (u1.1, u1.2, u2.1, u2.2)))) = some (r1, r2, r3, r4) := h
 clear h
 obtain ⟨⟨t1, t2⟩, A1, H⟩ := bd H
 try dsimp only at H
 obtain ⟨⟨t3, t4⟩, A2, H⟩ := bd H
 try dsimp only at H
 obtain ⟨rfl, rfl, rfl, rfl⟩ := sj4 H
 go_enter Try.func94, Try.ntmps94
 try go_wp2_with (first | ((with_reducible refine gate_dst (N := 1) rfl ?_); refine bxn 1 #[.int .i64 a0_0, .int .i64 a0_1] 24 HB fun g1 w2 K1 G1 hg hb => ?_; replace HB := am (below_step (YA HB) hb); clear hb hg) | ((with_reducible refine gate_dst (N := 2) rfl ?_); refine bxn 2 #[.int .i64 0, .int .i64 0, .int .i64 0, .int .i64 0] 96 HB fun g2 w3 K2 G2 hg hb => ?_; obtain ⟨N1,N2⟩ := ne_ hg K1; obtain ⟨K1, HB⟩ := bk1 K1 HB hb; clear hb hg))
 obtain ⟨K1, K2, HB⟩ := dk2 K1 K2 HB
 refine start_ (n := 8) (S := fun w' => ce2 w' g1 a0_0 a0_1) (ds := []) (lb 8 0) (by kernel_rfl) rfl rfl (cc2 K1) (fun hHeld => ?_); refine with_tabW impl_rangeSides.tab1 impl_rangeSides.bits1 (fun HT_ HW_ => ?_)
 generalize w3.drew = w4 at K1 K2 HB hHeld ⊢
 refine pk 1 4 2 ?_
 refine pk 4 7 18 ?_
 refine tk 0 3 19 hHeld ?_
 refine tk 3 6 27 hHeld ?_
 refine on 2 (some 5) 31 fun K hK => ?_
 refine ck hK Try.func93 (impl_RangeMeet.calls _ _ _ _ _ _ _ _ A1.out) (fun _ b => bk2 K1 K2 HB b) fun w5 Q_ hHeld => ?_
 clear hK K
 obtain ⟨K1, K2, HB⟩ := Q_
 refine on 5 (some 8) 63 fun K hK => ?_
 refine ck hK Try.func93 (impl_RangeMeet.calls _ _ _ _ _ _ _ _ A2.out) (fun _ b => bk2 K1 K2 HB b) fun w6 Q_ hHeld => ?_
 clear hK K
 obtain ⟨K1, K2, HB⟩ := Q_
 refine pk 6 9 127 ?_
 refine on 7 none 255 fun K hK => ?_
 have s1 : w6.cell? ⟨g2, 0, none⟩ = some (.int .i64 0) := bc K2 0
 have hfs9 := blk_frozen K2.out 0
 obtain ⟨z1,z2⟩ := nn N1
 have s2 : w6.cell? ⟨g2, 1, none⟩ = some (.int .i64 0) := bc K2 1
 have hfs10 := blk_frozen K2.out 1
 obtain ⟨z3,z4⟩ := nn N1
 have s3 : w6.cell? ⟨g2, 2, none⟩ = some (.int .i64 0) := bc K2 2
 have hfs11 := blk_frozen K2.out 2
 obtain ⟨z5,z6⟩ := nn N1
 have s4 : w6.cell? ⟨g2, 3, none⟩ = some (.int .i64 0) := bc K2 3
 have hfs12 := blk_frozen K2.out 3
 obtain ⟨z7,z8⟩ := nn N1
 refine skip_ (w1 := ?_) (by rfl) rfl ?_ ?_
 rotate_left
 ·go_simp
  rfl
 refine hK.out _ _ (cf2 N1 (cf2 N1 (cf2 N1 (cf2 N1 hHeld)))) (fun hHeld => ?_)
 clear hK K
 refine done_ (done_of HT_.out (by kernel_rfl)) ?_
 try go_wp2
 refine bodyPost_ret (results_cell_row rfl _ _ g2 96 #[.int .i64 t1, .int .i64 t2, .int .i64 t3, .int .i64 t4] (0, 0) _ rfl (by refine pf ?_; refine bp (ia4 t1 t2 t3 0) ?_ 3; refine pf ?_; refine bp (ia4 t1 t2 0 0) ?_ 2; refine pf ?_; refine bp (ia4 t1 0 0 0) ?_ 1; refine pf ?_; refine bp (ia4 0 0 0 0) ?_ 0; exact Z K2) Try.underlying96 rfl (by kernel_rfl)) rfl ?_
 exact ⟨ez, YA HB⟩

def impl_RangeHas.f (a0_0 : Int) (a0_1 : Int) (a1 : Int) : Option (Bool) := (impl_RangeOk.f a0_0 a0_1).bind fun t1 => (if t1 = true then (if a0_0 ≤ a1 then (some (decide (a1 ≤ a0_1))) else (some false)) else (some false))
set_option maxHeartbeats 8000000 in
set_option maxRecDepth 100000 in
theorem impl_RangeHas.calls (a0_0 : Int) (a0_1 : Int) (a1 : Int) (r : Bool) (w : World) (h : impl_RangeHas.f a0_0 a0_1 a1 = some r) :
  Calls Try.prog 95 #[.agg #[.int .i64 a0_0, .int .i64 a0_1], .int .i64 a1] w fun e w' => e = .returned (.bool r) ∧ Below w.heap.size w w' := by
 have hu24 := Try.underlying24
 have HB := am (Below.refl w.heap.size w)
 have H : ((impl_RangeOk.f a0_0 a0_1).bind fun t1 => (if t1 = true then (if a0_0 ≤ a1 then (some (decide (a1 ≤ a0_1))) else (some false)) else (some false))) = some r := h
 clear h
 obtain ⟨t1, A1, H⟩ := bd H
 try dsimp only at H
 by_cases c1 : t1 = true
 rotate_left
 ·replace c1 := Bool.eq_false_iff.mpr c1
  subst c1
  rw [if_neg ff] at H
  obtain rfl := Option.some.inj H
  go_enter Try.func95, Try.ntmps95
  go_wp2_with (first | ((with_reducible refine gate_dst (N := 2) rfl ?_); refine bxn 2 #[.int .i64 a0_0, .int .i64 a0_1] 24 HB fun g1 w1 K1 G1 hg hb => ?_; replace HB := am (below_step (YA HB) hb); clear hb hg; have := cB2 K1) | ((with_reducible refine gate_callee (f := 46) rfl ?_); refine gL 6 Try.func46 (impl_RangeOk.calls _ _ _ _ A1.out) fun w2 hb => ?_; obtain ⟨K1, HB⟩ := bk1 K1 HB hb; (try clear hb)))
  go_ret
  exact ⟨ez, YA HB⟩
 subst c1
 rw [if_pos rfl] at H
 by_cases c2 : a0_0 ≤ a1
 ·rw [if_pos c2] at H
  have d1 := dT c2
  clear c2
  obtain rfl := Option.some.inj H
  go_enter Try.func95, Try.ntmps95
  go_wp2_with (first | ((with_reducible refine gate_dst (N := 2) rfl ?_); refine bxn 2 #[.int .i64 a0_0, .int .i64 a0_1] 24 HB fun g1 w1 K1 G1 hg hb => ?_; replace HB := am (below_step (YA HB) hb); clear hb hg; have := cB2 K1) | ((with_reducible refine gate_callee (f := 46) rfl ?_); refine gL 6 Try.func46 (impl_RangeOk.calls _ _ _ _ A1.out) fun w2 hb => ?_; obtain ⟨K1, HB⟩ := bk1 K1 HB hb; (try clear hb); have := cB2 K1))
  go_ret
  exact ⟨ez, YA HB⟩
 rw [if_neg c2] at H
 have d1 := dF c2
 clear c2
 obtain rfl := Option.some.inj H
 go_enter Try.func95, Try.ntmps95
 go_wp2_with (first | ((with_reducible refine gate_dst (N := 2) rfl ?_); refine bxn 2 #[.int .i64 a0_0, .int .i64 a0_1] 24 HB fun g1 w1 K1 G1 hg hb => ?_; replace HB := am (below_step (YA HB) hb); clear hb hg; have := cB2 K1) | ((with_reducible refine gate_callee (f := 46) rfl ?_); refine gL 6 Try.func46 (impl_RangeOk.calls _ _ _ _ A1.out) fun w2 hb => ?_; obtain ⟨K1, HB⟩ := bk1 K1 HB hb; (try clear hb); have := cB2 K1))
 go_ret
 exact ⟨ez, YA HB⟩
end
end Go.Proofs.Ythbkakcchgnhpaa.PFnValTurn
