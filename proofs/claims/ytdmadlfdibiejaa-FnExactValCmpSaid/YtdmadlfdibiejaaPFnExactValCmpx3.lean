/- Written by this session's own driver (wip/dprint.py): the functions that the law FnExactValCmp reaches, as Lean functions, each with its contract. -/
import Derived.Test.YtdmadlfdibiejaaPFnExactValCmpx0
import Derived.Test.YtdmadlfdibiejaaPFnExactValCmpx1
import Derived.Test.YtdmadlfdibiejaaPFnExactValCmpx2
import Derived.Test.YtdmadlfdibiejaaSv
namespace Go.Proofs.Ytdmadlfdibiejaa.PFnExactValCmp
open Go.RowKit Go.Proofs.YtdmadlfdibiejaaV.PrintWords Go.Proofs.YtdmadlfdibiejaaV.PrintLast Go.Proofs.YtdmadlfdibiejaaV.PrintMore Go.Proofs.YtdmadlfdibiejaaSv
set_option linter.unusedVariables false
set_option linter.unusedSimpArgs false
section
attribute [local go_sem] max2_int min2_int max_two min_two max_three min_three max_four min_four
attribute [local go_sem high] eqA24
attribute [local go_sem] Go.Proofs.YtdmadlfdibiejaaSet.isSome_setCell
def spec_ValMeet.j0 : Nat → Bool → Int → Int → Int → Int → Int → Int → Int → Int → Option (Int × Int × Int × Int)
 | 0, _, _, _, _, _, _, _, _, _ => none
 | k + 1, x1, x2, x3, x4, x5, x6, x7, x8, x9 => if x1 = true then ((spec_l10None.f).bind fun u1 => (some (u1.1, u1.2.1, u1.2.2.1, u1.2.2.2))) else ((spec_l10Rest.f x2 x3 x4 x5).bind fun u2 => ((spec_l10Rest.f x6 x7 x8 x9).bind fun u3 => ((spec_RestMeet.f k u2.1 u2.2 u3.1 u3.2).bind fun u4 => (if u4.2.2 = true then ((spec_l10Range.f x2 x3 x4 x5).bind fun u5 => ((spec_l10Range.f x6 x7 x8 x9).bind fun u6 => ((spec_RangeMeet.f k u5.1 u5.2 u6.1 u6.2).bind fun u7 => ((spec_ValMake.f k u7.1 u7.2 u4.1 u4.2.1).bind fun u8 => (some (u8.1, u8.2.1, u8.2.2.1, u8.2.2.2)))))) else ((spec_l10None.f).bind fun u9 => (some (u9.1, u9.2.1, u9.2.2.1, u9.2.2.2)))))))
def spec_ValMeet.f (k : Nat) (a0_0 : Int) (a0_1 : Int) (a0_2 : Int) (a0_3 : Int) (a1_0 : Int) (a1_1 : Int) (a1_2 : Int) (a1_3 : Int) : Option (Int × Int × Int × Int) := (spec_ValOk.f k a0_0 a0_1 a0_2 a0_3).bind fun t1 => (if t1 = true then ((spec_ValOk.f k a1_0 a1_1 a1_2 a1_3).bind fun t2 => (if t2 = true then ((spec_l10None.f).bind fun u1 => (if (a0_0 == u1.1 && (a0_1 == u1.2.1 && (a0_2 == u1.2.2.1 && (a0_3 == u1.2.2.2)))) = true then (spec_ValMeet.j0 k true a0_0 a0_1 a0_2 a0_3 a1_0 a1_1 a1_2 a1_3) else ((spec_l10None.f).bind fun u2 => (spec_ValMeet.j0 k (a1_0 == u2.1 && (a1_1 == u2.2.1 && (a1_2 == u2.2.2.1 && (a1_3 == u2.2.2.2)))) a0_0 a0_1 a0_2 a0_3 a1_0 a1_1 a1_2 a1_3)))) else (spec_ValMeet.j0 k true a0_0 a0_1 a0_2 a0_3 a1_0 a1_1 a1_2 a1_3))) else (spec_ValMeet.j0 k true a0_0 a0_1 a0_2 a0_3 a1_0 a1_1 a1_2 a1_3))
theorem spec_ValMeet.mono_l : ∀ k, (∀ y0 y1 y2 y3 y4 y5 y6 y7 y8, LeO (spec_ValMeet.j0 k y0 y1 y2 y3 y4 y5 y6 y7 y8) (spec_ValMeet.j0 (k + 1) y0 y1 y2 y3 y4 y5 y6 y7 y8))
 | 0 => fun _ _ _ _ _ _ _ _ _ r h => by simp [spec_ValMeet.j0] at h
 | k + 1 => by
  have ih0 := spec_ValMeet.mono_l k
  ·intro y0 y1 y2 y3 y4 y5 y6 y7 y8
   unfold spec_ValMeet.j0
   repeat' first | (with_reducible first | apply ih0 | apply spec_RangeMeet.mono | apply spec_RestMeet.mono | apply spec_ValMake.mono | apply spec_ValOk.mono | apply LeO.refl | apply LeO.none | refine LeO.ite ?_ ?_ | refine LeO.bind ?_ (fun _ => ?_)) | apply ih0 | apply spec_RangeMeet.mono | apply spec_RestMeet.mono | apply spec_ValMake.mono | apply spec_ValOk.mono | apply LeO.none | refine LeO.ite ?_ ?_ | refine LeO.bind ?_ (fun _ => ?_)
theorem spec_ValMeet.mono : ∀ a0 a1 a2 a3 a4 a5 a6 a7 k, LeO (spec_ValMeet.f k a0 a1 a2 a3 a4 a5 a6 a7) (spec_ValMeet.f (k + 1) a0 a1 a2 a3 a4 a5 a6 a7) := by
 intro a0 a1 a2 a3 a4 a5 a6 a7 k
 have ih0 := spec_ValMeet.mono_l k
 unfold spec_ValMeet.f
 repeat' first | (with_reducible first | apply ih0 | apply spec_RangeMeet.mono | apply spec_RestMeet.mono | apply spec_ValMake.mono | apply spec_ValOk.mono | apply LeO.refl | apply LeO.none | refine LeO.ite ?_ ?_ | refine LeO.bind ?_ (fun _ => ?_)) | apply ih0 | apply spec_RangeMeet.mono | apply spec_RestMeet.mono | apply spec_ValMake.mono | apply spec_ValOk.mono | apply LeO.none | refine LeO.ite ?_ ?_ | refine LeO.bind ?_ (fun _ => ?_)
def spec_ValMeet.T1 : Bool × List (List Nat × List Nat) := (true, [([], []), ([0], [0]), ([1], [1]), ([2, 1], [2]), ([3], [3]), ([4, 3, 3], [3, 4]), ([5, 3], [3, 5]), ([3, 6], [3, 6]), ([7, 5], [7]), ([8], [8]), ([8, 8], [8]), ([9, 10, 8], [8, 9, 10]), ([8, 11], [8, 11]), ([12, 10], [12]), ([13], [13]), ([13, 13], [13]), ([14, 15, 13], [13, 14, 15]), ([13, 16], [13, 16])])
def spec_ValMeet.B1 : List Nat := [0, 1, 3, 7, 15, 31, 63, 127, 255, 511, 511, 2047, 4095, 8191, 16383, 16383, 65535, 131071]
theorem spec_ValMeet.tab1 : rtab .any (opsOf Try.f14 1) = spec_ValMeet.T1 := by kernel_rfl
theorem spec_ValMeet.bits1 : waitsOk spec_ValMeet.T1.2 spec_ValMeet.B1 = true := by kernel_rfl
def spec_ValMeet.T3 : Bool × List (List Nat × List Nat) := (true, [([], []), ([0], [0]), ([], []), ([2, 1], [2]), ([1, 3, 3], [1, 3]), ([4], [4]), ([5], [5]), ([5], [5]), ([], []), ([8, 6, 4, 0, 1, 2, 3, 4, 5, 6, 8], [6, 8]), ([7, 9, 0, 1, 2, 3, 4, 5, 6, 7, 8, 9], [7])])
def spec_ValMeet.B3 : List Nat := [0, 1, 0, 7, 15, 31, 63, 63, 0, 383, 1023]
theorem spec_ValMeet.tab3 : rtab .any (opsOf Try.f14 3) = spec_ValMeet.T3 := by kernel_rfl
theorem spec_ValMeet.bits3 : waitsOk spec_ValMeet.T3.2 spec_ValMeet.B3 = true := by kernel_rfl
def spec_ValMeet.T6 : Bool × List (List Nat × List Nat) := (true, [([], []), ([0], [0]), ([], []), ([2, 1], [2]), ([1, 3, 3], [1, 3]), ([], []), ([4, 5, 4], [4, 5]), ([6, 6, 0, 1, 2, 3, 4, 5, 6], [6])])
def spec_ValMeet.B6 : List Nat := [0, 1, 0, 7, 15, 0, 63, 127]
theorem spec_ValMeet.tab6 : rtab .any (opsOf Try.f14 6) = spec_ValMeet.T6 := by kernel_rfl
theorem spec_ValMeet.bits6 : waitsOk spec_ValMeet.T6.2 spec_ValMeet.B6 = true := by kernel_rfl
set_option maxHeartbeats 8000000 in
set_option maxRecDepth 100000 in
theorem spec_ValMeet.calls (k : Nat) (a0_0 : Int) (a0_1 : Int) (a0_2 : Int) (a0_3 : Int) (a1_0 : Int) (a1_1 : Int) (a1_2 : Int) (a1_3 : Int) (r1 : Int) (r2 : Int) (r3 : Int) (r4 : Int) (w : World) (h : spec_ValMeet.f k a0_0 a0_1 a0_2 a0_3 a1_0 a1_1 a1_2 a1_3 = some (r1, r2, r3, r4)) :
  Calls Try.prog 14 #[.agg #[.int .i64 a0_0, .int .i64 a0_1, .int .i64 a0_2, .int .i64 a0_3], .agg #[.int .i64 a1_0, .int .i64 a1_1, .int .i64 a1_2, .int .i64 a1_3]] w fun e w' => e = .returned (.agg #[.int .i64 r1, .int .i64 r2, .int .i64 r3, .int .i64 r4]) ∧ Below w.heap.size w w' := by
 have hu24 := Try.underlying24
 have hu39 := Try.underlying39
 have HB := am (Below.refl w.heap.size w)
 have H : ((spec_ValOk.f k a0_0 a0_1 a0_2 a0_3).bind fun t1 => (if t1 = true then ((spec_ValOk.f k a1_0 a1_1 a1_2 a1_3).bind fun t2 => (if t2 = true then ((spec_l10None.f).bind fun u1 => (if (a0_0 == u1.1 && (a0_1 == u1.2.1 && (a0_2 == u1.2.2.1 && (a0_3 == u1.2.2.2)))) = true then (spec_ValMeet.j0 k true a0_0 a0_1 a0_2 a0_3 a1_0 a1_1 a1_2 a1_3) else ((spec_l10None.f).bind fun u2 => (spec_ValMeet.j0 k (a1_0 == u2.1 && (a1_1 == u2.2.1 && (a1_2 == u2.2.2.1 && (a1_3 == u2.2.2.2)))) a0_0 a0_1 a0_2 a0_3 a1_0 a1_1 a1_2 a1_3)))) else (spec_ValMeet.j0 k true a0_0 a0_1 a0_2 a0_3 a1_0 a1_1 a1_2 a1_3))) else (spec_ValMeet.j0 k true a0_0 a0_1 a0_2 a0_3 a1_0 a1_1 a1_2 a1_3))) = some (r1, r2, r3, r4) := h
 clear h
 have C1 := am H
 clear H
 go_enter Try.func14, Try.ntmps14
 go_upto_region 1 with (first | ((with_reducible refine gate_dst (N := 2) rfl ?_); refine bxn 2 #[.int .i64 a0_0, .int .i64 a0_1, .int .i64 a0_2, .int .i64 a0_3] 24 HB fun g1 w2 K1 G1 hg hb => ?_; replace HB := am (below_step (YA HB) hb); clear hb hg) | ((with_reducible refine gate_dst (N := 3) rfl ?_); refine bxn 3 #[.int .i64 a1_0, .int .i64 a1_1, .int .i64 a1_2, .int .i64 a1_3] 24 HB fun g2 w3 K2 G2 hg hb => ?_; obtain ⟨N1,N2⟩ := ne_ hg K1; obtain ⟨K1, HB⟩ := bk1 K1 HB hb; clear hb hg) | ((with_reducible refine gate_dst (N := 4) rfl ?_); refine bxn 4 #[.int .i64 0, .int .i64 0, .int .i64 0, .int .i64 0] 24 HB fun g3 w4 K3 G3 hg hb => ?_; obtain ⟨N3,N4⟩ := ne_ hg K1; obtain ⟨N5,N6⟩ := ne_ hg K2; obtain ⟨K1, K2, HB⟩ := bk2 K1 K2 HB hb; clear hb hg))
 (try simp only [Act.put, List.setIfInBounds_toArray, List.set_cons_zero, List.set_cons_succ])
 go_cut [24] (fun v1 wc => ∃ (kq : Nat) (x1 : Bool), v1 = .bool x1 ∧ Aside0 (spec_ValMeet.j0 kq x1 a0_0 a0_1 a0_2 a0_3 a1_0 a1_1 a1_2 a1_3 = some (r1, r2, r3, r4)) ∧ Aside0 (kq ≤ k) ∧ Bx4 wc g1 a0_0 a0_1 a0_2 a0_3 24 ∧ Bx4 wc g2 a1_0 a1_1 a1_2 a1_3 24 ∧ Bx4 wc g3 0 0 0 0 24 ∧ Aside0 (Below w.heap.size w wc))
 case first =>
  have H := C1.out
  clear C1
  obtain ⟨t1, A1, H⟩ := bd H
  try dsimp only at H
  by_cases c1 : t1 = true
  rotate_left
  ·replace c1 := Bool.eq_false_iff.mpr c1
   subst c1
   rw [if_neg ff] at H
   have H' := am H
   clear H
   try go_wp2
   obtain ⟨K1, K2, K3, HB⟩ := dk3 K1 K2 K3 HB
   refine start_ (n := 18) (S := fun w' => w'.cell? ⟨g1, 0, none⟩ = some (.int .i64 a0_0) ∧ w'.cell? ⟨g1, 1, none⟩ = some (.int .i64 a0_1) ∧ w'.cell? ⟨g1, 2, none⟩ = some (.int .i64 a0_2) ∧ w'.cell? ⟨g1, 3, none⟩ = some (.int .i64 a0_3)) (ds := []) (lb 18 0) (by kernel_rfl) rfl rfl ⟨bc K1 0, bc K1 1, bc K1 2, bc K1 3⟩ (fun hHeld => ?_); refine with_tabW spec_ValMeet.tab1 spec_ValMeet.bits1 (fun HT_ HW_ => ?_)
   generalize w4.drew = w5 at K1 K2 K3 HB hHeld ⊢
   refine tk 0 7 1 hHeld ?_
   refine cl3 1 8 3 Try.func8 (spec_ValOk.calls _ _ _ _ _ _ _ A1.out) K1 K2 K3 HB fun w6 K1 K2 K3 HB hHeld => ?_
   refine pk 2 9 7 ?_
   refine pk 3 10 15 ?_
   refine uk 4 11 31 ?_
   refine uk 5 12 63 ?_
   refine uk 6 13 127 ?_
   refine pk 7 14 255 ?_
   refine pk 8 15 511 ?_
   refine uk 9 16 1023 ?_
   refine uk 10 17 2047 ?_
   refine uk 11 18 4095 ?_
   refine pk 12 19 8191 ?_
   refine pk 13 20 16383 ?_
   refine uk 14 21 32767 ?_
   refine uk 15 22 65535 ?_
   refine uk 16 23 131071 ?_
   refine pk 17 24 262143 ?_
   refine done_ (done_of HT_.out (by kernel_rfl)) ?_
   try go_wp2
   go_meet
   case rel => exact ⟨_, (true), ey, H', le0, ⟨Z K1⟩, ⟨Z K2⟩, ⟨Z K3⟩, ⟨YA HB⟩⟩
  subst c1
  rw [if_pos rfl] at H
  obtain ⟨t2, A2, H⟩ := bd H
  try dsimp only at H
  by_cases c2 : t2 = true
  rotate_left
  ·replace c2 := Bool.eq_false_iff.mpr c2
   subst c2
   rw [if_neg ff] at H
   have H' := am H
   clear H
   try go_wp2
   obtain ⟨K1, K2, K3, HB⟩ := dk3 K1 K2 K3 HB
   refine start_ (n := 18) (S := fun w' => w'.cell? ⟨g1, 0, none⟩ = some (.int .i64 a0_0) ∧ w'.cell? ⟨g1, 1, none⟩ = some (.int .i64 a0_1) ∧ w'.cell? ⟨g1, 2, none⟩ = some (.int .i64 a0_2) ∧ w'.cell? ⟨g1, 3, none⟩ = some (.int .i64 a0_3) ∧ w'.cell? ⟨g2, 0, none⟩ = some (.int .i64 a1_0) ∧ w'.cell? ⟨g2, 1, none⟩ = some (.int .i64 a1_1) ∧ w'.cell? ⟨g2, 2, none⟩ = some (.int .i64 a1_2) ∧ w'.cell? ⟨g2, 3, none⟩ = some (.int .i64 a1_3)) (ds := []) (lb 18 0) (by kernel_rfl) rfl rfl ⟨bc K1 0, bc K1 1, bc K1 2, bc K1 3, bc K2 0, bc K2 1, bc K2 2, bc K2 3⟩ (fun hHeld => ?_); refine with_tabW spec_ValMeet.tab1 spec_ValMeet.bits1 (fun HT_ HW_ => ?_)
   generalize w4.drew = w5 at K1 K2 K3 HB hHeld ⊢
   refine tk 0 7 1 hHeld ?_
   refine cl3 1 8 3 Try.func8 (spec_ValOk.calls _ _ _ _ _ _ _ A1.out) K1 K2 K3 HB fun w6 K1 K2 K3 HB hHeld => ?_
   refine pk 2 9 7 ?_
   refine pk 3 10 15 ?_
   refine tk 4 11 31 hHeld ?_
   refine cl3 5 12 63 Try.func8 (spec_ValOk.calls _ _ _ _ _ _ _ A2.out) K1 K2 K3 HB fun w7 K1 K2 K3 HB hHeld => ?_
   refine pk 6 13 127 ?_
   refine pk 7 14 255 ?_
   refine pk 8 15 511 ?_
   refine uk 9 16 1023 ?_
   refine uk 10 17 2047 ?_
   refine uk 11 18 4095 ?_
   refine pk 12 19 8191 ?_
   refine pk 13 20 16383 ?_
   refine uk 14 21 32767 ?_
   refine uk 15 22 65535 ?_
   refine uk 16 23 131071 ?_
   refine pk 17 24 262143 ?_
   refine done_ (done_of HT_.out (by kernel_rfl)) ?_
   try go_wp2
   go_meet
   case rel => exact ⟨_, (true), ey, H', le0, ⟨Z K1⟩, ⟨Z K2⟩, ⟨Z K3⟩, ⟨YA HB⟩⟩
  subst c2
  rw [if_pos rfl] at H
  obtain ⟨⟨t3, t4, t5, t6⟩, A3, H⟩ := bd H
  try dsimp only at H
  by_cases c3 : (a0_0 == t3 && (a0_1 == t4 && (a0_2 == t5 && (a0_3 == t6)))) = true
  ·rw [if_pos c3] at H
   have d1 : (a0_0 == t3 && (a0_1 == t4 && (a0_2 == t5 && (a0_3 == t6)))) = true := c3
   (try (have d2 : decide (a0_0 = t3 && (a0_1 == t4 && (a0_2 == t5 && (a0_3 == t6)))) = true := by simpa using c3))
   (try (have d3 : (a0_0 == t3 && (a0_1 == t4 && (a0_2 == t5 && (a0_3 == t6)))) = true := by simpa using c3))
   clear c3
   (first | rw [d1] | (simp only [i64_w, i32_w]; rw [d1]) | skip)
   have H' := am H
   clear H
   try go_wp2
   obtain ⟨K1, K2, K3, HB⟩ := dk3 K1 K2 K3 HB
   refine start_ (n := 18) (S := fun w' => w'.cell? ⟨g1, 0, none⟩ = some (.int .i64 a0_0) ∧ w'.cell? ⟨g1, 1, none⟩ = some (.int .i64 a0_1) ∧ w'.cell? ⟨g1, 2, none⟩ = some (.int .i64 a0_2) ∧ w'.cell? ⟨g1, 3, none⟩ = some (.int .i64 a0_3) ∧ w'.cell? ⟨g2, 0, none⟩ = some (.int .i64 a1_0) ∧ w'.cell? ⟨g2, 1, none⟩ = some (.int .i64 a1_1) ∧ w'.cell? ⟨g2, 2, none⟩ = some (.int .i64 a1_2) ∧ w'.cell? ⟨g2, 3, none⟩ = some (.int .i64 a1_3)) (ds := []) (lb 18 0) (by kernel_rfl) rfl rfl ⟨bc K1 0, bc K1 1, bc K1 2, bc K1 3, bc K2 0, bc K2 1, bc K2 2, bc K2 3⟩ (fun hHeld => ?_); refine with_tabW spec_ValMeet.tab1 spec_ValMeet.bits1 (fun HT_ HW_ => ?_)
   generalize w4.drew = w5 at K1 K2 K3 HB hHeld ⊢
   refine tk 0 7 1 hHeld ?_
   refine cl3 1 8 3 Try.func8 (spec_ValOk.calls _ _ _ _ _ _ _ A1.out) K1 K2 K3 HB fun w6 K1 K2 K3 HB hHeld => ?_
   refine pk 2 9 7 ?_
   refine pk 3 10 15 ?_
   refine tk 4 11 31 hHeld ?_
   refine cl3 5 12 63 Try.func8 (spec_ValOk.calls _ _ _ _ _ _ _ A2.out) K1 K2 K3 HB fun w7 K1 K2 K3 HB hHeld => ?_
   refine pk 6 13 127 ?_
   refine pk 7 14 255 ?_
   refine pk 8 15 511 ?_
   refine tk 9 16 1023 hHeld ?_
   refine cl3 10 17 2047 Try.func9 (spec_l10None.calls _ _ _ _ _ A3.out) K1 K2 K3 HB fun w8 K1 K2 K3 HB hHeld => ?_
   refine pk 11 18 4095 ?_
   refine pk 12 19 8191 ?_
   refine pk 13 20 16383 ?_
   refine uk 14 21 32767 ?_
   refine uk 15 22 65535 ?_
   refine uk 16 23 131071 ?_
   refine pk 17 24 262143 ?_
   refine done_ (done_of HT_.out (by kernel_rfl)) ?_
   try go_wp2
   go_meet
   case rel => exact ⟨_, (true), ey, H', le0, ⟨Z K1⟩, ⟨Z K2⟩, ⟨Z K3⟩, ⟨YA HB⟩⟩
  rw [if_neg c3] at H
  have d1 : (a0_0 == t3 && (a0_1 == t4 && (a0_2 == t5 && (a0_3 == t6)))) = false := by simpa using c3
  (try (have d2 : decide (a0_0 = t3 && (a0_1 == t4 && (a0_2 == t5 && (a0_3 == t6)))) = false := by simpa using c3))
  (try (have d3 : (a0_0 == t3 && (a0_1 == t4 && (a0_2 == t5 && (a0_3 == t6)))) = false := by simpa using c3))
  (try (have d4 : ¬ (a0_0 = t3 && (a0_1 == t4 && (a0_2 == t5 && (a0_3 == t6)))) := by simpa using c3))
  clear c3
  (first | rw [d1] | (simp only [i64_w, i32_w]; rw [d1]) | skip)
  obtain ⟨⟨t7, t8, t9, t10⟩, A4, H⟩ := bd H
  try dsimp only at H
  have H' := am H
  clear H
  try go_wp2
  obtain ⟨K1, K2, K3, HB⟩ := dk3 K1 K2 K3 HB
  refine start_ (n := 18) (S := fun w' => w'.cell? ⟨g1, 0, none⟩ = some (.int .i64 a0_0) ∧ w'.cell? ⟨g1, 1, none⟩ = some (.int .i64 a0_1) ∧ w'.cell? ⟨g1, 2, none⟩ = some (.int .i64 a0_2) ∧ w'.cell? ⟨g1, 3, none⟩ = some (.int .i64 a0_3) ∧ w'.cell? ⟨g2, 0, none⟩ = some (.int .i64 a1_0) ∧ w'.cell? ⟨g2, 1, none⟩ = some (.int .i64 a1_1) ∧ w'.cell? ⟨g2, 2, none⟩ = some (.int .i64 a1_2) ∧ w'.cell? ⟨g2, 3, none⟩ = some (.int .i64 a1_3)) (ds := []) (lb 18 0) (by kernel_rfl) rfl rfl ⟨bc K1 0, bc K1 1, bc K1 2, bc K1 3, bc K2 0, bc K2 1, bc K2 2, bc K2 3⟩ (fun hHeld => ?_); refine with_tabW spec_ValMeet.tab1 spec_ValMeet.bits1 (fun HT_ HW_ => ?_)
  generalize w4.drew = w5 at K1 K2 K3 HB hHeld ⊢
  refine tk 0 7 1 hHeld ?_
  refine cl3 1 8 3 Try.func8 (spec_ValOk.calls _ _ _ _ _ _ _ A1.out) K1 K2 K3 HB fun w6 K1 K2 K3 HB hHeld => ?_
  refine pk 2 9 7 ?_
  refine pk 3 10 15 ?_
  refine tk 4 11 31 hHeld ?_
  refine cl3 5 12 63 Try.func8 (spec_ValOk.calls _ _ _ _ _ _ _ A2.out) K1 K2 K3 HB fun w7 K1 K2 K3 HB hHeld => ?_
  refine pk 6 13 127 ?_
  refine pk 7 14 255 ?_
  refine pk 8 15 511 ?_
  refine tk 9 16 1023 hHeld ?_
  refine cl3 10 17 2047 Try.func9 (spec_l10None.calls _ _ _ _ _ A3.out) K1 K2 K3 HB fun w8 K1 K2 K3 HB hHeld => ?_
  refine pk 11 18 4095 ?_
  refine pk 12 19 8191 ?_
  refine pk 13 20 16383 ?_
  refine tk 14 21 32767 hHeld ?_
  refine cl3 15 22 65535 Try.func9 (spec_l10None.calls _ _ _ _ _ A4.out) K1 K2 K3 HB fun w9 K1 K2 K3 HB hHeld => ?_
  refine pk 16 23 131071 ?_
  refine pk 17 24 262143 ?_
  refine done_ (done_of HT_.out (by kernel_rfl)) ?_
  try go_wp2
  go_meet
  case rel => exact ⟨_, ((a1_0 == t7 && (a1_1 == t8 && (a1_2 == t9 && (a1_3 == t10))))), ey, H', le0, ⟨Z K1⟩, ⟨Z K2⟩, ⟨Z K3⟩, ⟨YA HB⟩⟩
 case rest =>
  clear C1
  obtain ⟨kq, x1, rfl, HA, J1, K1, K2, K3, HB⟩ := hcut
  cases kq with
  | zero => exact absurd HA.out (by simp [spec_ValMeet.j0])
  | succ k1 =>
   have H := HA.out
   clear HA
   simp only [spec_ValMeet.j0] at H
   by_cases c1 : x1 = true
   ·subst c1
    rw [if_pos rfl] at H
    obtain ⟨⟨t3, t4, t5, t6⟩, A1, H⟩ := bd H
    try dsimp only at H
    simp only [Option.some.injEq, Prod.mk.injEq] at H
    obtain ⟨rfl, rfl, rfl, rfl⟩ := H
    go_wp2_with (first | ((with_reducible refine gate_callee (f := 9) rfl ?_); refine gL 25 Try.func9 (spec_l10None.calls _ _ _ _ _ A1.out) fun w5 hb => ?_; obtain ⟨K1, K2, K3, HB⟩ := bk3 K1 K2 K3 HB hb; (try clear hb); have z_ := ns2 N4 N6; have z_ := cB4 K3))
    refine bodyPost_ret (results_cell_row rfl _ _ g3 24 #[.int .i64 t3, .int .i64 t4, .int .i64 t5, .int .i64 t6] (0, 0) _ rfl (by refine pf ?_; refine blk_put (cs := #[.int .i64 t3, .int .i64 t4, .int .i64 t5, .int .i64 0]) ?_ 3 _ rfl; refine pf ?_; refine blk_put (cs := #[.int .i64 t3, .int .i64 t4, .int .i64 0, .int .i64 0]) ?_ 2 _ rfl; refine pf ?_; refine blk_put (cs := #[.int .i64 t3, .int .i64 0, .int .i64 0, .int .i64 0]) ?_ 1 _ rfl; refine pf ?_; refine blk_put (cs := #[.int .i64 0, .int .i64 0, .int .i64 0, .int .i64 0]) ?_ 0 _ rfl; exact Z K3) Try.underlying24 rfl (by kernel_rfl)) rfl ?_
    exact ⟨ez, YA HB⟩
   replace c1 := Bool.eq_false_iff.mpr c1
   subst c1
   rw [if_neg ff] at H
   obtain ⟨⟨t3, t4⟩, A1, H⟩ := bd H
   try dsimp only at H
   obtain ⟨⟨t5, t6⟩, A2, H⟩ := bd H
   try dsimp only at H
   obtain ⟨⟨t7, t8, t9⟩, A3, H⟩ := bd H
   try dsimp only at H
   by_cases c2 : t9 = true
   rotate_left
   ·replace c2 := Bool.eq_false_iff.mpr c2
    subst c2
    rw [if_neg ff] at H
    obtain ⟨⟨t10, t11, t12, t13⟩, A4, H⟩ := bd H
    try dsimp only at H
    simp only [Option.some.injEq, Prod.mk.injEq] at H
    obtain ⟨rfl, rfl, rfl, rfl⟩ := H
    try go_wp2
    obtain ⟨K1, K2, K3, HB⟩ := dk3 K1 K2 K3 HB
    refine start_ (n := 11) (S := fun w' => w'.cell? ⟨g1, 0, none⟩ = some (.int .i64 a0_0) ∧ w'.cell? ⟨g1, 1, none⟩ = some (.int .i64 a0_1) ∧ w'.cell? ⟨g1, 2, none⟩ = some (.int .i64 a0_2) ∧ w'.cell? ⟨g1, 3, none⟩ = some (.int .i64 a0_3) ∧ w'.cell? ⟨g2, 0, none⟩ = some (.int .i64 a1_0) ∧ w'.cell? ⟨g2, 1, none⟩ = some (.int .i64 a1_1) ∧ w'.cell? ⟨g2, 2, none⟩ = some (.int .i64 a1_2) ∧ w'.cell? ⟨g2, 3, none⟩ = some (.int .i64 a1_3)) (ds := []) (lb 11 0) (by kernel_rfl) rfl rfl ⟨bc K1 0, bc K1 1, bc K1 2, bc K1 3, bc K2 0, bc K2 1, bc K2 2, bc K2 3⟩ (fun hHeld => ?_); refine with_tabW spec_ValMeet.tab3 spec_ValMeet.bits3 (fun HT_ HW_ => ?_)
    generalize wc.drew = w5 at K1 K2 K3 HB hHeld ⊢
    refine tk 0 27 1 hHeld ?_
    refine tk 2 29 5 hHeld ?_
    refine join_ (σ := Nat) 2 (lb 11 511) (fun s_ => [(28, .agg #[.int .i64 t3, .int .i64 t4]), (30, .agg #[.int .i64 t5, .int .i64 t6]), (31, .tuple #[.agg #[.int .i64 t7, .int .i64 t8], .bool false]), (5, .pointer (some ⟨s_, 0, none⟩)), (26, .tuple #[.agg #[.int .i64 t7, .int .i64 t8], .bool false]), (32, .agg #[.int .i64 t7, .int .i64 t8]), (33, .bool false)]) (fun s_ w' => (w'.cell? ⟨g1, 0, none⟩ = some (.int .i64 a0_0) ∧ w'.cell? ⟨g1, 1, none⟩ = some (.int .i64 a0_1) ∧ w'.cell? ⟨g1, 2, none⟩ = some (.int .i64 a0_2) ∧ w'.cell? ⟨g1, 3, none⟩ = some (.int .i64 a0_3) ∧ w'.cell? ⟨g2, 0, none⟩ = some (.int .i64 a1_0) ∧ w'.cell? ⟨g2, 1, none⟩ = some (.int .i64 a1_1) ∧ w'.cell? ⟨g2, 2, none⟩ = some (.int .i64 a1_2) ∧ w'.cell? ⟨g2, 3, none⟩ = some (.int .i64 a1_3)) ∧ (w'.heap[g1]? = some (.cells #[.int .i64 a0_0, .int .i64 a0_1, .int .i64 a0_2, .int .i64 a0_3] 24 (0, 0))) ∧ (w'.heap[g2]? = some (.cells #[.int .i64 a1_0, .int .i64 a1_1, .int .i64 a1_2, .int .i64 a1_3] 24 (0, 0))) ∧ (w'.heap[g3]? = some (.cells #[.int .i64 0, .int .i64 0, .int .i64 0, .int .i64 0] 24 (0, 0))) ∧ (w'.heap[s_]? = some (.cells #[.int .i64 0, .int .i64 0] 39 (0, 0))) ∧ (w.heap.size ≤ s_) ∧ (w.heap.size ≤ s_) ∧ (g1 ≠ s_) ∧ (s_ ≠ g1) ∧ (g2 ≠ s_) ∧ (s_ ≠ g2) ∧ (g3 ≠ s_) ∧ (s_ ≠ g3) ∧ (Below w.heap.size w w')) ?_ ?_
    rotate_left
    ·intro hCont
     refine two_ (i := 1) (j := 8) (Ni := some 28) (Nj := some 5) (lb 11 7) (lb 11 261) rfl rfl rfl rfl (two_of HT_.out (by kernel_rfl)) (by decide) (by decide) (fun K hK => ?_) (fun K hK => ?_)
     rotate_left
     ·skip
      refine box_step ?hg (N := 5) ?hd (cs := #[.int .i64 0, .int .i64 0]) (t := 39) ?hr ?_; (case hd => rfl); (case hg => rfl); (case hr => first | (go_simp; done) | (go_simp; rfl))
      intro g4 hg w6 hbox hb
      have K4 := am (hbox)
      have G4 := am (bs hg (YA HB))
      have G5 := am (bs hg (YA HB))
      obtain ⟨N7,N8⟩ := ne_ hg K1
      obtain ⟨N9,N10⟩ := ne_ hg K2
      obtain ⟨N11,N12⟩ := ne_ hg K3
      obtain ⟨K1, K2, K3, HB⟩ := bk3 K1 K2 K3 HB hb
      clear hb hbox hg
      refine kk hK ⟨bc K1 0, bc K1 1, bc K1 2, bc K1 3, bc K2 0, bc K2 1, bc K2 2, bc K2 3⟩ fun hHeld => ?_
      clear hK K
      refine cl4 1 28 263 Try.func13 (spec_l10Rest.calls _ _ _ _ _ _ _ A1.out) K1 K2 K3 K4 HB fun w7 K1 K2 K3 K4 HB hHeld => ?_
      refine cl4 3 30 271 Try.func13 (spec_l10Rest.calls _ _ _ _ _ _ _ A2.out) K1 K2 K3 K4 HB fun w8 K1 K2 K3 K4 HB hHeld => ?_
      refine cl4 4 31 287 Try.func35 (spec_RestMeet.calls _ _ _ _ _ _ _ _ _ A3.out) K1 K2 K3 K4 HB fun w9 K1 K2 K3 K4 HB hHeld => ?_
      refine pk 5 26 319 ?_
      refine pk 6 32 383 ?_
      refine pk 7 33 511 ?_
      exact norm_ nz (hCont (g4) _ ⟨hHeld, (Z K1), (Z K2), (Z K3), (Z K4), G4.out, G5.out, N7.out, N8.out, N9.out, N10.out, N11.out, N12.out, (YA HB)⟩)
     skip
     refine ck3 hK Try.func13 (spec_l10Rest.calls _ _ _ _ _ _ _ A1.out) K1 K2 K3 HB fun w6 K1 K2 K3 HB hHeld => ?_
     clear hK K
     refine two_ (i := 3) (j := 8) (Ni := some 30) (Nj := some 5) (lb 11 15) (lb 11 263) rfl rfl rfl rfl (two_of HT_.out (by kernel_rfl)) (by decide) (by decide) (fun K hK => ?_) (fun K hK => ?_)
     rotate_left
     ·skip
      refine box_step ?hg (N := 5) ?hd (cs := #[.int .i64 0, .int .i64 0]) (t := 39) ?hr ?_; (case hd => rfl); (case hg => rfl); (case hr => first | (go_simp; done) | (go_simp; rfl))
      intro g4 hg w7 hbox hb
      have K4 := am (hbox)
      have G4 := am (bs hg (YA HB))
      have G5 := am (bs hg (YA HB))
      obtain ⟨N7,N8⟩ := ne_ hg K1
      obtain ⟨N9,N10⟩ := ne_ hg K2
      obtain ⟨N11,N12⟩ := ne_ hg K3
      obtain ⟨K1, K2, K3, HB⟩ := bk3 K1 K2 K3 HB hb
      clear hb hbox hg
      refine kk hK ⟨bc K1 0, bc K1 1, bc K1 2, bc K1 3, bc K2 0, bc K2 1, bc K2 2, bc K2 3⟩ fun hHeld => ?_
      clear hK K
      refine cl4 3 30 271 Try.func13 (spec_l10Rest.calls _ _ _ _ _ _ _ A2.out) K1 K2 K3 K4 HB fun w8 K1 K2 K3 K4 HB hHeld => ?_
      refine cl4 4 31 287 Try.func35 (spec_RestMeet.calls _ _ _ _ _ _ _ _ _ A3.out) K1 K2 K3 K4 HB fun w9 K1 K2 K3 K4 HB hHeld => ?_
      refine pk 5 26 319 ?_
      refine pk 6 32 383 ?_
      refine pk 7 33 511 ?_
      exact norm_ nz (hCont (g4) _ ⟨hHeld, (Z K1), (Z K2), (Z K3), (Z K4), G4.out, G5.out, N7.out, N8.out, N9.out, N10.out, N11.out, N12.out, (YA HB)⟩)
     skip
     refine ck3 hK Try.func13 (spec_l10Rest.calls _ _ _ _ _ _ _ A2.out) K1 K2 K3 HB fun w7 K1 K2 K3 HB hHeld => ?_
     clear hK K
     refine two_ (i := 4) (j := 8) (Ni := some 31) (Nj := some 5) (lb 11 31) (lb 11 271) rfl rfl rfl rfl (two_of HT_.out (by kernel_rfl)) (by decide) (by decide) (fun K hK => ?_) (fun K hK => ?_)
     ·skip
      refine ck3 hK Try.func35 (spec_RestMeet.calls _ _ _ _ _ _ _ _ _ A3.out) K1 K2 K3 HB fun w8 K1 K2 K3 HB hHeld => ?_
      clear hK K
      refine pk 5 26 63 ?_
      refine pk 6 32 127 ?_
      refine pk 7 33 255 ?_
      refine on 8 (some 5) 511 fun K hK => ?_
      refine box_step ?hg (N := 5) ?hd (cs := #[.int .i64 0, .int .i64 0]) (t := 39) ?hr ?_; (case hd => rfl); (case hg => rfl); (case hr => first | (go_simp; done) | (go_simp; rfl))
      intro g4 hg w9 hbox hb
      have K4 := am (hbox)
      have G4 := am (bs hg (YA HB))
      have G5 := am (bs hg (YA HB))
      obtain ⟨N7,N8⟩ := ne_ hg K1
      obtain ⟨N9,N10⟩ := ne_ hg K2
      obtain ⟨N11,N12⟩ := ne_ hg K3
      obtain ⟨K1, K2, K3, HB⟩ := bk3 K1 K2 K3 HB hb
      clear hb hbox hg
      refine kk hK ⟨bc K1 0, bc K1 1, bc K1 2, bc K1 3, bc K2 0, bc K2 1, bc K2 2, bc K2 3⟩ fun hHeld => ?_
      clear hK K
      exact norm_ nz (hCont (g4) _ ⟨hHeld, (Z K1), (Z K2), (Z K3), (Z K4), G4.out, G5.out, N7.out, N8.out, N9.out, N10.out, N11.out, N12.out, (YA HB)⟩)
     skip
     refine box_step ?hg (N := 5) ?hd (cs := #[.int .i64 0, .int .i64 0]) (t := 39) ?hr ?_; (case hd => rfl); (case hg => rfl); (case hr => first | (go_simp; done) | (go_simp; rfl))
     intro g4 hg w8 hbox hb
     have K4 := am (hbox)
     have G4 := am (bs hg (YA HB))
     have G5 := am (bs hg (YA HB))
     obtain ⟨N7,N8⟩ := ne_ hg K1
     obtain ⟨N9,N10⟩ := ne_ hg K2
     obtain ⟨N11,N12⟩ := ne_ hg K3
     obtain ⟨K1, K2, K3, HB⟩ := bk3 K1 K2 K3 HB hb
     clear hb hbox hg
     refine kk hK ⟨bc K1 0, bc K1 1, bc K1 2, bc K1 3, bc K2 0, bc K2 1, bc K2 2, bc K2 3⟩ fun hHeld => ?_
     clear hK K
     refine cl4 4 31 287 Try.func35 (spec_RestMeet.calls _ _ _ _ _ _ _ _ _ A3.out) K1 K2 K3 K4 HB fun w9 K1 K2 K3 K4 HB hHeld => ?_
     refine pk 5 26 319 ?_
     refine pk 6 32 383 ?_
     refine pk 7 33 511 ?_
     exact norm_ nz (hCont (g4) _ ⟨hHeld, (Z K1), (Z K2), (Z K3), (Z K4), G4.out, G5.out, N7.out, N8.out, N9.out, N10.out, N11.out, N12.out, (YA HB)⟩)
    rintro g4 w6 ⟨hS_, h0_, h1_, h2_, h3_, h4_, h5_, h6_, h7_, h8_, h9_, h10_, h11_, h12_⟩
    have K4 : Bx2 w6 g4 0 0 39 := ⟨h3_⟩
    have G4 : Aside0 (w.heap.size ≤ g4) := ⟨h4_⟩
    have G5 : Aside0 (w.heap.size ≤ g4) := ⟨h5_⟩
    have N7 : Aside0 (g1 ≠ g4) := ⟨h6_⟩
    have N8 : Aside0 (g4 ≠ g1) := ⟨h7_⟩
    have N9 : Aside0 (g2 ≠ g4) := ⟨h8_⟩
    have N10 : Aside0 (g4 ≠ g2) := ⟨h9_⟩
    have N11 : Aside0 (g3 ≠ g4) := ⟨h10_⟩
    have N12 : Aside0 (g4 ≠ g3) := ⟨h11_⟩
    replace K1 : Bx4 w6 g1 a0_0 a0_1 a0_2 a0_3 24 := ⟨h0_⟩
    replace K2 : Bx4 w6 g2 a1_0 a1_1 a1_2 a1_3 24 := ⟨h1_⟩
    replace K3 : Bx4 w6 g3 0 0 0 0 24 := ⟨h2_⟩
    replace HB : Aside0 (Below w.heap.size w w6) := ⟨h12_⟩
    clear h0_ h1_ h2_ h3_ h4_ h5_ h6_ h7_ h8_ h9_ h10_ h11_ h12_
    have hHeld : w6.cell? ⟨g1, 0, none⟩ = some (.int .i64 a0_0) ∧ w6.cell? ⟨g1, 1, none⟩ = some (.int .i64 a0_1) ∧ w6.cell? ⟨g1, 2, none⟩ = some (.int .i64 a0_2) ∧ w6.cell? ⟨g1, 3, none⟩ = some (.int .i64 a0_3) ∧ w6.cell? ⟨g2, 0, none⟩ = some (.int .i64 a1_0) ∧ w6.cell? ⟨g2, 1, none⟩ = some (.int .i64 a1_1) ∧ w6.cell? ⟨g2, 2, none⟩ = some (.int .i64 a1_2) ∧ w6.cell? ⟨g2, 3, none⟩ = some (.int .i64 a1_3) := hS_
    refine norm_ (a' := ?_) ?_ ?_
    rotate_left
    ·simp only [putAll, Act.put, List.setIfInBounds_toArray, List.set_cons_zero, List.set_cons_succ]
     rfl
    refine on 9 none 1023 fun K hK => ?_
    have s1 : w6.cell? ⟨g4, 0, none⟩ = some (.int .i64 0) := bc K4 0
    have hfs67 := blk_frozen K4.out 0
    have z_ := ns6 N7 N9 N11 N8 N10 N12
    have s2 : w6.cell? ⟨g4, 1, none⟩ = some (.int .i64 0) := bc K4 1
    have hfs68 := blk_frozen K4.out 1
    have z_ := ns6 N7 N9 N11 N8 N10 N12
    refine skip_ (w1 := ?_) (by rfl) rfl ?_ ?_
    rotate_left
    ·go_simp
     rfl
    refine hK.out _ _ ⟨(cf N7 ((cf N7 (hHeld.1)))), (cf N7 ((cf N7 (hHeld.2.1)))), (cf N7 ((cf N7 (hHeld.2.2.1)))), (cf N7 ((cf N7 (hHeld.2.2.2.1)))), (cf N9 ((cf N9 (hHeld.2.2.2.2.1)))), (cf N9 ((cf N9 (hHeld.2.2.2.2.2.1)))), (cf N9 ((cf N9 (hHeld.2.2.2.2.2.2.1)))), (cf N9 ((cf N9 (hHeld.2.2.2.2.2.2.2))))⟩ (fun hHeld => ?_)
    clear hK K
    refine pk 10 6 2047 ?_
    refine done_ (done_of HT_.out (by kernel_rfl)) ?_
    try go_wp2_with (first | ((with_reducible refine gate_callee (f := 9) rfl ?_); refine gL 36 Try.func9 (spec_l10None.calls _ _ _ _ _ A4.out) fun w7 hb => ?_; replace K1 := am (blk_below (g := g1) (o := b4 a0_0 a0_1 a0_2 a0_3 24) (by refine fa N7 ?_; refine fa N7 ?_; exact Z K1) hb); replace K2 := am (blk_below (g := g2) (o := b4 a1_0 a1_1 a1_2 a1_3 24) (by refine fa N9 ?_; refine fa N9 ?_; exact Z K2) hb); replace K3 := am (blk_below (g := g3) (o := b4 0 0 0 0 24) (by refine fa N11 ?_; refine fa N11 ?_; exact Z K3) hb); replace K4 := am (blk_below (g := g4) (o := b2 t7 t8 39) (by refine pf ?_; refine blk_put (cs := #[.int .i64 t7, .int .i64 0]) ?_ 1 _ rfl; refine pf ?_; refine blk_put (cs := #[.int .i64 0, .int .i64 0]) ?_ 0 _ rfl; exact Z K4) hb); replace HB := am (below_step (YA HB) hb); (try clear hb); have z_ := ns3 N4 N6 N11; have z_ := cB4 K3))
    refine bodyPost_ret (results_cell_row rfl _ _ g3 24 #[.int .i64 t10, .int .i64 t11, .int .i64 t12, .int .i64 t13] (0, 0) _ rfl (by refine pf ?_; refine blk_put (cs := #[.int .i64 t10, .int .i64 t11, .int .i64 t12, .int .i64 0]) ?_ 3 _ rfl; refine pf ?_; refine blk_put (cs := #[.int .i64 t10, .int .i64 t11, .int .i64 0, .int .i64 0]) ?_ 2 _ rfl; refine pf ?_; refine blk_put (cs := #[.int .i64 t10, .int .i64 0, .int .i64 0, .int .i64 0]) ?_ 1 _ rfl; refine pf ?_; refine blk_put (cs := #[.int .i64 0, .int .i64 0, .int .i64 0, .int .i64 0]) ?_ 0 _ rfl; exact Z K3) Try.underlying24 rfl (by kernel_rfl)) rfl ?_
    exact ⟨ez, YA HB⟩
   subst c2
   rw [if_pos rfl] at H
   obtain ⟨⟨t10, t11⟩, A4, H⟩ := bd H
   try dsimp only at H
   obtain ⟨⟨t12, t13⟩, A5, H⟩ := bd H
   try dsimp only at H
   obtain ⟨⟨t14, t15⟩, A6, H⟩ := bd H
   try dsimp only at H
   obtain ⟨⟨t16, t17, t18, t19⟩, A7, H⟩ := bd H
   try dsimp only at H
   simp only [Option.some.injEq, Prod.mk.injEq] at H
   obtain ⟨rfl, rfl, rfl, rfl⟩ := H
   try go_wp2
   obtain ⟨K1, K2, K3, HB⟩ := dk3 K1 K2 K3 HB
   refine start_ (n := 11) (S := fun w' => w'.cell? ⟨g1, 0, none⟩ = some (.int .i64 a0_0) ∧ w'.cell? ⟨g1, 1, none⟩ = some (.int .i64 a0_1) ∧ w'.cell? ⟨g1, 2, none⟩ = some (.int .i64 a0_2) ∧ w'.cell? ⟨g1, 3, none⟩ = some (.int .i64 a0_3) ∧ w'.cell? ⟨g2, 0, none⟩ = some (.int .i64 a1_0) ∧ w'.cell? ⟨g2, 1, none⟩ = some (.int .i64 a1_1) ∧ w'.cell? ⟨g2, 2, none⟩ = some (.int .i64 a1_2) ∧ w'.cell? ⟨g2, 3, none⟩ = some (.int .i64 a1_3)) (ds := []) (lb 11 0) (by kernel_rfl) rfl rfl ⟨bc K1 0, bc K1 1, bc K1 2, bc K1 3, bc K2 0, bc K2 1, bc K2 2, bc K2 3⟩ (fun hHeld => ?_); refine with_tabW spec_ValMeet.tab3 spec_ValMeet.bits3 (fun HT_ HW_ => ?_)
   generalize wc.drew = w5 at K1 K2 K3 HB hHeld ⊢
   refine tk 0 27 1 hHeld ?_
   refine tk 2 29 5 hHeld ?_
   refine join_ (σ := Nat) 2 (lb 11 511) (fun s_ => [(28, .agg #[.int .i64 t3, .int .i64 t4]), (30, .agg #[.int .i64 t5, .int .i64 t6]), (31, .tuple #[.agg #[.int .i64 t7, .int .i64 t8], .bool true]), (5, .pointer (some ⟨s_, 0, none⟩)), (26, .tuple #[.agg #[.int .i64 t7, .int .i64 t8], .bool true]), (32, .agg #[.int .i64 t7, .int .i64 t8]), (33, .bool true)]) (fun s_ w' => (w'.cell? ⟨g1, 0, none⟩ = some (.int .i64 a0_0) ∧ w'.cell? ⟨g1, 1, none⟩ = some (.int .i64 a0_1) ∧ w'.cell? ⟨g1, 2, none⟩ = some (.int .i64 a0_2) ∧ w'.cell? ⟨g1, 3, none⟩ = some (.int .i64 a0_3) ∧ w'.cell? ⟨g2, 0, none⟩ = some (.int .i64 a1_0) ∧ w'.cell? ⟨g2, 1, none⟩ = some (.int .i64 a1_1) ∧ w'.cell? ⟨g2, 2, none⟩ = some (.int .i64 a1_2) ∧ w'.cell? ⟨g2, 3, none⟩ = some (.int .i64 a1_3)) ∧ (w'.heap[g1]? = some (.cells #[.int .i64 a0_0, .int .i64 a0_1, .int .i64 a0_2, .int .i64 a0_3] 24 (0, 0))) ∧ (w'.heap[g2]? = some (.cells #[.int .i64 a1_0, .int .i64 a1_1, .int .i64 a1_2, .int .i64 a1_3] 24 (0, 0))) ∧ (w'.heap[g3]? = some (.cells #[.int .i64 0, .int .i64 0, .int .i64 0, .int .i64 0] 24 (0, 0))) ∧ (w'.heap[s_]? = some (.cells #[.int .i64 0, .int .i64 0] 39 (0, 0))) ∧ (w.heap.size ≤ s_) ∧ (w.heap.size ≤ s_) ∧ (g1 ≠ s_) ∧ (s_ ≠ g1) ∧ (g2 ≠ s_) ∧ (s_ ≠ g2) ∧ (g3 ≠ s_) ∧ (s_ ≠ g3) ∧ (Below w.heap.size w w')) ?_ ?_
   rotate_left
   ·intro hCont
    refine two_ (i := 1) (j := 8) (Ni := some 28) (Nj := some 5) (lb 11 7) (lb 11 261) rfl rfl rfl rfl (two_of HT_.out (by kernel_rfl)) (by decide) (by decide) (fun K hK => ?_) (fun K hK => ?_)
    rotate_left
    ·skip
     refine box_step ?hg (N := 5) ?hd (cs := #[.int .i64 0, .int .i64 0]) (t := 39) ?hr ?_; (case hd => rfl); (case hg => rfl); (case hr => first | (go_simp; done) | (go_simp; rfl))
     intro g4 hg w6 hbox hb
     have K4 := am (hbox)
     have G4 := am (bs hg (YA HB))
     have G5 := am (bs hg (YA HB))
     obtain ⟨N7,N8⟩ := ne_ hg K1
     obtain ⟨N9,N10⟩ := ne_ hg K2
     obtain ⟨N11,N12⟩ := ne_ hg K3
     obtain ⟨K1, K2, K3, HB⟩ := bk3 K1 K2 K3 HB hb
     clear hb hbox hg
     refine kk hK ⟨bc K1 0, bc K1 1, bc K1 2, bc K1 3, bc K2 0, bc K2 1, bc K2 2, bc K2 3⟩ fun hHeld => ?_
     clear hK K
     refine cl4 1 28 263 Try.func13 (spec_l10Rest.calls _ _ _ _ _ _ _ A1.out) K1 K2 K3 K4 HB fun w7 K1 K2 K3 K4 HB hHeld => ?_
     refine cl4 3 30 271 Try.func13 (spec_l10Rest.calls _ _ _ _ _ _ _ A2.out) K1 K2 K3 K4 HB fun w8 K1 K2 K3 K4 HB hHeld => ?_
     refine cl4 4 31 287 Try.func35 (spec_RestMeet.calls _ _ _ _ _ _ _ _ _ A3.out) K1 K2 K3 K4 HB fun w9 K1 K2 K3 K4 HB hHeld => ?_
     refine pk 5 26 319 ?_
     refine pk 6 32 383 ?_
     refine pk 7 33 511 ?_
     exact norm_ nz (hCont (g4) _ ⟨hHeld, (Z K1), (Z K2), (Z K3), (Z K4), G4.out, G5.out, N7.out, N8.out, N9.out, N10.out, N11.out, N12.out, (YA HB)⟩)
    skip
    refine ck3 hK Try.func13 (spec_l10Rest.calls _ _ _ _ _ _ _ A1.out) K1 K2 K3 HB fun w6 K1 K2 K3 HB hHeld => ?_
    clear hK K
    refine two_ (i := 3) (j := 8) (Ni := some 30) (Nj := some 5) (lb 11 15) (lb 11 263) rfl rfl rfl rfl (two_of HT_.out (by kernel_rfl)) (by decide) (by decide) (fun K hK => ?_) (fun K hK => ?_)
    rotate_left
    ·skip
     refine box_step ?hg (N := 5) ?hd (cs := #[.int .i64 0, .int .i64 0]) (t := 39) ?hr ?_; (case hd => rfl); (case hg => rfl); (case hr => first | (go_simp; done) | (go_simp; rfl))
     intro g4 hg w7 hbox hb
     have K4 := am (hbox)
     have G4 := am (bs hg (YA HB))
     have G5 := am (bs hg (YA HB))
     obtain ⟨N7,N8⟩ := ne_ hg K1
     obtain ⟨N9,N10⟩ := ne_ hg K2
     obtain ⟨N11,N12⟩ := ne_ hg K3
     obtain ⟨K1, K2, K3, HB⟩ := bk3 K1 K2 K3 HB hb
     clear hb hbox hg
     refine kk hK ⟨bc K1 0, bc K1 1, bc K1 2, bc K1 3, bc K2 0, bc K2 1, bc K2 2, bc K2 3⟩ fun hHeld => ?_
     clear hK K
     refine cl4 3 30 271 Try.func13 (spec_l10Rest.calls _ _ _ _ _ _ _ A2.out) K1 K2 K3 K4 HB fun w8 K1 K2 K3 K4 HB hHeld => ?_
     refine cl4 4 31 287 Try.func35 (spec_RestMeet.calls _ _ _ _ _ _ _ _ _ A3.out) K1 K2 K3 K4 HB fun w9 K1 K2 K3 K4 HB hHeld => ?_
     refine pk 5 26 319 ?_
     refine pk 6 32 383 ?_
     refine pk 7 33 511 ?_
     exact norm_ nz (hCont (g4) _ ⟨hHeld, (Z K1), (Z K2), (Z K3), (Z K4), G4.out, G5.out, N7.out, N8.out, N9.out, N10.out, N11.out, N12.out, (YA HB)⟩)
    skip
    refine ck3 hK Try.func13 (spec_l10Rest.calls _ _ _ _ _ _ _ A2.out) K1 K2 K3 HB fun w7 K1 K2 K3 HB hHeld => ?_
    clear hK K
    refine two_ (i := 4) (j := 8) (Ni := some 31) (Nj := some 5) (lb 11 31) (lb 11 271) rfl rfl rfl rfl (two_of HT_.out (by kernel_rfl)) (by decide) (by decide) (fun K hK => ?_) (fun K hK => ?_)
    ·skip
     refine ck3 hK Try.func35 (spec_RestMeet.calls _ _ _ _ _ _ _ _ _ A3.out) K1 K2 K3 HB fun w8 K1 K2 K3 HB hHeld => ?_
     clear hK K
     refine pk 5 26 63 ?_
     refine pk 6 32 127 ?_
     refine pk 7 33 255 ?_
     refine on 8 (some 5) 511 fun K hK => ?_
     refine box_step ?hg (N := 5) ?hd (cs := #[.int .i64 0, .int .i64 0]) (t := 39) ?hr ?_; (case hd => rfl); (case hg => rfl); (case hr => first | (go_simp; done) | (go_simp; rfl))
     intro g4 hg w9 hbox hb
     have K4 := am (hbox)
     have G4 := am (bs hg (YA HB))
     have G5 := am (bs hg (YA HB))
     obtain ⟨N7,N8⟩ := ne_ hg K1
     obtain ⟨N9,N10⟩ := ne_ hg K2
     obtain ⟨N11,N12⟩ := ne_ hg K3
     obtain ⟨K1, K2, K3, HB⟩ := bk3 K1 K2 K3 HB hb
     clear hb hbox hg
     refine kk hK ⟨bc K1 0, bc K1 1, bc K1 2, bc K1 3, bc K2 0, bc K2 1, bc K2 2, bc K2 3⟩ fun hHeld => ?_
     clear hK K
     exact norm_ nz (hCont (g4) _ ⟨hHeld, (Z K1), (Z K2), (Z K3), (Z K4), G4.out, G5.out, N7.out, N8.out, N9.out, N10.out, N11.out, N12.out, (YA HB)⟩)
    skip
    refine box_step ?hg (N := 5) ?hd (cs := #[.int .i64 0, .int .i64 0]) (t := 39) ?hr ?_; (case hd => rfl); (case hg => rfl); (case hr => first | (go_simp; done) | (go_simp; rfl))
    intro g4 hg w8 hbox hb
    have K4 := am (hbox)
    have G4 := am (bs hg (YA HB))
    have G5 := am (bs hg (YA HB))
    obtain ⟨N7,N8⟩ := ne_ hg K1
    obtain ⟨N9,N10⟩ := ne_ hg K2
    obtain ⟨N11,N12⟩ := ne_ hg K3
    obtain ⟨K1, K2, K3, HB⟩ := bk3 K1 K2 K3 HB hb
    clear hb hbox hg
    refine kk hK ⟨bc K1 0, bc K1 1, bc K1 2, bc K1 3, bc K2 0, bc K2 1, bc K2 2, bc K2 3⟩ fun hHeld => ?_
    clear hK K
    refine cl4 4 31 287 Try.func35 (spec_RestMeet.calls _ _ _ _ _ _ _ _ _ A3.out) K1 K2 K3 K4 HB fun w9 K1 K2 K3 K4 HB hHeld => ?_
    refine pk 5 26 319 ?_
    refine pk 6 32 383 ?_
    refine pk 7 33 511 ?_
    exact norm_ nz (hCont (g4) _ ⟨hHeld, (Z K1), (Z K2), (Z K3), (Z K4), G4.out, G5.out, N7.out, N8.out, N9.out, N10.out, N11.out, N12.out, (YA HB)⟩)
   rintro g4 w6 ⟨hS_, h0_, h1_, h2_, h3_, h4_, h5_, h6_, h7_, h8_, h9_, h10_, h11_, h12_⟩
   have K4 : Bx2 w6 g4 0 0 39 := ⟨h3_⟩
   have G4 : Aside0 (w.heap.size ≤ g4) := ⟨h4_⟩
   have G5 : Aside0 (w.heap.size ≤ g4) := ⟨h5_⟩
   have N7 : Aside0 (g1 ≠ g4) := ⟨h6_⟩
   have N8 : Aside0 (g4 ≠ g1) := ⟨h7_⟩
   have N9 : Aside0 (g2 ≠ g4) := ⟨h8_⟩
   have N10 : Aside0 (g4 ≠ g2) := ⟨h9_⟩
   have N11 : Aside0 (g3 ≠ g4) := ⟨h10_⟩
   have N12 : Aside0 (g4 ≠ g3) := ⟨h11_⟩
   replace K1 : Bx4 w6 g1 a0_0 a0_1 a0_2 a0_3 24 := ⟨h0_⟩
   replace K2 : Bx4 w6 g2 a1_0 a1_1 a1_2 a1_3 24 := ⟨h1_⟩
   replace K3 : Bx4 w6 g3 0 0 0 0 24 := ⟨h2_⟩
   replace HB : Aside0 (Below w.heap.size w w6) := ⟨h12_⟩
   clear h0_ h1_ h2_ h3_ h4_ h5_ h6_ h7_ h8_ h9_ h10_ h11_ h12_
   have hHeld : w6.cell? ⟨g1, 0, none⟩ = some (.int .i64 a0_0) ∧ w6.cell? ⟨g1, 1, none⟩ = some (.int .i64 a0_1) ∧ w6.cell? ⟨g1, 2, none⟩ = some (.int .i64 a0_2) ∧ w6.cell? ⟨g1, 3, none⟩ = some (.int .i64 a0_3) ∧ w6.cell? ⟨g2, 0, none⟩ = some (.int .i64 a1_0) ∧ w6.cell? ⟨g2, 1, none⟩ = some (.int .i64 a1_1) ∧ w6.cell? ⟨g2, 2, none⟩ = some (.int .i64 a1_2) ∧ w6.cell? ⟨g2, 3, none⟩ = some (.int .i64 a1_3) := hS_
   refine norm_ (a' := ?_) ?_ ?_
   rotate_left
   ·simp only [putAll, Act.put, List.setIfInBounds_toArray, List.set_cons_zero, List.set_cons_succ]
    rfl
   refine on 9 none 1023 fun K hK => ?_
   have s1 : w6.cell? ⟨g4, 0, none⟩ = some (.int .i64 0) := bc K4 0
   have hfs48 := blk_frozen K4.out 0
   have z_ := ns6 N7 N9 N11 N8 N10 N12
   have s2 : w6.cell? ⟨g4, 1, none⟩ = some (.int .i64 0) := bc K4 1
   have hfs49 := blk_frozen K4.out 1
   have z_ := ns6 N7 N9 N11 N8 N10 N12
   refine skip_ (w1 := ?_) (by rfl) rfl ?_ ?_
   rotate_left
   ·go_simp
    rfl
   refine hK.out _ _ ⟨(cf N7 ((cf N7 (hHeld.1)))), (cf N7 ((cf N7 (hHeld.2.1)))), (cf N7 ((cf N7 (hHeld.2.2.1)))), (cf N7 ((cf N7 (hHeld.2.2.2.1)))), (cf N9 ((cf N9 (hHeld.2.2.2.2.1)))), (cf N9 ((cf N9 (hHeld.2.2.2.2.2.1)))), (cf N9 ((cf N9 (hHeld.2.2.2.2.2.2.1)))), (cf N9 ((cf N9 (hHeld.2.2.2.2.2.2.2))))⟩ (fun hHeld => ?_)
   clear hK K
   refine pk 10 6 2047 ?_
   refine done_ (done_of HT_.out (by kernel_rfl)) ?_
   try go_wp2
   have n0_ : Aside0 (((w6.setCell ⟨g4, 0, none⟩ (.int .i64 t7)).setCell ⟨g4, 1, none⟩ (.int .i64 t8)).heap[g1]? = some (.cells #[.int .i64 a0_0, .int .i64 a0_1, .int .i64 a0_2, .int .i64 a0_3] 24 (0, 0))) := ⟨by refine fa N7 ?_; refine fa N7 ?_; exact Z K1⟩
   have n1_ : Aside0 (((w6.setCell ⟨g4, 0, none⟩ (.int .i64 t7)).setCell ⟨g4, 1, none⟩ (.int .i64 t8)).heap[g2]? = some (.cells #[.int .i64 a1_0, .int .i64 a1_1, .int .i64 a1_2, .int .i64 a1_3] 24 (0, 0))) := ⟨by refine fa N9 ?_; refine fa N9 ?_; exact Z K2⟩
   have n2_ : Aside0 (((w6.setCell ⟨g4, 0, none⟩ (.int .i64 t7)).setCell ⟨g4, 1, none⟩ (.int .i64 t8)).heap[g3]? = some (.cells #[.int .i64 0, .int .i64 0, .int .i64 0, .int .i64 0] 24 (0, 0))) := ⟨by refine fa N11 ?_; refine fa N11 ?_; exact Z K3⟩
   have n3_ : Aside0 (((w6.setCell ⟨g4, 0, none⟩ (.int .i64 t7)).setCell ⟨g4, 1, none⟩ (.int .i64 t8)).heap[g4]? = some (.cells #[.int .i64 t7, .int .i64 t8] 39 (0, 0))) := ⟨by refine pf ?_; refine blk_put (cs := #[.int .i64 t7, .int .i64 0]) ?_ 1 _ rfl; refine pf ?_; refine blk_put (cs := #[.int .i64 0, .int .i64 0]) ?_ 0 _ rfl; exact Z K4⟩
   have n4_ : Aside0 (Below w.heap.size w ((w6.setCell ⟨g4, 0, none⟩ (.int .i64 t7)).setCell ⟨g4, 1, none⟩ (.int .i64 t8))) := ⟨YA HB⟩
   (try clear K1)
   (try clear K2)
   (try clear K3)
   (try clear K4)
   (try clear HB)
   generalize ((w6.setCell ⟨g4, 0, none⟩ (.int .i64 t7)).setCell ⟨g4, 1, none⟩ (.int .i64 t8)) = w7 at n0_ n1_ n2_ n3_ n4_ ⊢
   have K1 := n0_
   have K2 := n1_
   have K3 := n2_
   have K4 := n3_
   have HB := n4_
   clear n0_ n1_ n2_ n3_ n4_
   obtain ⟨K1, K2, K3, K4, HB⟩ := dk4 K1 K2 K3 K4 HB
   refine start_ (n := 8) (S := fun w' => w'.cell? ⟨g1, 0, none⟩ = some (.int .i64 a0_0) ∧ w'.cell? ⟨g1, 1, none⟩ = some (.int .i64 a0_1) ∧ w'.cell? ⟨g1, 2, none⟩ = some (.int .i64 a0_2) ∧ w'.cell? ⟨g1, 3, none⟩ = some (.int .i64 a0_3) ∧ w'.cell? ⟨g2, 0, none⟩ = some (.int .i64 a1_0) ∧ w'.cell? ⟨g2, 1, none⟩ = some (.int .i64 a1_1) ∧ w'.cell? ⟨g2, 2, none⟩ = some (.int .i64 a1_2) ∧ w'.cell? ⟨g2, 3, none⟩ = some (.int .i64 a1_3) ∧ w'.cell? ⟨g4, 0, none⟩ = some (.int .i64 t7) ∧ w'.cell? ⟨g4, 1, none⟩ = some (.int .i64 t8)) (ds := []) (lb 8 0) (by kernel_rfl) rfl rfl ⟨bc K1 0, bc K1 1, bc K1 2, bc K1 3, bc K2 0, bc K2 1, bc K2 2, bc K2 3, bc K4 0, bc K4 1⟩ (fun hHeld => ?_); refine with_tabW spec_ValMeet.tab6 spec_ValMeet.bits6 (fun HT_ HW_ => ?_)
   generalize w7.drew = w8 at K1 K2 K3 K4 HB hHeld ⊢
   refine tk 0 37 1 hHeld ?_
   refine tk 2 39 5 hHeld ?_
   refine tk 5 42 37 hHeld ?_
   refine cl4 1 38 39 Try.func11 (spec_l10Range.calls _ _ _ _ _ _ _ A4.out) K1 K2 K3 K4 HB fun w9 K1 K2 K3 K4 HB hHeld => ?_
   refine cl4 3 40 47 Try.func11 (spec_l10Range.calls _ _ _ _ _ _ _ A5.out) K1 K2 K3 K4 HB fun w10 K1 K2 K3 K4 HB hHeld => ?_
   refine cl4 4 41 63 Try.func26 (spec_RangeMeet.calls _ _ _ _ _ _ _ _ A6.out) K1 K2 K3 K4 HB fun w11 K1 K2 K3 K4 HB hHeld => ?_
   refine cl4 6 43 127 Try.func12 (spec_ValMake.calls _ _ _ _ _ _ _ _ _ _ A7.out) K1 K2 K3 K4 HB fun w12 K1 K2 K3 K4 HB hHeld => ?_
   refine on 7 none 255 fun K hK => ?_
   have s3 : w12.cell? ⟨g3, 0, none⟩ = some (.int .i64 0) := bc K3 0
   have hfs56 := blk_frozen K3.out 0
   have z_ := ns6 N3 N5 N12 N4 N6 N11
   have s4 : w12.cell? ⟨g3, 1, none⟩ = some (.int .i64 0) := bc K3 1
   have hfs57 := blk_frozen K3.out 1
   have z_ := ns6 N3 N5 N12 N4 N6 N11
   have s5 : w12.cell? ⟨g3, 2, none⟩ = some (.int .i64 0) := bc K3 2
   have hfs58 := blk_frozen K3.out 2
   have z_ := ns6 N3 N5 N12 N4 N6 N11
   have s6 : w12.cell? ⟨g3, 3, none⟩ = some (.int .i64 0) := bc K3 3
   have hfs59 := blk_frozen K3.out 3
   have z_ := ns6 N3 N5 N12 N4 N6 N11
   refine skip_ (w1 := ?_) (by rfl) rfl ?_ ?_
   rotate_left
   ·go_simp
    rfl
   refine hK.out _ _ ⟨(cf N3 ((cf N3 ((cf N3 ((cf N3 (hHeld.1)))))))), (cf N3 ((cf N3 ((cf N3 ((cf N3 (hHeld.2.1)))))))), (cf N3 ((cf N3 ((cf N3 ((cf N3 (hHeld.2.2.1)))))))), (cf N3 ((cf N3 ((cf N3 ((cf N3 (hHeld.2.2.2.1)))))))), (cf N5 ((cf N5 ((cf N5 ((cf N5 (hHeld.2.2.2.2.1)))))))), (cf N5 ((cf N5 ((cf N5 ((cf N5 (hHeld.2.2.2.2.2.1)))))))), (cf N5 ((cf N5 ((cf N5 ((cf N5 (hHeld.2.2.2.2.2.2.1)))))))), (cf N5 ((cf N5 ((cf N5 ((cf N5 (hHeld.2.2.2.2.2.2.2.1)))))))), (cf N12 ((cf N12 ((cf N12 ((cf N12 (hHeld.2.2.2.2.2.2.2.2.1)))))))), (cf N12 ((cf N12 ((cf N12 ((cf N12 (hHeld.2.2.2.2.2.2.2.2.2))))))))⟩ (fun hHeld => ?_)
   clear hK K
   refine done_ (done_of HT_.out (by kernel_rfl)) ?_
   try go_wp2
   refine bodyPost_ret (results_cell_row rfl _ _ g3 24 #[.int .i64 t16, .int .i64 t17, .int .i64 t18, .int .i64 t19] (0, 0) _ rfl (by refine pf ?_; refine blk_put (cs := #[.int .i64 t16, .int .i64 t17, .int .i64 t18, .int .i64 0]) ?_ 3 _ rfl; refine pf ?_; refine blk_put (cs := #[.int .i64 t16, .int .i64 t17, .int .i64 0, .int .i64 0]) ?_ 2 _ rfl; refine pf ?_; refine blk_put (cs := #[.int .i64 t16, .int .i64 0, .int .i64 0, .int .i64 0]) ?_ 1 _ rfl; refine pf ?_; refine blk_put (cs := #[.int .i64 0, .int .i64 0, .int .i64 0, .int .i64 0]) ?_ 0 _ rfl; exact Z K3) Try.underlying24 rfl (by kernel_rfl)) rfl ?_
   exact ⟨ez, YA HB⟩
end
end Go.Proofs.Ytdmadlfdibiejaa.PFnExactValCmp
