/- Written by this session's own driver (wip/dprint.py): the functions that the law FnExactValCmp reaches, as Lean functions, each with its contract. -/
import Derived.Test.YtdmadlfdibiejaaPFnExactValCmpx0
import Derived.Test.YtdmadlfdibiejaaPFnExactValCmpx1
import Derived.Test.YtdmadlfdibiejaaPFnExactValCmpx2
import Derived.Test.YtdmadlfdibiejaaPFnExactValCmpx3
import Derived.Test.YtdmadlfdibiejaaSv
namespace Go.Proofs.Ytdmadlfdibiejaa.PFnExactValCmp
open Go.RowKit Go.Proofs.YtdmadlfdibiejaaV.PrintWords Go.Proofs.YtdmadlfdibiejaaV.PrintLast Go.Proofs.YtdmadlfdibiejaaV.PrintMore Go.Proofs.YtdmadlfdibiejaaSv
set_option linter.unusedVariables false
set_option linter.unusedSimpArgs false
section
attribute [local go_sem] max2_int min2_int max_two min_two max_three min_three max_four min_four
attribute [local go_sem high] eqA24
attribute [local go_sem] Go.Proofs.YtdmadlfdibiejaaSet.isSome_setCell
mutual
def spec_ValCmp.j0 : Nat → Int → Bool → Int → Int → Int → Int → Int → Int → Int → Int → Option (Int × Int × Int × Int × Int × Int × Int × Int)
 | 0, _, _, _, _, _, _, _, _, _, _ => none
 | k + 1, x1, x2, x3, x4, x5, x6, x7, x8, x9, x10 => if x2 = true then ((spec_l10None.f).bind fun u1 => ((spec_l10None.f).bind fun u2 => (some (u1.1, u1.2.1, u1.2.2.1, u1.2.2.2, u2.1, u2.2.1, u2.2.2.1, u2.2.2.2)))) else ((spec_l10Range.f x3 x4 x5 x6).bind fun u3 => ((spec_l10Range.f x7 x8 x9 x10).bind fun u4 => ((spec_RangeCmp.f k x1 u3.1 u3.2 u4.1 u4.2).bind fun u5 => ((spec_l10Rest.f x3 x4 x5 x6).bind fun u6 => ((spec_ValMake.f k u5.1 u5.2.1 u6.1 u6.2).bind fun u7 => ((spec_l10Rest.f x7 x8 x9 x10).bind fun u8 => ((spec_ValMake.f k u5.2.2.1 u5.2.2.2 u8.1 u8.2).bind fun u9 => (if x1 = 1 then ((spec_ValMeet.f k u7.1 u7.2.1 u7.2.2.1 u7.2.2.2 u9.1 u9.2.1 u9.2.2.1 u9.2.2.2).bind fun u10 => (spec_ValCmp.j1 k u10.1 u10.2.1 u10.2.2.1 u10.2.2.2 u10.1 u10.2.1 u10.2.2.1 u10.2.2.2)) else (spec_ValCmp.j1 k u7.1 u7.2.1 u7.2.2.1 u7.2.2.2 u9.1 u9.2.1 u9.2.2.1 u9.2.2.2)))))))))
def spec_ValCmp.j1 : Nat → Int → Int → Int → Int → Int → Int → Int → Int → Option (Int × Int × Int × Int × Int × Int × Int × Int)
 | 0, _, _, _, _, _, _, _, _ => none
 | k + 1, x1, x2, x3, x4, x5, x6, x7, x8 => (spec_l10None.f).bind fun u1 => (if (x1 == u1.1 && (x2 == u1.2.1 && (x3 == u1.2.2.1 && (x4 == u1.2.2.2)))) = true then (spec_ValCmp.j2 k true x1 x2 x3 x4 x5 x6 x7 x8) else ((spec_l10None.f).bind fun u2 => (spec_ValCmp.j2 k (x5 == u2.1 && (x6 == u2.2.1 && (x7 == u2.2.2.1 && (x8 == u2.2.2.2)))) x1 x2 x3 x4 x5 x6 x7 x8)))
def spec_ValCmp.j2 : Nat → Bool → Int → Int → Int → Int → Int → Int → Int → Int → Option (Int × Int × Int × Int × Int × Int × Int × Int)
 | 0, _, _, _, _, _, _, _, _, _ => none
 | k + 1, x1, x2, x3, x4, x5, x6, x7, x8, x9 => if x1 = true then ((spec_l10None.f).bind fun u1 => ((spec_l10None.f).bind fun u2 => (some (u1.1, u1.2.1, u1.2.2.1, u1.2.2.2, u2.1, u2.2.1, u2.2.2.1, u2.2.2.2)))) else (some (x2, x3, x4, x5, x6, x7, x8, x9))
end
def spec_ValCmp.f (k : Nat) (a0 : Int) (a1_0 : Int) (a1_1 : Int) (a1_2 : Int) (a1_3 : Int) (a2_0 : Int) (a2_1 : Int) (a2_2 : Int) (a2_3 : Int) : Option (Int × Int × Int × Int × Int × Int × Int × Int) := (spec_ValOk.f k a1_0 a1_1 a1_2 a1_3).bind fun t1 => (if t1 = true then ((spec_ValOk.f k a2_0 a2_1 a2_2 a2_3).bind fun t2 => (if t2 = true then ((spec_l10None.f).bind fun u1 => (if (a1_0 == u1.1 && (a1_1 == u1.2.1 && (a1_2 == u1.2.2.1 && (a1_3 == u1.2.2.2)))) = true then (spec_ValCmp.j0 k a0 true a1_0 a1_1 a1_2 a1_3 a2_0 a2_1 a2_2 a2_3) else ((spec_l10None.f).bind fun u2 => (spec_ValCmp.j0 k a0 (a2_0 == u2.1 && (a2_1 == u2.2.1 && (a2_2 == u2.2.2.1 && (a2_3 == u2.2.2.2)))) a1_0 a1_1 a1_2 a1_3 a2_0 a2_1 a2_2 a2_3)))) else (spec_ValCmp.j0 k a0 true a1_0 a1_1 a1_2 a1_3 a2_0 a2_1 a2_2 a2_3))) else (spec_ValCmp.j0 k a0 true a1_0 a1_1 a1_2 a1_3 a2_0 a2_1 a2_2 a2_3))
theorem spec_ValCmp.mono_l : ∀ k, (∀ y0 y1 y2 y3 y4 y5 y6 y7 y8 y9, LeO (spec_ValCmp.j0 k y0 y1 y2 y3 y4 y5 y6 y7 y8 y9) (spec_ValCmp.j0 (k + 1) y0 y1 y2 y3 y4 y5 y6 y7 y8 y9)) ∧ (∀ y0 y1 y2 y3 y4 y5 y6 y7, LeO (spec_ValCmp.j1 k y0 y1 y2 y3 y4 y5 y6 y7) (spec_ValCmp.j1 (k + 1) y0 y1 y2 y3 y4 y5 y6 y7)) ∧ (∀ y0 y1 y2 y3 y4 y5 y6 y7 y8, LeO (spec_ValCmp.j2 k y0 y1 y2 y3 y4 y5 y6 y7 y8) (spec_ValCmp.j2 (k + 1) y0 y1 y2 y3 y4 y5 y6 y7 y8))
 | 0 => ⟨fun _ _ _ _ _ _ _ _ _ _ r h => by simp [spec_ValCmp.j0] at h, fun _ _ _ _ _ _ _ _ r h => by simp [spec_ValCmp.j1] at h, fun _ _ _ _ _ _ _ _ _ r h => by simp [spec_ValCmp.j2] at h⟩
 | k + 1 => by
  obtain ⟨ih0, ih1, ih2⟩ := spec_ValCmp.mono_l k
  refine ⟨?_, ?_, ?_⟩ <;> (intros; (first | unfold spec_ValCmp.j0 | unfold spec_ValCmp.j1 | unfold spec_ValCmp.j2); repeat' first | (with_reducible first | apply ih0 | apply ih1 | apply ih2 | apply spec_RangeCmp.mono | apply spec_ValMake.mono | apply spec_ValMeet.mono | apply spec_ValOk.mono | apply LeO.refl | apply LeO.none | refine LeO.ite ?_ ?_ | refine LeO.bind ?_ (fun _ => ?_)) | apply ih0 | apply ih1 | apply ih2 | apply spec_RangeCmp.mono | apply spec_ValMake.mono | apply spec_ValMeet.mono | apply spec_ValOk.mono | apply LeO.none | refine LeO.ite ?_ ?_ | refine LeO.bind ?_ (fun _ => ?_))
theorem spec_ValCmp.mono : ∀ a0 a1 a2 a3 a4 a5 a6 a7 a8 k, LeO (spec_ValCmp.f k a0 a1 a2 a3 a4 a5 a6 a7 a8) (spec_ValCmp.f (k + 1) a0 a1 a2 a3 a4 a5 a6 a7 a8) := by
 intro a0 a1 a2 a3 a4 a5 a6 a7 a8 k
 obtain ⟨ih0, ih1, ih2⟩ := spec_ValCmp.mono_l k
 unfold spec_ValCmp.f
 repeat' first | (with_reducible first | apply ih0 | apply ih1 | apply ih2 | apply spec_RangeCmp.mono | apply spec_ValMake.mono | apply spec_ValMeet.mono | apply spec_ValOk.mono | apply LeO.refl | apply LeO.none | refine LeO.ite ?_ ?_ | refine LeO.bind ?_ (fun _ => ?_)) | apply ih0 | apply ih1 | apply ih2 | apply spec_RangeCmp.mono | apply spec_ValMake.mono | apply spec_ValMeet.mono | apply spec_ValOk.mono | apply LeO.none | refine LeO.ite ?_ ?_ | refine LeO.bind ?_ (fun _ => ?_)
def spec_ValCmp.T1 : Bool × List (List Nat × List Nat) := (true, [([], []), ([0], [0]), ([1], [1]), ([2, 1], [2]), ([3], [3]), ([4, 3, 3], [3, 4]), ([5, 3], [3, 5]), ([3, 6], [3, 6]), ([7, 5], [7]), ([8], [8]), ([8, 8], [8]), ([9, 10, 8], [8, 9, 10]), ([8, 11], [8, 11]), ([12, 10], [12]), ([13], [13]), ([13, 13], [13]), ([14, 15, 13], [13, 14, 15]), ([13, 16], [13, 16])])
def spec_ValCmp.B1 : List Nat := [0, 1, 3, 7, 15, 31, 63, 127, 255, 511, 511, 2047, 4095, 8191, 16383, 16383, 65535, 131071]
theorem spec_ValCmp.tab1 : rtab .any (opsOf Try.f4 1) = spec_ValCmp.T1 := by kernel_rfl
theorem spec_ValCmp.bits1 : waitsOk spec_ValCmp.T1.2 spec_ValCmp.B1 = true := by kernel_rfl
def spec_ValCmp.T3 : Bool × List (List Nat × List Nat) := (true, [([], []), ([], []), ([1], [1]), ([], []), ([3, 2], [3]), ([0, 2, 4, 4], [0, 2, 4]), ([5], [5]), ([6], [6]), ([6], [6]), ([], []), ([], []), ([9, 7, 5, 0, 1, 2, 3, 4, 5, 6, 7, 9, 10], [7, 9]), ([10, 8, 11, 0, 1, 2, 3, 4, 5, 6, 7, 8, 9, 10, 11], [8, 10])])
def spec_ValCmp.B3 : List Nat := [0, 0, 2, 0, 14, 31, 63, 127, 127, 0, 0, 1791, 4095]
theorem spec_ValCmp.tab3 : rtab .any (opsOf Try.f4 3) = spec_ValCmp.T3 := by kernel_rfl
theorem spec_ValCmp.bits3 : waitsOk spec_ValCmp.T3.2 spec_ValCmp.B3 = true := by kernel_rfl
def spec_ValCmp.T9 : Bool × List (List Nat × List Nat) := (true, [([], []), ([], []), ([0, 1], [0, 1]), ([2, 1], [2]), ([3], [3]), ([3, 3], [3]), ([4, 5, 3], [3, 4, 5]), ([3, 6], [3, 6])])
def spec_ValCmp.B9 : List Nat := [0, 0, 3, 7, 15, 15, 63, 127]
theorem spec_ValCmp.tab9 : rtab .any (opsOf Try.f4 9) = spec_ValCmp.T9 := by kernel_rfl
theorem spec_ValCmp.bits9 : waitsOk spec_ValCmp.T9.2 spec_ValCmp.B9 = true := by kernel_rfl
set_option maxHeartbeats 8000000 in
set_option maxRecDepth 100000 in
theorem spec_ValCmp.calls (k : Nat) (a0 : Int) (a1_0 : Int) (a1_1 : Int) (a1_2 : Int) (a1_3 : Int) (a2_0 : Int) (a2_1 : Int) (a2_2 : Int) (a2_3 : Int) (r1 : Int) (r2 : Int) (r3 : Int) (r4 : Int) (r5 : Int) (r6 : Int) (r7 : Int) (r8 : Int) (w : World) (h : spec_ValCmp.f k a0 a1_0 a1_1 a1_2 a1_3 a2_0 a2_1 a2_2 a2_3 = some (r1, r2, r3, r4, r5, r6, r7, r8)) :
  Calls Try.prog 4 #[.int .i64 a0, .agg #[.int .i64 a1_0, .int .i64 a1_1, .int .i64 a1_2, .int .i64 a1_3], .agg #[.int .i64 a2_0, .int .i64 a2_1, .int .i64 a2_2, .int .i64 a2_3]] w fun e w' => e = .returned (.tuple #[.agg #[.int .i64 r1, .int .i64 r2, .int .i64 r3, .int .i64 r4], .agg #[.int .i64 r5, .int .i64 r6, .int .i64 r7, .int .i64 r8]]) ∧ Below w.heap.size w w' := by
 have hu24 := Try.underlying24
 have hu33 := Try.underlying33
 have HB := am (Below.refl w.heap.size w)
 have H : ((spec_ValOk.f k a1_0 a1_1 a1_2 a1_3).bind fun t1 => (if t1 = true then ((spec_ValOk.f k a2_0 a2_1 a2_2 a2_3).bind fun t2 => (if t2 = true then ((spec_l10None.f).bind fun u1 => (if (a1_0 == u1.1 && (a1_1 == u1.2.1 && (a1_2 == u1.2.2.1 && (a1_3 == u1.2.2.2)))) = true then (spec_ValCmp.j0 k a0 true a1_0 a1_1 a1_2 a1_3 a2_0 a2_1 a2_2 a2_3) else ((spec_l10None.f).bind fun u2 => (spec_ValCmp.j0 k a0 (a2_0 == u2.1 && (a2_1 == u2.2.1 && (a2_2 == u2.2.2.1 && (a2_3 == u2.2.2.2)))) a1_0 a1_1 a1_2 a1_3 a2_0 a2_1 a2_2 a2_3)))) else (spec_ValCmp.j0 k a0 true a1_0 a1_1 a1_2 a1_3 a2_0 a2_1 a2_2 a2_3))) else (spec_ValCmp.j0 k a0 true a1_0 a1_1 a1_2 a1_3 a2_0 a2_1 a2_2 a2_3))) = some (r1, r2, r3, r4, r5, r6, r7, r8) := h
 clear h
 have C1 := am H
 clear H
 go_enter Try.func4, Try.ntmps4
 go_upto_region 1 with (first | ((with_reducible refine gate_dst (N := 4) rfl ?_); refine bxn 4 #[.int .i64 a1_0, .int .i64 a1_1, .int .i64 a1_2, .int .i64 a1_3] 24 HB fun g1 w2 K1 G1 hg hb => ?_; replace HB := am (below_step (YA HB) hb); clear hb hg) | ((with_reducible refine gate_dst (N := 5) rfl ?_); refine bxn 5 #[.int .i64 a2_0, .int .i64 a2_1, .int .i64 a2_2, .int .i64 a2_3] 24 HB fun g2 w3 K2 G2 hg hb => ?_; obtain ⟨N1,N2⟩ := ne_ hg K1; obtain ⟨K1, HB⟩ := bk1 K1 HB hb; clear hb hg) | ((with_reducible refine gate_dst (N := 6) rfl ?_); refine bxn 6 #[.int .i64 0, .int .i64 0, .int .i64 0, .int .i64 0] 24 HB fun g3 w4 K3 G3 hg hb => ?_; obtain ⟨N3,N4⟩ := ne_ hg K1; obtain ⟨N5,N6⟩ := ne_ hg K2; obtain ⟨K1, K2, HB⟩ := bk2 K1 K2 HB hb; clear hb hg) | ((with_reducible refine gate_dst (N := 7) rfl ?_); refine bxn 7 #[.int .i64 0, .int .i64 0, .int .i64 0, .int .i64 0] 24 HB fun g4 w5 K4 G4 hg hb => ?_; obtain ⟨N7,N8⟩ := ne_ hg K1; obtain ⟨N9,N10⟩ := ne_ hg K2; obtain ⟨N11,N12⟩ := ne_ hg K3; obtain ⟨K1, K2, K3, HB⟩ := bk3 K1 K2 K3 HB hb; clear hb hg))
 (try simp only [Act.put, List.setIfInBounds_toArray, List.set_cons_zero, List.set_cons_succ])
 go_cut [29] (fun v1 wc => ∃ (kq : Nat) (x1 : Bool), v1 = .bool x1 ∧ Aside0 (spec_ValCmp.j0 kq a0 x1 a1_0 a1_1 a1_2 a1_3 a2_0 a2_1 a2_2 a2_3 = some (r1, r2, r3, r4, r5, r6, r7, r8)) ∧ Aside0 (kq ≤ k) ∧ Bx4 wc g1 a1_0 a1_1 a1_2 a1_3 24 ∧ Bx4 wc g2 a2_0 a2_1 a2_2 a2_3 24 ∧ Bx4 wc g3 0 0 0 0 24 ∧ Bx4 wc g4 0 0 0 0 24 ∧ Aside0 (Below w.heap.size w wc))
 case first =>
  have H := C1.out
  clear C1
  obtain ⟨t1, A1, H⟩ := bd H
  try dsimp only at H
  by_cases c1 : t1 = true
  rotate_left
  ·replace c1 := Bool.eq_false_iff.mpr c1
   subst c1
   rw [if_neg ff] at H
   have H' := am H
   clear H
   try go_wp2
   obtain ⟨K1, K2, K3, K4, HB⟩ := dk4 K1 K2 K3 K4 HB
   refine start_ (n := 18) (S := fun w' => w'.cell? ⟨g1, 0, none⟩ = some (.int .i64 a1_0) ∧ w'.cell? ⟨g1, 1, none⟩ = some (.int .i64 a1_1) ∧ w'.cell? ⟨g1, 2, none⟩ = some (.int .i64 a1_2) ∧ w'.cell? ⟨g1, 3, none⟩ = some (.int .i64 a1_3)) (ds := []) (lb 18 0) (by kernel_rfl) rfl rfl ⟨bc K1 0, bc K1 1, bc K1 2, bc K1 3⟩ (fun hHeld => ?_); refine with_tabW spec_ValCmp.tab1 spec_ValCmp.bits1 (fun HT_ HW_ => ?_)
   generalize w5.drew = w6 at K1 K2 K3 K4 HB hHeld ⊢
   refine tk 0 12 1 hHeld ?_
   refine cl4 1 13 3 Try.func8 (spec_ValOk.calls _ _ _ _ _ _ _ A1.out) K1 K2 K3 K4 HB fun w7 K1 K2 K3 K4 HB hHeld => ?_
   refine pk 2 14 7 ?_
   refine pk 3 15 15 ?_
   refine uk 4 16 31 ?_
   refine uk 5 17 63 ?_
   refine uk 6 18 127 ?_
   refine pk 7 19 255 ?_
   refine pk 8 20 511 ?_
   refine uk 9 21 1023 ?_
   refine uk 10 22 2047 ?_
   refine uk 11 23 4095 ?_
   refine pk 12 24 8191 ?_
   refine pk 13 25 16383 ?_
   refine uk 14 26 32767 ?_
   refine uk 15 27 65535 ?_
   refine uk 16 28 131071 ?_
   refine pk 17 29 262143 ?_
   refine done_ (done_of HT_.out (by kernel_rfl)) ?_
   try go_wp2
   go_meet
   case rel => exact ⟨_, (true), ey, H', le0, ⟨Z K1⟩, ⟨Z K2⟩, ⟨Z K3⟩, ⟨Z K4⟩, ⟨YA HB⟩⟩
  subst c1
  rw [if_pos rfl] at H
  obtain ⟨t2, A2, H⟩ := bd H
  try dsimp only at H
  by_cases c2 : t2 = true
  rotate_left
  ·replace c2 := Bool.eq_false_iff.mpr c2
   subst c2
   rw [if_neg ff] at H
   have H' := am H
   clear H
   try go_wp2
   obtain ⟨K1, K2, K3, K4, HB⟩ := dk4 K1 K2 K3 K4 HB
   refine start_ (n := 18) (S := fun w' => w'.cell? ⟨g1, 0, none⟩ = some (.int .i64 a1_0) ∧ w'.cell? ⟨g1, 1, none⟩ = some (.int .i64 a1_1) ∧ w'.cell? ⟨g1, 2, none⟩ = some (.int .i64 a1_2) ∧ w'.cell? ⟨g1, 3, none⟩ = some (.int .i64 a1_3) ∧ w'.cell? ⟨g2, 0, none⟩ = some (.int .i64 a2_0) ∧ w'.cell? ⟨g2, 1, none⟩ = some (.int .i64 a2_1) ∧ w'.cell? ⟨g2, 2, none⟩ = some (.int .i64 a2_2) ∧ w'.cell? ⟨g2, 3, none⟩ = some (.int .i64 a2_3)) (ds := []) (lb 18 0) (by kernel_rfl) rfl rfl ⟨bc K1 0, bc K1 1, bc K1 2, bc K1 3, bc K2 0, bc K2 1, bc K2 2, bc K2 3⟩ (fun hHeld => ?_); refine with_tabW spec_ValCmp.tab1 spec_ValCmp.bits1 (fun HT_ HW_ => ?_)
   generalize w5.drew = w6 at K1 K2 K3 K4 HB hHeld ⊢
   refine tk 0 12 1 hHeld ?_
   refine cl4 1 13 3 Try.func8 (spec_ValOk.calls _ _ _ _ _ _ _ A1.out) K1 K2 K3 K4 HB fun w7 K1 K2 K3 K4 HB hHeld => ?_
   refine pk 2 14 7 ?_
   refine pk 3 15 15 ?_
   refine tk 4 16 31 hHeld ?_
   refine cl4 5 17 63 Try.func8 (spec_ValOk.calls _ _ _ _ _ _ _ A2.out) K1 K2 K3 K4 HB fun w8 K1 K2 K3 K4 HB hHeld => ?_
   refine pk 6 18 127 ?_
   refine pk 7 19 255 ?_
   refine pk 8 20 511 ?_
   refine uk 9 21 1023 ?_
   refine uk 10 22 2047 ?_
   refine uk 11 23 4095 ?_
   refine pk 12 24 8191 ?_
   refine pk 13 25 16383 ?_
   refine uk 14 26 32767 ?_
   refine uk 15 27 65535 ?_
   refine uk 16 28 131071 ?_
   refine pk 17 29 262143 ?_
   refine done_ (done_of HT_.out (by kernel_rfl)) ?_
   try go_wp2
   go_meet
   case rel => exact ⟨_, (true), ey, H', le0, ⟨Z K1⟩, ⟨Z K2⟩, ⟨Z K3⟩, ⟨Z K4⟩, ⟨YA HB⟩⟩
  subst c2
  rw [if_pos rfl] at H
  obtain ⟨⟨t3, t4, t5, t6⟩, A3, H⟩ := bd H
  try dsimp only at H
  by_cases c3 : (a1_0 == t3 && (a1_1 == t4 && (a1_2 == t5 && (a1_3 == t6)))) = true
  ·rw [if_pos c3] at H
   have d1 : (a1_0 == t3 && (a1_1 == t4 && (a1_2 == t5 && (a1_3 == t6)))) = true := c3
   (try (have d2 : decide (a1_0 = t3 && (a1_1 == t4 && (a1_2 == t5 && (a1_3 == t6)))) = true := by simpa using c3))
   (try (have d3 : (a1_0 == t3 && (a1_1 == t4 && (a1_2 == t5 && (a1_3 == t6)))) = true := by simpa using c3))
   clear c3
   (first | rw [d1] | (simp only [i64_w, i32_w]; rw [d1]) | skip)
   have H' := am H
   clear H
   try go_wp2
   obtain ⟨K1, K2, K3, K4, HB⟩ := dk4 K1 K2 K3 K4 HB
   refine start_ (n := 18) (S := fun w' => w'.cell? ⟨g1, 0, none⟩ = some (.int .i64 a1_0) ∧ w'.cell? ⟨g1, 1, none⟩ = some (.int .i64 a1_1) ∧ w'.cell? ⟨g1, 2, none⟩ = some (.int .i64 a1_2) ∧ w'.cell? ⟨g1, 3, none⟩ = some (.int .i64 a1_3) ∧ w'.cell? ⟨g2, 0, none⟩ = some (.int .i64 a2_0) ∧ w'.cell? ⟨g2, 1, none⟩ = some (.int .i64 a2_1) ∧ w'.cell? ⟨g2, 2, none⟩ = some (.int .i64 a2_2) ∧ w'.cell? ⟨g2, 3, none⟩ = some (.int .i64 a2_3)) (ds := []) (lb 18 0) (by kernel_rfl) rfl rfl ⟨bc K1 0, bc K1 1, bc K1 2, bc K1 3, bc K2 0, bc K2 1, bc K2 2, bc K2 3⟩ (fun hHeld => ?_); refine with_tabW spec_ValCmp.tab1 spec_ValCmp.bits1 (fun HT_ HW_ => ?_)
   generalize w5.drew = w6 at K1 K2 K3 K4 HB hHeld ⊢
   refine tk 0 12 1 hHeld ?_
   refine cl4 1 13 3 Try.func8 (spec_ValOk.calls _ _ _ _ _ _ _ A1.out) K1 K2 K3 K4 HB fun w7 K1 K2 K3 K4 HB hHeld => ?_
   refine pk 2 14 7 ?_
   refine pk 3 15 15 ?_
   refine tk 4 16 31 hHeld ?_
   refine cl4 5 17 63 Try.func8 (spec_ValOk.calls _ _ _ _ _ _ _ A2.out) K1 K2 K3 K4 HB fun w8 K1 K2 K3 K4 HB hHeld => ?_
   refine pk 6 18 127 ?_
   refine pk 7 19 255 ?_
   refine pk 8 20 511 ?_
   refine tk 9 21 1023 hHeld ?_
   refine cl4 10 22 2047 Try.func9 (spec_l10None.calls _ _ _ _ _ A3.out) K1 K2 K3 K4 HB fun w9 K1 K2 K3 K4 HB hHeld => ?_
   refine pk 11 23 4095 ?_
   refine pk 12 24 8191 ?_
   refine pk 13 25 16383 ?_
   refine uk 14 26 32767 ?_
   refine uk 15 27 65535 ?_
   refine uk 16 28 131071 ?_
   refine pk 17 29 262143 ?_
   refine done_ (done_of HT_.out (by kernel_rfl)) ?_
   try go_wp2
   go_meet
   case rel => exact ⟨_, (true), ey, H', le0, ⟨Z K1⟩, ⟨Z K2⟩, ⟨Z K3⟩, ⟨Z K4⟩, ⟨YA HB⟩⟩
  rw [if_neg c3] at H
  have d1 : (a1_0 == t3 && (a1_1 == t4 && (a1_2 == t5 && (a1_3 == t6)))) = false := by simpa using c3
  (try (have d2 : decide (a1_0 = t3 && (a1_1 == t4 && (a1_2 == t5 && (a1_3 == t6)))) = false := by simpa using c3))
  (try (have d3 : (a1_0 == t3 && (a1_1 == t4 && (a1_2 == t5 && (a1_3 == t6)))) = false := by simpa using c3))
  (try (have d4 : ¬ (a1_0 = t3 && (a1_1 == t4 && (a1_2 == t5 && (a1_3 == t6)))) := by simpa using c3))
  clear c3
  (first | rw [d1] | (simp only [i64_w, i32_w]; rw [d1]) | skip)
  obtain ⟨⟨t7, t8, t9, t10⟩, A4, H⟩ := bd H
  try dsimp only at H
  have H' := am H
  clear H
  try go_wp2
  obtain ⟨K1, K2, K3, K4, HB⟩ := dk4 K1 K2 K3 K4 HB
  refine start_ (n := 18) (S := fun w' => w'.cell? ⟨g1, 0, none⟩ = some (.int .i64 a1_0) ∧ w'.cell? ⟨g1, 1, none⟩ = some (.int .i64 a1_1) ∧ w'.cell? ⟨g1, 2, none⟩ = some (.int .i64 a1_2) ∧ w'.cell? ⟨g1, 3, none⟩ = some (.int .i64 a1_3) ∧ w'.cell? ⟨g2, 0, none⟩ = some (.int .i64 a2_0) ∧ w'.cell? ⟨g2, 1, none⟩ = some (.int .i64 a2_1) ∧ w'.cell? ⟨g2, 2, none⟩ = some (.int .i64 a2_2) ∧ w'.cell? ⟨g2, 3, none⟩ = some (.int .i64 a2_3)) (ds := []) (lb 18 0) (by kernel_rfl) rfl rfl ⟨bc K1 0, bc K1 1, bc K1 2, bc K1 3, bc K2 0, bc K2 1, bc K2 2, bc K2 3⟩ (fun hHeld => ?_); refine with_tabW spec_ValCmp.tab1 spec_ValCmp.bits1 (fun HT_ HW_ => ?_)
  generalize w5.drew = w6 at K1 K2 K3 K4 HB hHeld ⊢
  refine tk 0 12 1 hHeld ?_
  refine cl4 1 13 3 Try.func8 (spec_ValOk.calls _ _ _ _ _ _ _ A1.out) K1 K2 K3 K4 HB fun w7 K1 K2 K3 K4 HB hHeld => ?_
  refine pk 2 14 7 ?_
  refine pk 3 15 15 ?_
  refine tk 4 16 31 hHeld ?_
  refine cl4 5 17 63 Try.func8 (spec_ValOk.calls _ _ _ _ _ _ _ A2.out) K1 K2 K3 K4 HB fun w8 K1 K2 K3 K4 HB hHeld => ?_
  refine pk 6 18 127 ?_
  refine pk 7 19 255 ?_
  refine pk 8 20 511 ?_
  refine tk 9 21 1023 hHeld ?_
  refine cl4 10 22 2047 Try.func9 (spec_l10None.calls _ _ _ _ _ A3.out) K1 K2 K3 K4 HB fun w9 K1 K2 K3 K4 HB hHeld => ?_
  refine pk 11 23 4095 ?_
  refine pk 12 24 8191 ?_
  refine pk 13 25 16383 ?_
  refine tk 14 26 32767 hHeld ?_
  refine cl4 15 27 65535 Try.func9 (spec_l10None.calls _ _ _ _ _ A4.out) K1 K2 K3 K4 HB fun w10 K1 K2 K3 K4 HB hHeld => ?_
  refine pk 16 28 131071 ?_
  refine pk 17 29 262143 ?_
  refine done_ (done_of HT_.out (by kernel_rfl)) ?_
  try go_wp2
  go_meet
  case rel => exact ⟨_, ((a2_0 == t7 && (a2_1 == t8 && (a2_2 == t9 && (a2_3 == t10))))), ey, H', le0, ⟨Z K1⟩, ⟨Z K2⟩, ⟨Z K3⟩, ⟨Z K4⟩, ⟨YA HB⟩⟩
 case rest =>
  clear C1
  obtain ⟨kq, x1, rfl, HA, J1, K1, K2, K3, K4, HB⟩ := hcut
  cases kq with
  | zero => exact absurd HA.out (by simp [spec_ValCmp.j0])
  | succ k1 =>
   have H := HA.out
   clear HA
   simp only [spec_ValCmp.j0] at H
   by_cases c1 : x1 = true
   ·subst c1
    rw [if_pos rfl] at H
    obtain ⟨⟨t3, t4, t5, t6⟩, A1, H⟩ := bd H
    try dsimp only at H
    obtain ⟨⟨t7, t8, t9, t10⟩, A2, H⟩ := bd H
    try dsimp only at H
    simp only [Option.some.injEq, Prod.mk.injEq] at H
    obtain ⟨rfl, rfl, rfl, rfl, rfl, rfl, rfl, rfl⟩ := H
    go_wp2_with (first | ((with_reducible refine gate_callee (f := 9) rfl ?_); refine gL 30 Try.func9 (spec_l10None.calls _ _ _ _ _ A1.out) fun w6 hb => ?_; obtain ⟨K1, K2, K3, K4, HB⟩ := bk4 K1 K2 K3 K4 HB hb; (try clear hb)) | ((with_reducible refine gate_callee (f := 9) rfl ?_); refine gL 31 Try.func9 (spec_l10None.calls _ _ _ _ _ A2.out) fun w7 hb => ?_; obtain ⟨K1, K2, K3, K4, HB⟩ := bk4 K1 K2 K3 K4 HB hb; (try clear hb); have z_ := ns5 N4 N6 N11 N8 N10; have z_ := cB4 K3; have z_ := cB4 K4))
    refine bodyPost_ret (results_cc rfl _ _ g3 g4 24 24 #[.int .i64 t3, .int .i64 t4, .int .i64 t5, .int .i64 t6] #[.int .i64 t7, .int .i64 t8, .int .i64 t9, .int .i64 t10] (0, 0) (0, 0) _ _ rfl (by refine fa N11 ?_; refine fa N11 ?_; refine fa N11 ?_; refine fa N11 ?_; refine pf ?_; refine blk_put (cs := #[.int .i64 t3, .int .i64 t4, .int .i64 t5, .int .i64 0]) ?_ 3 _ rfl; refine pf ?_; refine blk_put (cs := #[.int .i64 t3, .int .i64 t4, .int .i64 0, .int .i64 0]) ?_ 2 _ rfl; refine pf ?_; refine blk_put (cs := #[.int .i64 t3, .int .i64 0, .int .i64 0, .int .i64 0]) ?_ 1 _ rfl; refine pf ?_; refine blk_put (cs := #[.int .i64 0, .int .i64 0, .int .i64 0, .int .i64 0]) ?_ 0 _ rfl; exact Z K3) Try.underlying24 rfl (by kernel_rfl) rfl (by refine pf ?_; refine blk_put (cs := #[.int .i64 t7, .int .i64 t8, .int .i64 t9, .int .i64 0]) ?_ 3 _ rfl; refine pf ?_; refine blk_put (cs := #[.int .i64 t7, .int .i64 t8, .int .i64 0, .int .i64 0]) ?_ 2 _ rfl; refine pf ?_; refine blk_put (cs := #[.int .i64 t7, .int .i64 0, .int .i64 0, .int .i64 0]) ?_ 1 _ rfl; refine pf ?_; refine blk_put (cs := #[.int .i64 0, .int .i64 0, .int .i64 0, .int .i64 0]) ?_ 0 _ rfl; refine fa N12 ?_; refine fa N12 ?_; refine fa N12 ?_; refine fa N12 ?_; exact Z K4) Try.underlying24 rfl (by kernel_rfl)) rfl ?_
    exact ⟨ez, YA HB⟩
   replace c1 := Bool.eq_false_iff.mpr c1
   subst c1
   rw [if_neg ff] at H
   obtain ⟨⟨t3, t4⟩, A1, H⟩ := bd H
   try dsimp only at H
   obtain ⟨⟨t5, t6⟩, A2, H⟩ := bd H
   try dsimp only at H
   obtain ⟨⟨t7, t8, t9, t10⟩, A3, H⟩ := bd H
   try dsimp only at H
   obtain ⟨⟨t11, t12⟩, A4, H⟩ := bd H
   try dsimp only at H
   obtain ⟨⟨t13, t14, t15, t16⟩, A5, H⟩ := bd H
   try dsimp only at H
   obtain ⟨⟨t17, t18⟩, A6, H⟩ := bd H
   try dsimp only at H
   obtain ⟨⟨t19, t20, t21, t22⟩, A7, H⟩ := bd H
   try dsimp only at H
   have C2 := am H
   clear H
   try go_wp2
   obtain ⟨K1, K2, K3, K4, HB⟩ := dk4 K1 K2 K3 K4 HB
   refine start_ (n := 13) (S := fun w' => w'.cell? ⟨g1, 0, none⟩ = some (.int .i64 a1_0) ∧ w'.cell? ⟨g1, 1, none⟩ = some (.int .i64 a1_1) ∧ w'.cell? ⟨g1, 2, none⟩ = some (.int .i64 a1_2) ∧ w'.cell? ⟨g1, 3, none⟩ = some (.int .i64 a1_3) ∧ w'.cell? ⟨g2, 0, none⟩ = some (.int .i64 a2_0) ∧ w'.cell? ⟨g2, 1, none⟩ = some (.int .i64 a2_1) ∧ w'.cell? ⟨g2, 2, none⟩ = some (.int .i64 a2_2) ∧ w'.cell? ⟨g2, 3, none⟩ = some (.int .i64 a2_3)) (ds := []) (lb 13 0) (by kernel_rfl) rfl rfl ⟨bc K1 0, bc K1 1, bc K1 2, bc K1 3, bc K2 0, bc K2 1, bc K2 2, bc K2 3⟩ (fun hHeld => ?_); refine with_tabW spec_ValCmp.tab3 spec_ValCmp.bits3 (fun HT_ HW_ => ?_)
   generalize wc.drew = w6 at K1 K2 K3 K4 HB hHeld ⊢
   refine pk 0 33 1 ?_
   refine tk 1 34 3 hHeld ?_
   refine tk 3 36 11 hHeld ?_
   refine join_ (σ := Nat × Nat) 2 (lb 13 2047) (fun s_ => [(35, .agg #[.int .i64 t3, .int .i64 t4]), (37, .agg #[.int .i64 t5, .int .i64 t6]), (38, .tuple #[.agg #[.int .i64 t7, .int .i64 t8], .agg #[.int .i64 t9, .int .i64 t10]]), (8, .pointer (some ⟨s_.1, 0, none⟩)), (9, .pointer (some ⟨s_.2, 0, none⟩)), (32, .tuple #[.agg #[.int .i64 t7, .int .i64 t8], .agg #[.int .i64 t9, .int .i64 t10]]), (39, .agg #[.int .i64 t7, .int .i64 t8]), (40, .agg #[.int .i64 t9, .int .i64 t10])]) (fun s_ w' => (w'.cell? ⟨g1, 0, none⟩ = some (.int .i64 a1_0) ∧ w'.cell? ⟨g1, 1, none⟩ = some (.int .i64 a1_1) ∧ w'.cell? ⟨g1, 2, none⟩ = some (.int .i64 a1_2) ∧ w'.cell? ⟨g1, 3, none⟩ = some (.int .i64 a1_3) ∧ w'.cell? ⟨g2, 0, none⟩ = some (.int .i64 a2_0) ∧ w'.cell? ⟨g2, 1, none⟩ = some (.int .i64 a2_1) ∧ w'.cell? ⟨g2, 2, none⟩ = some (.int .i64 a2_2) ∧ w'.cell? ⟨g2, 3, none⟩ = some (.int .i64 a2_3)) ∧ (w'.heap[g1]? = some (.cells #[.int .i64 a1_0, .int .i64 a1_1, .int .i64 a1_2, .int .i64 a1_3] 24 (0, 0))) ∧ (w'.heap[g2]? = some (.cells #[.int .i64 a2_0, .int .i64 a2_1, .int .i64 a2_2, .int .i64 a2_3] 24 (0, 0))) ∧ (w'.heap[g3]? = some (.cells #[.int .i64 0, .int .i64 0, .int .i64 0, .int .i64 0] 24 (0, 0))) ∧ (w'.heap[g4]? = some (.cells #[.int .i64 0, .int .i64 0, .int .i64 0, .int .i64 0] 24 (0, 0))) ∧ (w'.heap[s_.1]? = some (.cells #[.int .i64 0, .int .i64 0] 33 (0, 0))) ∧ (w'.heap[s_.2]? = some (.cells #[.int .i64 0, .int .i64 0] 33 (0, 0))) ∧ (w.heap.size ≤ s_.1) ∧ (w.heap.size ≤ s_.1) ∧ (g1 ≠ s_.1) ∧ (s_.1 ≠ g1) ∧ (g2 ≠ s_.1) ∧ (s_.1 ≠ g2) ∧ (g3 ≠ s_.1) ∧ (s_.1 ≠ g3) ∧ (g4 ≠ s_.1) ∧ (s_.1 ≠ g4) ∧ (s_.2 ≠ s_.1) ∧ (s_.1 ≠ s_.2) ∧ (w.heap.size ≤ s_.2) ∧ (w.heap.size ≤ s_.2) ∧ (g1 ≠ s_.2) ∧ (s_.2 ≠ g1) ∧ (g2 ≠ s_.2) ∧ (s_.2 ≠ g2) ∧ (g3 ≠ s_.2) ∧ (s_.2 ≠ g3) ∧ (g4 ≠ s_.2) ∧ (s_.2 ≠ g4) ∧ (Below w.heap.size w w')) ?_ ?_
   rotate_left
   ·intro hJ2_4_5_9_10
    refine join_ (σ := Nat) 3 (lb 13 1023) (fun s_ => [(35, .agg #[.int .i64 t3, .int .i64 t4]), (37, .agg #[.int .i64 t5, .int .i64 t6]), (38, .tuple #[.agg #[.int .i64 t7, .int .i64 t8], .agg #[.int .i64 t9, .int .i64 t10]]), (8, .pointer (some ⟨s_, 0, none⟩)), (32, .tuple #[.agg #[.int .i64 t7, .int .i64 t8], .agg #[.int .i64 t9, .int .i64 t10]]), (39, .agg #[.int .i64 t7, .int .i64 t8]), (40, .agg #[.int .i64 t9, .int .i64 t10])]) (fun s_ w' => (w'.cell? ⟨g1, 0, none⟩ = some (.int .i64 a1_0) ∧ w'.cell? ⟨g1, 1, none⟩ = some (.int .i64 a1_1) ∧ w'.cell? ⟨g1, 2, none⟩ = some (.int .i64 a1_2) ∧ w'.cell? ⟨g1, 3, none⟩ = some (.int .i64 a1_3) ∧ w'.cell? ⟨g2, 0, none⟩ = some (.int .i64 a2_0) ∧ w'.cell? ⟨g2, 1, none⟩ = some (.int .i64 a2_1) ∧ w'.cell? ⟨g2, 2, none⟩ = some (.int .i64 a2_2) ∧ w'.cell? ⟨g2, 3, none⟩ = some (.int .i64 a2_3)) ∧ (w'.heap[g1]? = some (.cells #[.int .i64 a1_0, .int .i64 a1_1, .int .i64 a1_2, .int .i64 a1_3] 24 (0, 0))) ∧ (w'.heap[g2]? = some (.cells #[.int .i64 a2_0, .int .i64 a2_1, .int .i64 a2_2, .int .i64 a2_3] 24 (0, 0))) ∧ (w'.heap[g3]? = some (.cells #[.int .i64 0, .int .i64 0, .int .i64 0, .int .i64 0] 24 (0, 0))) ∧ (w'.heap[g4]? = some (.cells #[.int .i64 0, .int .i64 0, .int .i64 0, .int .i64 0] 24 (0, 0))) ∧ (w'.heap[s_]? = some (.cells #[.int .i64 0, .int .i64 0] 33 (0, 0))) ∧ (w.heap.size ≤ s_) ∧ (w.heap.size ≤ s_) ∧ (g1 ≠ s_) ∧ (s_ ≠ g1) ∧ (g2 ≠ s_) ∧ (s_ ≠ g2) ∧ (g3 ≠ s_) ∧ (s_ ≠ g3) ∧ (g4 ≠ s_) ∧ (s_ ≠ g4) ∧ (Below w.heap.size w w')) ?_ ?_
    rotate_left
    rotate_left
    ·skip
     rintro g5 w7 ⟨hS_, h0_, h1_, h2_, h3_, h4_, h5_, h6_, h7_, h8_, h9_, h10_, h11_, h12_, h13_, h14_, h15_⟩
     have K5 : Bx2 w7 g5 0 0 33 := ⟨h4_⟩
     have G5 : Aside0 (w.heap.size ≤ g5) := ⟨h5_⟩
     have G6 : Aside0 (w.heap.size ≤ g5) := ⟨h6_⟩
     have N13 : Aside0 (g1 ≠ g5) := ⟨h7_⟩
     have N14 : Aside0 (g5 ≠ g1) := ⟨h8_⟩
     have N15 : Aside0 (g2 ≠ g5) := ⟨h9_⟩
     have N16 : Aside0 (g5 ≠ g2) := ⟨h10_⟩
     have N17 : Aside0 (g3 ≠ g5) := ⟨h11_⟩
     have N18 : Aside0 (g5 ≠ g3) := ⟨h12_⟩
     have N19 : Aside0 (g4 ≠ g5) := ⟨h13_⟩
     have N20 : Aside0 (g5 ≠ g4) := ⟨h14_⟩
     replace K1 : Bx4 w7 g1 a1_0 a1_1 a1_2 a1_3 24 := ⟨h0_⟩
     replace K2 : Bx4 w7 g2 a2_0 a2_1 a2_2 a2_3 24 := ⟨h1_⟩
     replace K3 : Bx4 w7 g3 0 0 0 0 24 := ⟨h2_⟩
     replace K4 : Bx4 w7 g4 0 0 0 0 24 := ⟨h3_⟩
     replace HB : Aside0 (Below w.heap.size w w7) := ⟨h15_⟩
     clear h0_ h1_ h2_ h3_ h4_ h5_ h6_ h7_ h8_ h9_ h10_ h11_ h12_ h13_ h14_ h15_
     have hHeld : w7.cell? ⟨g1, 0, none⟩ = some (.int .i64 a1_0) ∧ w7.cell? ⟨g1, 1, none⟩ = some (.int .i64 a1_1) ∧ w7.cell? ⟨g1, 2, none⟩ = some (.int .i64 a1_2) ∧ w7.cell? ⟨g1, 3, none⟩ = some (.int .i64 a1_3) ∧ w7.cell? ⟨g2, 0, none⟩ = some (.int .i64 a2_0) ∧ w7.cell? ⟨g2, 1, none⟩ = some (.int .i64 a2_1) ∧ w7.cell? ⟨g2, 2, none⟩ = some (.int .i64 a2_2) ∧ w7.cell? ⟨g2, 3, none⟩ = some (.int .i64 a2_3) := hS_
     refine norm_ (a' := ?_) ?_ ?_
     rotate_left
     ·simp only [putAll, Act.put, List.setIfInBounds_toArray, List.set_cons_zero, List.set_cons_succ]
      rfl
     refine on 10 (some 9) 2047 fun K hK => ?_
     refine box_step ?hg (N := 9) ?hd (cs := #[.int .i64 0, .int .i64 0]) (t := 33) ?hr ?_; (case hd => rfl); (case hg => rfl); (case hr => first | (go_simp; done) | (go_simp; rfl))
     intro g6 hg w8 hbox hb
     have K6 := am (hbox)
     have G7 := am (bs hg (YA HB))
     have G8 := am (bs hg (YA HB))
     obtain ⟨N21,N22⟩ := ne_ hg K1
     obtain ⟨N23,N24⟩ := ne_ hg K2
     obtain ⟨N25,N26⟩ := ne_ hg K3
     obtain ⟨N27,N28⟩ := ne_ hg K4
     obtain ⟨N29,N30⟩ := ne_ hg K5
     obtain ⟨K1, K2, K3, K4, K5, HB⟩ := bk5 K1 K2 K3 K4 K5 HB hb
     clear hb hbox hg
     refine kk hK ⟨bc K1 0, bc K1 1, bc K1 2, bc K1 3, bc K2 0, bc K2 1, bc K2 2, bc K2 3⟩ fun hHeld => ?_
     clear hK K
     exact norm_ nz (hJ2_4_5_9_10 (g5, g6) _ ⟨hHeld, (Z K1), (Z K2), (Z K3), (Z K4), (Z K5), (Z K6), G5.out, G6.out, N13.out, N14.out, N15.out, N16.out, N17.out, N18.out, N19.out, N20.out, N30.out, N29.out, G7.out, G8.out, N21.out, N22.out, N23.out, N24.out, N25.out, N26.out, N27.out, N28.out, (YA HB)⟩)
    intro hJ2_4_5_9
    refine join_ (σ := Nat) 3 (lb 13 1535) (fun s_ => [(35, .agg #[.int .i64 t3, .int .i64 t4]), (37, .agg #[.int .i64 t5, .int .i64 t6]), (38, .tuple #[.agg #[.int .i64 t7, .int .i64 t8], .agg #[.int .i64 t9, .int .i64 t10]]), (9, .pointer (some ⟨s_, 0, none⟩)), (32, .tuple #[.agg #[.int .i64 t7, .int .i64 t8], .agg #[.int .i64 t9, .int .i64 t10]]), (39, .agg #[.int .i64 t7, .int .i64 t8]), (40, .agg #[.int .i64 t9, .int .i64 t10])]) (fun s_ w' => (w'.cell? ⟨g1, 0, none⟩ = some (.int .i64 a1_0) ∧ w'.cell? ⟨g1, 1, none⟩ = some (.int .i64 a1_1) ∧ w'.cell? ⟨g1, 2, none⟩ = some (.int .i64 a1_2) ∧ w'.cell? ⟨g1, 3, none⟩ = some (.int .i64 a1_3) ∧ w'.cell? ⟨g2, 0, none⟩ = some (.int .i64 a2_0) ∧ w'.cell? ⟨g2, 1, none⟩ = some (.int .i64 a2_1) ∧ w'.cell? ⟨g2, 2, none⟩ = some (.int .i64 a2_2) ∧ w'.cell? ⟨g2, 3, none⟩ = some (.int .i64 a2_3)) ∧ (w'.heap[g1]? = some (.cells #[.int .i64 a1_0, .int .i64 a1_1, .int .i64 a1_2, .int .i64 a1_3] 24 (0, 0))) ∧ (w'.heap[g2]? = some (.cells #[.int .i64 a2_0, .int .i64 a2_1, .int .i64 a2_2, .int .i64 a2_3] 24 (0, 0))) ∧ (w'.heap[g3]? = some (.cells #[.int .i64 0, .int .i64 0, .int .i64 0, .int .i64 0] 24 (0, 0))) ∧ (w'.heap[g4]? = some (.cells #[.int .i64 0, .int .i64 0, .int .i64 0, .int .i64 0] 24 (0, 0))) ∧ (w'.heap[s_]? = some (.cells #[.int .i64 0, .int .i64 0] 33 (0, 0))) ∧ (w.heap.size ≤ s_) ∧ (w.heap.size ≤ s_) ∧ (g1 ≠ s_) ∧ (s_ ≠ g1) ∧ (g2 ≠ s_) ∧ (s_ ≠ g2) ∧ (g3 ≠ s_) ∧ (s_ ≠ g3) ∧ (g4 ≠ s_) ∧ (s_ ≠ g4) ∧ (Below w.heap.size w w')) ?_ ?_
    rotate_left
    rotate_left
    ·skip
     rintro g5 w7 ⟨hS_, h0_, h1_, h2_, h3_, h4_, h5_, h6_, h7_, h8_, h9_, h10_, h11_, h12_, h13_, h14_, h15_⟩
     have K5 : Bx2 w7 g5 0 0 33 := ⟨h4_⟩
     have G5 : Aside0 (w.heap.size ≤ g5) := ⟨h5_⟩
     have G6 : Aside0 (w.heap.size ≤ g5) := ⟨h6_⟩
     have N13 : Aside0 (g1 ≠ g5) := ⟨h7_⟩
     have N14 : Aside0 (g5 ≠ g1) := ⟨h8_⟩
     have N15 : Aside0 (g2 ≠ g5) := ⟨h9_⟩
     have N16 : Aside0 (g5 ≠ g2) := ⟨h10_⟩
     have N17 : Aside0 (g3 ≠ g5) := ⟨h11_⟩
     have N18 : Aside0 (g5 ≠ g3) := ⟨h12_⟩
     have N19 : Aside0 (g4 ≠ g5) := ⟨h13_⟩
     have N20 : Aside0 (g5 ≠ g4) := ⟨h14_⟩
     replace K1 : Bx4 w7 g1 a1_0 a1_1 a1_2 a1_3 24 := ⟨h0_⟩
     replace K2 : Bx4 w7 g2 a2_0 a2_1 a2_2 a2_3 24 := ⟨h1_⟩
     replace K3 : Bx4 w7 g3 0 0 0 0 24 := ⟨h2_⟩
     replace K4 : Bx4 w7 g4 0 0 0 0 24 := ⟨h3_⟩
     replace HB : Aside0 (Below w.heap.size w w7) := ⟨h15_⟩
     clear h0_ h1_ h2_ h3_ h4_ h5_ h6_ h7_ h8_ h9_ h10_ h11_ h12_ h13_ h14_ h15_
     have hHeld : w7.cell? ⟨g1, 0, none⟩ = some (.int .i64 a1_0) ∧ w7.cell? ⟨g1, 1, none⟩ = some (.int .i64 a1_1) ∧ w7.cell? ⟨g1, 2, none⟩ = some (.int .i64 a1_2) ∧ w7.cell? ⟨g1, 3, none⟩ = some (.int .i64 a1_3) ∧ w7.cell? ⟨g2, 0, none⟩ = some (.int .i64 a2_0) ∧ w7.cell? ⟨g2, 1, none⟩ = some (.int .i64 a2_1) ∧ w7.cell? ⟨g2, 2, none⟩ = some (.int .i64 a2_2) ∧ w7.cell? ⟨g2, 3, none⟩ = some (.int .i64 a2_3) := hS_
     refine norm_ (a' := ?_) ?_ ?_
     rotate_left
     ·simp only [putAll, Act.put, List.setIfInBounds_toArray, List.set_cons_zero, List.set_cons_succ]
      rfl
     refine on 9 (some 8) 2047 fun K hK => ?_
     refine box_step ?hg (N := 8) ?hd (cs := #[.int .i64 0, .int .i64 0]) (t := 33) ?hr ?_; (case hd => rfl); (case hg => rfl); (case hr => first | (go_simp; done) | (go_simp; rfl))
     intro g6 hg w8 hbox hb
     have K6 := am (hbox)
     have G7 := am (bs hg (YA HB))
     have G8 := am (bs hg (YA HB))
     obtain ⟨N21,N22⟩ := ne_ hg K1
     obtain ⟨N23,N24⟩ := ne_ hg K2
     obtain ⟨N25,N26⟩ := ne_ hg K3
     obtain ⟨N27,N28⟩ := ne_ hg K4
     obtain ⟨N29,N30⟩ := ne_ hg K5
     obtain ⟨K1, K2, K3, K4, K5, HB⟩ := bk5 K1 K2 K3 K4 K5 HB hb
     clear hb hbox hg
     refine kk hK ⟨bc K1 0, bc K1 1, bc K1 2, bc K1 3, bc K2 0, bc K2 1, bc K2 2, bc K2 3⟩ fun hHeld => ?_
     clear hK K
     exact norm_ nz (hJ2_4_5_9_10 (g6, g5) _ ⟨hHeld, (Z K1), (Z K2), (Z K3), (Z K4), (Z K6), (Z K5), G7.out, G8.out, N21.out, N22.out, N23.out, N24.out, N25.out, N26.out, N27.out, N28.out, N29.out, N30.out, G5.out, G6.out, N13.out, N14.out, N15.out, N16.out, N17.out, N18.out, N19.out, N20.out, (YA HB)⟩)
    intro hJ2_4_5_10
    refine join_ (σ := Nat × Nat) 6 (lb 13 1567) (fun s_ => [(35, .agg #[.int .i64 t3, .int .i64 t4]), (37, .agg #[.int .i64 t5, .int .i64 t6]), (8, .pointer (some ⟨s_.1, 0, none⟩)), (9, .pointer (some ⟨s_.2, 0, none⟩))]) (fun s_ w' => (w'.cell? ⟨g1, 0, none⟩ = some (.int .i64 a1_0) ∧ w'.cell? ⟨g1, 1, none⟩ = some (.int .i64 a1_1) ∧ w'.cell? ⟨g1, 2, none⟩ = some (.int .i64 a1_2) ∧ w'.cell? ⟨g1, 3, none⟩ = some (.int .i64 a1_3) ∧ w'.cell? ⟨g2, 0, none⟩ = some (.int .i64 a2_0) ∧ w'.cell? ⟨g2, 1, none⟩ = some (.int .i64 a2_1) ∧ w'.cell? ⟨g2, 2, none⟩ = some (.int .i64 a2_2) ∧ w'.cell? ⟨g2, 3, none⟩ = some (.int .i64 a2_3)) ∧ (w'.heap[g1]? = some (.cells #[.int .i64 a1_0, .int .i64 a1_1, .int .i64 a1_2, .int .i64 a1_3] 24 (0, 0))) ∧ (w'.heap[g2]? = some (.cells #[.int .i64 a2_0, .int .i64 a2_1, .int .i64 a2_2, .int .i64 a2_3] 24 (0, 0))) ∧ (w'.heap[g3]? = some (.cells #[.int .i64 0, .int .i64 0, .int .i64 0, .int .i64 0] 24 (0, 0))) ∧ (w'.heap[g4]? = some (.cells #[.int .i64 0, .int .i64 0, .int .i64 0, .int .i64 0] 24 (0, 0))) ∧ (w'.heap[s_.1]? = some (.cells #[.int .i64 0, .int .i64 0] 33 (0, 0))) ∧ (w'.heap[s_.2]? = some (.cells #[.int .i64 0, .int .i64 0] 33 (0, 0))) ∧ (w.heap.size ≤ s_.1) ∧ (w.heap.size ≤ s_.1) ∧ (g1 ≠ s_.1) ∧ (s_.1 ≠ g1) ∧ (g2 ≠ s_.1) ∧ (s_.1 ≠ g2) ∧ (g3 ≠ s_.1) ∧ (s_.1 ≠ g3) ∧ (g4 ≠ s_.1) ∧ (s_.1 ≠ g4) ∧ (s_.2 ≠ s_.1) ∧ (s_.1 ≠ s_.2) ∧ (w.heap.size ≤ s_.2) ∧ (w.heap.size ≤ s_.2) ∧ (g1 ≠ s_.2) ∧ (s_.2 ≠ g1) ∧ (g2 ≠ s_.2) ∧ (s_.2 ≠ g2) ∧ (g3 ≠ s_.2) ∧ (s_.2 ≠ g3) ∧ (g4 ≠ s_.2) ∧ (s_.2 ≠ g4) ∧ (Below w.heap.size w w')) ?_ ?_
    rotate_left
    rotate_left
    ·skip
     rintro ⟨g5, g6⟩ w7 ⟨hS_, h0_, h1_, h2_, h3_, h4_, h5_, h6_, h7_, h8_, h9_, h10_, h11_, h12_, h13_, h14_, h15_, h16_, h17_, h18_, h19_, h20_, h21_, h22_, h23_, h24_, h25_, h26_, h27_, h28_⟩
     have K5 : Bx2 w7 g5 0 0 33 := ⟨h4_⟩
     have K6 : Bx2 w7 g6 0 0 33 := ⟨h5_⟩
     have G5 : Aside0 (w.heap.size ≤ g5) := ⟨h6_⟩
     have G6 : Aside0 (w.heap.size ≤ g5) := ⟨h7_⟩
     have N13 : Aside0 (g1 ≠ g5) := ⟨h8_⟩
     have N14 : Aside0 (g5 ≠ g1) := ⟨h9_⟩
     have N15 : Aside0 (g2 ≠ g5) := ⟨h10_⟩
     have N16 : Aside0 (g5 ≠ g2) := ⟨h11_⟩
     have N17 : Aside0 (g3 ≠ g5) := ⟨h12_⟩
     have N18 : Aside0 (g5 ≠ g3) := ⟨h13_⟩
     have N19 : Aside0 (g4 ≠ g5) := ⟨h14_⟩
     have N20 : Aside0 (g5 ≠ g4) := ⟨h15_⟩
     have N21 : Aside0 (g6 ≠ g5) := ⟨h16_⟩
     have N22 : Aside0 (g5 ≠ g6) := ⟨h17_⟩
     have G7 : Aside0 (w.heap.size ≤ g6) := ⟨h18_⟩
     have G8 : Aside0 (w.heap.size ≤ g6) := ⟨h19_⟩
     have N23 : Aside0 (g1 ≠ g6) := ⟨h20_⟩
     have N24 : Aside0 (g6 ≠ g1) := ⟨h21_⟩
     have N25 : Aside0 (g2 ≠ g6) := ⟨h22_⟩
     have N26 : Aside0 (g6 ≠ g2) := ⟨h23_⟩
     have N27 : Aside0 (g3 ≠ g6) := ⟨h24_⟩
     have N28 : Aside0 (g6 ≠ g3) := ⟨h25_⟩
     have N29 : Aside0 (g4 ≠ g6) := ⟨h26_⟩
     have N30 : Aside0 (g6 ≠ g4) := ⟨h27_⟩
     replace K1 : Bx4 w7 g1 a1_0 a1_1 a1_2 a1_3 24 := ⟨h0_⟩
     replace K2 : Bx4 w7 g2 a2_0 a2_1 a2_2 a2_3 24 := ⟨h1_⟩
     replace K3 : Bx4 w7 g3 0 0 0 0 24 := ⟨h2_⟩
     replace K4 : Bx4 w7 g4 0 0 0 0 24 := ⟨h3_⟩
     replace HB : Aside0 (Below w.heap.size w w7) := ⟨h28_⟩
     clear h0_ h1_ h2_ h3_ h4_ h5_ h6_ h7_ h8_ h9_ h10_ h11_ h12_ h13_ h14_ h15_ h16_ h17_ h18_ h19_ h20_ h21_ h22_ h23_ h24_ h25_ h26_ h27_ h28_
     have hHeld : w7.cell? ⟨g1, 0, none⟩ = some (.int .i64 a1_0) ∧ w7.cell? ⟨g1, 1, none⟩ = some (.int .i64 a1_1) ∧ w7.cell? ⟨g1, 2, none⟩ = some (.int .i64 a1_2) ∧ w7.cell? ⟨g1, 3, none⟩ = some (.int .i64 a1_3) ∧ w7.cell? ⟨g2, 0, none⟩ = some (.int .i64 a2_0) ∧ w7.cell? ⟨g2, 1, none⟩ = some (.int .i64 a2_1) ∧ w7.cell? ⟨g2, 2, none⟩ = some (.int .i64 a2_2) ∧ w7.cell? ⟨g2, 3, none⟩ = some (.int .i64 a2_3) := hS_
     refine norm_ (a' := ?_) ?_ ?_
     rotate_left
     ·simp only [putAll, Act.put, List.setIfInBounds_toArray, List.set_cons_zero, List.set_cons_succ]
      rfl
     refine cl6 5 38 1599 Try.func10 (spec_RangeCmp.calls _ _ _ _ _ _ _ _ _ _ _ A3.out) K1 K2 K3 K4 K5 K6 HB fun w8 K1 K2 K3 K4 K5 K6 HB hHeld => ?_
     refine pk 6 32 1663 ?_
     refine pk 7 39 1791 ?_
     refine pk 8 40 2047 ?_
     exact norm_ nz (hJ2_4_5_9_10 (g5, g6) _ ⟨hHeld, (Z K1), (Z K2), (Z K3), (Z K4), (Z K5), (Z K6), G5.out, G6.out, N13.out, N14.out, N15.out, N16.out, N17.out, N18.out, N19.out, N20.out, N21.out, N22.out, G7.out, G8.out, N23.out, N24.out, N25.out, N26.out, N27.out, N28.out, N29.out, N30.out, (YA HB)⟩)
    intro hJ2_4_9_10
    refine join_ (σ := Unit) 4 (lb 13 511) (fun s_ => [(35, .agg #[.int .i64 t3, .int .i64 t4]), (37, .agg #[.int .i64 t5, .int .i64 t6]), (38, .tuple #[.agg #[.int .i64 t7, .int .i64 t8], .agg #[.int .i64 t9, .int .i64 t10]]), (32, .tuple #[.agg #[.int .i64 t7, .int .i64 t8], .agg #[.int .i64 t9, .int .i64 t10]]), (39, .agg #[.int .i64 t7, .int .i64 t8]), (40, .agg #[.int .i64 t9, .int .i64 t10])]) (fun s_ w' => (w'.cell? ⟨g1, 0, none⟩ = some (.int .i64 a1_0) ∧ w'.cell? ⟨g1, 1, none⟩ = some (.int .i64 a1_1) ∧ w'.cell? ⟨g1, 2, none⟩ = some (.int .i64 a1_2) ∧ w'.cell? ⟨g1, 3, none⟩ = some (.int .i64 a1_3) ∧ w'.cell? ⟨g2, 0, none⟩ = some (.int .i64 a2_0) ∧ w'.cell? ⟨g2, 1, none⟩ = some (.int .i64 a2_1) ∧ w'.cell? ⟨g2, 2, none⟩ = some (.int .i64 a2_2) ∧ w'.cell? ⟨g2, 3, none⟩ = some (.int .i64 a2_3)) ∧ (w'.heap[g1]? = some (.cells #[.int .i64 a1_0, .int .i64 a1_1, .int .i64 a1_2, .int .i64 a1_3] 24 (0, 0))) ∧ (w'.heap[g2]? = some (.cells #[.int .i64 a2_0, .int .i64 a2_1, .int .i64 a2_2, .int .i64 a2_3] 24 (0, 0))) ∧ (w'.heap[g3]? = some (.cells #[.int .i64 0, .int .i64 0, .int .i64 0, .int .i64 0] 24 (0, 0))) ∧ (w'.heap[g4]? = some (.cells #[.int .i64 0, .int .i64 0, .int .i64 0, .int .i64 0] 24 (0, 0))) ∧ (Below w.heap.size w w')) ?_ ?_
    rotate_left
    rotate_left
    ·skip
     rintro _ w7 ⟨hS_, h0_, h1_, h2_, h3_, h4_⟩
     replace K1 : Bx4 w7 g1 a1_0 a1_1 a1_2 a1_3 24 := ⟨h0_⟩
     replace K2 : Bx4 w7 g2 a2_0 a2_1 a2_2 a2_3 24 := ⟨h1_⟩
     replace K3 : Bx4 w7 g3 0 0 0 0 24 := ⟨h2_⟩
     replace K4 : Bx4 w7 g4 0 0 0 0 24 := ⟨h3_⟩
     replace HB : Aside0 (Below w.heap.size w w7) := ⟨h4_⟩
     clear h0_ h1_ h2_ h3_ h4_
     have hHeld : w7.cell? ⟨g1, 0, none⟩ = some (.int .i64 a1_0) ∧ w7.cell? ⟨g1, 1, none⟩ = some (.int .i64 a1_1) ∧ w7.cell? ⟨g1, 2, none⟩ = some (.int .i64 a1_2) ∧ w7.cell? ⟨g1, 3, none⟩ = some (.int .i64 a1_3) ∧ w7.cell? ⟨g2, 0, none⟩ = some (.int .i64 a2_0) ∧ w7.cell? ⟨g2, 1, none⟩ = some (.int .i64 a2_1) ∧ w7.cell? ⟨g2, 2, none⟩ = some (.int .i64 a2_2) ∧ w7.cell? ⟨g2, 3, none⟩ = some (.int .i64 a2_3) := hS_
     refine norm_ (a' := ?_) ?_ ?_
     rotate_left
     ·simp only [putAll, Act.put, List.setIfInBounds_toArray, List.set_cons_zero, List.set_cons_succ]
      rfl
     refine two_ (i := 9) (j := 10) (Ni := some 8) (Nj := some 9) (lb 13 1023) (lb 13 1535) rfl rfl rfl rfl (two_of HT_.out (by kernel_rfl)) (by decide) (by decide) (fun K hK => ?_) (fun K hK => ?_)
     ·skip
      refine box_step ?hg (N := 8) ?hd (cs := #[.int .i64 0, .int .i64 0]) (t := 33) ?hr ?_; (case hd => rfl); (case hg => rfl); (case hr => first | (go_simp; done) | (go_simp; rfl))
      intro g5 hg w8 hbox hb
      have K5 := am (hbox)
      have G5 := am (bs hg (YA HB))
      have G6 := am (bs hg (YA HB))
      obtain ⟨N13,N14⟩ := ne_ hg K1
      obtain ⟨N15,N16⟩ := ne_ hg K2
      obtain ⟨N17,N18⟩ := ne_ hg K3
      obtain ⟨N19,N20⟩ := ne_ hg K4
      obtain ⟨K1, K2, K3, K4, HB⟩ := bk4 K1 K2 K3 K4 HB hb
      clear hb hbox hg
      refine kk hK ⟨bc K1 0, bc K1 1, bc K1 2, bc K1 3, bc K2 0, bc K2 1, bc K2 2, bc K2 3⟩ fun hHeld => ?_
      clear hK K
      exact norm_ nz (hJ2_4_5_9 (g5) _ ⟨hHeld, (Z K1), (Z K2), (Z K3), (Z K4), (Z K5), G5.out, G6.out, N13.out, N14.out, N15.out, N16.out, N17.out, N18.out, N19.out, N20.out, (YA HB)⟩)
     skip
     refine box_step ?hg (N := 9) ?hd (cs := #[.int .i64 0, .int .i64 0]) (t := 33) ?hr ?_; (case hd => rfl); (case hg => rfl); (case hr => first | (go_simp; done) | (go_simp; rfl))
     intro g5 hg w8 hbox hb
     have K5 := am (hbox)
     have G5 := am (bs hg (YA HB))
     have G6 := am (bs hg (YA HB))
     obtain ⟨N13,N14⟩ := ne_ hg K1
     obtain ⟨N15,N16⟩ := ne_ hg K2
     obtain ⟨N17,N18⟩ := ne_ hg K3
     obtain ⟨N19,N20⟩ := ne_ hg K4
     obtain ⟨K1, K2, K3, K4, HB⟩ := bk4 K1 K2 K3 K4 HB hb
     clear hb hbox hg
     refine kk hK ⟨bc K1 0, bc K1 1, bc K1 2, bc K1 3, bc K2 0, bc K2 1, bc K2 2, bc K2 3⟩ fun hHeld => ?_
     clear hK K
     exact norm_ nz (hJ2_4_5_10 (g5) _ ⟨hHeld, (Z K1), (Z K2), (Z K3), (Z K4), (Z K5), G5.out, G6.out, N13.out, N14.out, N15.out, N16.out, N17.out, N18.out, N19.out, N20.out, (YA HB)⟩)
    intro hJ2_4_5
    refine join_ (σ := Nat) 7 (lb 13 543) (fun s_ => [(35, .agg #[.int .i64 t3, .int .i64 t4]), (37, .agg #[.int .i64 t5, .int .i64 t6]), (8, .pointer (some ⟨s_, 0, none⟩))]) (fun s_ w' => (w'.cell? ⟨g1, 0, none⟩ = some (.int .i64 a1_0) ∧ w'.cell? ⟨g1, 1, none⟩ = some (.int .i64 a1_1) ∧ w'.cell? ⟨g1, 2, none⟩ = some (.int .i64 a1_2) ∧ w'.cell? ⟨g1, 3, none⟩ = some (.int .i64 a1_3) ∧ w'.cell? ⟨g2, 0, none⟩ = some (.int .i64 a2_0) ∧ w'.cell? ⟨g2, 1, none⟩ = some (.int .i64 a2_1) ∧ w'.cell? ⟨g2, 2, none⟩ = some (.int .i64 a2_2) ∧ w'.cell? ⟨g2, 3, none⟩ = some (.int .i64 a2_3)) ∧ (w'.heap[g1]? = some (.cells #[.int .i64 a1_0, .int .i64 a1_1, .int .i64 a1_2, .int .i64 a1_3] 24 (0, 0))) ∧ (w'.heap[g2]? = some (.cells #[.int .i64 a2_0, .int .i64 a2_1, .int .i64 a2_2, .int .i64 a2_3] 24 (0, 0))) ∧ (w'.heap[g3]? = some (.cells #[.int .i64 0, .int .i64 0, .int .i64 0, .int .i64 0] 24 (0, 0))) ∧ (w'.heap[g4]? = some (.cells #[.int .i64 0, .int .i64 0, .int .i64 0, .int .i64 0] 24 (0, 0))) ∧ (w'.heap[s_]? = some (.cells #[.int .i64 0, .int .i64 0] 33 (0, 0))) ∧ (w.heap.size ≤ s_) ∧ (w.heap.size ≤ s_) ∧ (g1 ≠ s_) ∧ (s_ ≠ g1) ∧ (g2 ≠ s_) ∧ (s_ ≠ g2) ∧ (g3 ≠ s_) ∧ (s_ ≠ g3) ∧ (g4 ≠ s_) ∧ (s_ ≠ g4) ∧ (Below w.heap.size w w')) ?_ ?_
    rotate_left
    rotate_left
    ·skip
     rintro g5 w7 ⟨hS_, h0_, h1_, h2_, h3_, h4_, h5_, h6_, h7_, h8_, h9_, h10_, h11_, h12_, h13_, h14_, h15_⟩
     have K5 : Bx2 w7 g5 0 0 33 := ⟨h4_⟩
     have G5 : Aside0 (w.heap.size ≤ g5) := ⟨h5_⟩
     have G6 : Aside0 (w.heap.size ≤ g5) := ⟨h6_⟩
     have N13 : Aside0 (g1 ≠ g5) := ⟨h7_⟩
     have N14 : Aside0 (g5 ≠ g1) := ⟨h8_⟩
     have N15 : Aside0 (g2 ≠ g5) := ⟨h9_⟩
     have N16 : Aside0 (g5 ≠ g2) := ⟨h10_⟩
     have N17 : Aside0 (g3 ≠ g5) := ⟨h11_⟩
     have N18 : Aside0 (g5 ≠ g3) := ⟨h12_⟩
     have N19 : Aside0 (g4 ≠ g5) := ⟨h13_⟩
     have N20 : Aside0 (g5 ≠ g4) := ⟨h14_⟩
     replace K1 : Bx4 w7 g1 a1_0 a1_1 a1_2 a1_3 24 := ⟨h0_⟩
     replace K2 : Bx4 w7 g2 a2_0 a2_1 a2_2 a2_3 24 := ⟨h1_⟩
     replace K3 : Bx4 w7 g3 0 0 0 0 24 := ⟨h2_⟩
     replace K4 : Bx4 w7 g4 0 0 0 0 24 := ⟨h3_⟩
     replace HB : Aside0 (Below w.heap.size w w7) := ⟨h15_⟩
     clear h0_ h1_ h2_ h3_ h4_ h5_ h6_ h7_ h8_ h9_ h10_ h11_ h12_ h13_ h14_ h15_
     have hHeld : w7.cell? ⟨g1, 0, none⟩ = some (.int .i64 a1_0) ∧ w7.cell? ⟨g1, 1, none⟩ = some (.int .i64 a1_1) ∧ w7.cell? ⟨g1, 2, none⟩ = some (.int .i64 a1_2) ∧ w7.cell? ⟨g1, 3, none⟩ = some (.int .i64 a1_3) ∧ w7.cell? ⟨g2, 0, none⟩ = some (.int .i64 a2_0) ∧ w7.cell? ⟨g2, 1, none⟩ = some (.int .i64 a2_1) ∧ w7.cell? ⟨g2, 2, none⟩ = some (.int .i64 a2_2) ∧ w7.cell? ⟨g2, 3, none⟩ = some (.int .i64 a2_3) := hS_
     refine norm_ (a' := ?_) ?_ ?_
     rotate_left
     ·simp only [putAll, Act.put, List.setIfInBounds_toArray, List.set_cons_zero, List.set_cons_succ]
      rfl
     refine two_ (i := 5) (j := 10) (Ni := some 38) (Nj := some 9) (lb 13 575) (lb 13 1567) rfl rfl rfl rfl (two_of HT_.out (by kernel_rfl)) (by decide) (by decide) (fun K hK => ?_) (fun K hK => ?_)
     ·skip
      refine ck5 hK Try.func10 (spec_RangeCmp.calls _ _ _ _ _ _ _ _ _ _ _ A3.out) K1 K2 K3 K4 K5 HB fun w8 K1 K2 K3 K4 K5 HB hHeld => ?_
      clear hK K
      refine pk 6 32 639 ?_
      refine pk 7 39 767 ?_
      refine pk 8 40 1023 ?_
      exact norm_ nz (hJ2_4_5_9 (g5) _ ⟨hHeld, (Z K1), (Z K2), (Z K3), (Z K4), (Z K5), G5.out, G6.out, N13.out, N14.out, N15.out, N16.out, N17.out, N18.out, N19.out, N20.out, (YA HB)⟩)
     skip
     refine box_step ?hg (N := 9) ?hd (cs := #[.int .i64 0, .int .i64 0]) (t := 33) ?hr ?_; (case hd => rfl); (case hg => rfl); (case hr => first | (go_simp; done) | (go_simp; rfl))
     intro g6 hg w8 hbox hb
     have K6 := am (hbox)
     have G7 := am (bs hg (YA HB))
     have G8 := am (bs hg (YA HB))
     obtain ⟨N21,N22⟩ := ne_ hg K1
     obtain ⟨N23,N24⟩ := ne_ hg K2
     obtain ⟨N25,N26⟩ := ne_ hg K3
     obtain ⟨N27,N28⟩ := ne_ hg K4
     obtain ⟨N29,N30⟩ := ne_ hg K5
     obtain ⟨K1, K2, K3, K4, K5, HB⟩ := bk5 K1 K2 K3 K4 K5 HB hb
     clear hb hbox hg
     refine kk hK ⟨bc K1 0, bc K1 1, bc K1 2, bc K1 3, bc K2 0, bc K2 1, bc K2 2, bc K2 3⟩ fun hHeld => ?_
     clear hK K
     exact norm_ nz (hJ2_4_9_10 (g5, g6) _ ⟨hHeld, (Z K1), (Z K2), (Z K3), (Z K4), (Z K5), (Z K6), G5.out, G6.out, N13.out, N14.out, N15.out, N16.out, N17.out, N18.out, N19.out, N20.out, N30.out, N29.out, G7.out, G8.out, N21.out, N22.out, N23.out, N24.out, N25.out, N26.out, N27.out, N28.out, (YA HB)⟩)
    intro hJ2_4_9
    refine join_ (σ := Nat) 7 (lb 13 1055) (fun s_ => [(35, .agg #[.int .i64 t3, .int .i64 t4]), (37, .agg #[.int .i64 t5, .int .i64 t6]), (9, .pointer (some ⟨s_, 0, none⟩))]) (fun s_ w' => (w'.cell? ⟨g1, 0, none⟩ = some (.int .i64 a1_0) ∧ w'.cell? ⟨g1, 1, none⟩ = some (.int .i64 a1_1) ∧ w'.cell? ⟨g1, 2, none⟩ = some (.int .i64 a1_2) ∧ w'.cell? ⟨g1, 3, none⟩ = some (.int .i64 a1_3) ∧ w'.cell? ⟨g2, 0, none⟩ = some (.int .i64 a2_0) ∧ w'.cell? ⟨g2, 1, none⟩ = some (.int .i64 a2_1) ∧ w'.cell? ⟨g2, 2, none⟩ = some (.int .i64 a2_2) ∧ w'.cell? ⟨g2, 3, none⟩ = some (.int .i64 a2_3)) ∧ (w'.heap[g1]? = some (.cells #[.int .i64 a1_0, .int .i64 a1_1, .int .i64 a1_2, .int .i64 a1_3] 24 (0, 0))) ∧ (w'.heap[g2]? = some (.cells #[.int .i64 a2_0, .int .i64 a2_1, .int .i64 a2_2, .int .i64 a2_3] 24 (0, 0))) ∧ (w'.heap[g3]? = some (.cells #[.int .i64 0, .int .i64 0, .int .i64 0, .int .i64 0] 24 (0, 0))) ∧ (w'.heap[g4]? = some (.cells #[.int .i64 0, .int .i64 0, .int .i64 0, .int .i64 0] 24 (0, 0))) ∧ (w'.heap[s_]? = some (.cells #[.int .i64 0, .int .i64 0] 33 (0, 0))) ∧ (w.heap.size ≤ s_) ∧ (w.heap.size ≤ s_) ∧ (g1 ≠ s_) ∧ (s_ ≠ g1) ∧ (g2 ≠ s_) ∧ (s_ ≠ g2) ∧ (g3 ≠ s_) ∧ (s_ ≠ g3) ∧ (g4 ≠ s_) ∧ (s_ ≠ g4) ∧ (Below w.heap.size w w')) ?_ ?_
    rotate_left
    rotate_left
    ·skip
     rintro g5 w7 ⟨hS_, h0_, h1_, h2_, h3_, h4_, h5_, h6_, h7_, h8_, h9_, h10_, h11_, h12_, h13_, h14_, h15_⟩
     have K5 : Bx2 w7 g5 0 0 33 := ⟨h4_⟩
     have G5 : Aside0 (w.heap.size ≤ g5) := ⟨h5_⟩
     have G6 : Aside0 (w.heap.size ≤ g5) := ⟨h6_⟩
     have N13 : Aside0 (g1 ≠ g5) := ⟨h7_⟩
     have N14 : Aside0 (g5 ≠ g1) := ⟨h8_⟩
     have N15 : Aside0 (g2 ≠ g5) := ⟨h9_⟩
     have N16 : Aside0 (g5 ≠ g2) := ⟨h10_⟩
     have N17 : Aside0 (g3 ≠ g5) := ⟨h11_⟩
     have N18 : Aside0 (g5 ≠ g3) := ⟨h12_⟩
     have N19 : Aside0 (g4 ≠ g5) := ⟨h13_⟩
     have N20 : Aside0 (g5 ≠ g4) := ⟨h14_⟩
     replace K1 : Bx4 w7 g1 a1_0 a1_1 a1_2 a1_3 24 := ⟨h0_⟩
     replace K2 : Bx4 w7 g2 a2_0 a2_1 a2_2 a2_3 24 := ⟨h1_⟩
     replace K3 : Bx4 w7 g3 0 0 0 0 24 := ⟨h2_⟩
     replace K4 : Bx4 w7 g4 0 0 0 0 24 := ⟨h3_⟩
     replace HB : Aside0 (Below w.heap.size w w7) := ⟨h15_⟩
     clear h0_ h1_ h2_ h3_ h4_ h5_ h6_ h7_ h8_ h9_ h10_ h11_ h12_ h13_ h14_ h15_
     have hHeld : w7.cell? ⟨g1, 0, none⟩ = some (.int .i64 a1_0) ∧ w7.cell? ⟨g1, 1, none⟩ = some (.int .i64 a1_1) ∧ w7.cell? ⟨g1, 2, none⟩ = some (.int .i64 a1_2) ∧ w7.cell? ⟨g1, 3, none⟩ = some (.int .i64 a1_3) ∧ w7.cell? ⟨g2, 0, none⟩ = some (.int .i64 a2_0) ∧ w7.cell? ⟨g2, 1, none⟩ = some (.int .i64 a2_1) ∧ w7.cell? ⟨g2, 2, none⟩ = some (.int .i64 a2_2) ∧ w7.cell? ⟨g2, 3, none⟩ = some (.int .i64 a2_3) := hS_
     refine norm_ (a' := ?_) ?_ ?_
     rotate_left
     ·simp only [putAll, Act.put, List.setIfInBounds_toArray, List.set_cons_zero, List.set_cons_succ]
      rfl
     refine two_ (i := 5) (j := 9) (Ni := some 38) (Nj := some 8) (lb 13 1087) (lb 13 1567) rfl rfl rfl rfl (two_of HT_.out (by kernel_rfl)) (by decide) (by decide) (fun K hK => ?_) (fun K hK => ?_)
     ·skip
      refine ck5 hK Try.func10 (spec_RangeCmp.calls _ _ _ _ _ _ _ _ _ _ _ A3.out) K1 K2 K3 K4 K5 HB fun w8 K1 K2 K3 K4 K5 HB hHeld => ?_
      clear hK K
      refine pk 6 32 1151 ?_
      refine pk 7 39 1279 ?_
      refine pk 8 40 1535 ?_
      exact norm_ nz (hJ2_4_5_10 (g5) _ ⟨hHeld, (Z K1), (Z K2), (Z K3), (Z K4), (Z K5), G5.out, G6.out, N13.out, N14.out, N15.out, N16.out, N17.out, N18.out, N19.out, N20.out, (YA HB)⟩)
     skip
     refine box_step ?hg (N := 8) ?hd (cs := #[.int .i64 0, .int .i64 0]) (t := 33) ?hr ?_; (case hd => rfl); (case hg => rfl); (case hr => first | (go_simp; done) | (go_simp; rfl))
     intro g6 hg w8 hbox hb
     have K6 := am (hbox)
     have G7 := am (bs hg (YA HB))
     have G8 := am (bs hg (YA HB))
     obtain ⟨N21,N22⟩ := ne_ hg K1
     obtain ⟨N23,N24⟩ := ne_ hg K2
     obtain ⟨N25,N26⟩ := ne_ hg K3
     obtain ⟨N27,N28⟩ := ne_ hg K4
     obtain ⟨N29,N30⟩ := ne_ hg K5
     obtain ⟨K1, K2, K3, K4, K5, HB⟩ := bk5 K1 K2 K3 K4 K5 HB hb
     clear hb hbox hg
     refine kk hK ⟨bc K1 0, bc K1 1, bc K1 2, bc K1 3, bc K2 0, bc K2 1, bc K2 2, bc K2 3⟩ fun hHeld => ?_
     clear hK K
     exact norm_ nz (hJ2_4_9_10 (g6, g5) _ ⟨hHeld, (Z K1), (Z K2), (Z K3), (Z K4), (Z K6), (Z K5), G7.out, G8.out, N21.out, N22.out, N23.out, N24.out, N25.out, N26.out, N27.out, N28.out, N29.out, N30.out, G5.out, G6.out, N13.out, N14.out, N15.out, N16.out, N17.out, N18.out, N19.out, N20.out, (YA HB)⟩)
    intro hJ2_4_10
    refine join_ (σ := Nat × Nat) 7 (lb 13 1551) (fun s_ => [(35, .agg #[.int .i64 t3, .int .i64 t4]), (8, .pointer (some ⟨s_.1, 0, none⟩)), (9, .pointer (some ⟨s_.2, 0, none⟩))]) (fun s_ w' => (w'.cell? ⟨g1, 0, none⟩ = some (.int .i64 a1_0) ∧ w'.cell? ⟨g1, 1, none⟩ = some (.int .i64 a1_1) ∧ w'.cell? ⟨g1, 2, none⟩ = some (.int .i64 a1_2) ∧ w'.cell? ⟨g1, 3, none⟩ = some (.int .i64 a1_3) ∧ w'.cell? ⟨g2, 0, none⟩ = some (.int .i64 a2_0) ∧ w'.cell? ⟨g2, 1, none⟩ = some (.int .i64 a2_1) ∧ w'.cell? ⟨g2, 2, none⟩ = some (.int .i64 a2_2) ∧ w'.cell? ⟨g2, 3, none⟩ = some (.int .i64 a2_3)) ∧ (w'.heap[g1]? = some (.cells #[.int .i64 a1_0, .int .i64 a1_1, .int .i64 a1_2, .int .i64 a1_3] 24 (0, 0))) ∧ (w'.heap[g2]? = some (.cells #[.int .i64 a2_0, .int .i64 a2_1, .int .i64 a2_2, .int .i64 a2_3] 24 (0, 0))) ∧ (w'.heap[g3]? = some (.cells #[.int .i64 0, .int .i64 0, .int .i64 0, .int .i64 0] 24 (0, 0))) ∧ (w'.heap[g4]? = some (.cells #[.int .i64 0, .int .i64 0, .int .i64 0, .int .i64 0] 24 (0, 0))) ∧ (w'.heap[s_.1]? = some (.cells #[.int .i64 0, .int .i64 0] 33 (0, 0))) ∧ (w'.heap[s_.2]? = some (.cells #[.int .i64 0, .int .i64 0] 33 (0, 0))) ∧ (w.heap.size ≤ s_.1) ∧ (w.heap.size ≤ s_.1) ∧ (g1 ≠ s_.1) ∧ (s_.1 ≠ g1) ∧ (g2 ≠ s_.1) ∧ (s_.1 ≠ g2) ∧ (g3 ≠ s_.1) ∧ (s_.1 ≠ g3) ∧ (g4 ≠ s_.1) ∧ (s_.1 ≠ g4) ∧ (s_.2 ≠ s_.1) ∧ (s_.1 ≠ s_.2) ∧ (w.heap.size ≤ s_.2) ∧ (w.heap.size ≤ s_.2) ∧ (g1 ≠ s_.2) ∧ (s_.2 ≠ g1) ∧ (g2 ≠ s_.2) ∧ (s_.2 ≠ g2) ∧ (g3 ≠ s_.2) ∧ (s_.2 ≠ g3) ∧ (g4 ≠ s_.2) ∧ (s_.2 ≠ g4) ∧ (Below w.heap.size w w')) ?_ ?_
    rotate_left
    rotate_left
    ·skip
     rintro ⟨g5, g6⟩ w7 ⟨hS_, h0_, h1_, h2_, h3_, h4_, h5_, h6_, h7_, h8_, h9_, h10_, h11_, h12_, h13_, h14_, h15_, h16_, h17_, h18_, h19_, h20_, h21_, h22_, h23_, h24_, h25_, h26_, h27_, h28_⟩
     have K5 : Bx2 w7 g5 0 0 33 := ⟨h4_⟩
     have K6 : Bx2 w7 g6 0 0 33 := ⟨h5_⟩
     have G5 : Aside0 (w.heap.size ≤ g5) := ⟨h6_⟩
     have G6 : Aside0 (w.heap.size ≤ g5) := ⟨h7_⟩
     have N13 : Aside0 (g1 ≠ g5) := ⟨h8_⟩
     have N14 : Aside0 (g5 ≠ g1) := ⟨h9_⟩
     have N15 : Aside0 (g2 ≠ g5) := ⟨h10_⟩
     have N16 : Aside0 (g5 ≠ g2) := ⟨h11_⟩
     have N17 : Aside0 (g3 ≠ g5) := ⟨h12_⟩
     have N18 : Aside0 (g5 ≠ g3) := ⟨h13_⟩
     have N19 : Aside0 (g4 ≠ g5) := ⟨h14_⟩
     have N20 : Aside0 (g5 ≠ g4) := ⟨h15_⟩
     have N21 : Aside0 (g6 ≠ g5) := ⟨h16_⟩
     have N22 : Aside0 (g5 ≠ g6) := ⟨h17_⟩
     have G7 : Aside0 (w.heap.size ≤ g6) := ⟨h18_⟩
     have G8 : Aside0 (w.heap.size ≤ g6) := ⟨h19_⟩
     have N23 : Aside0 (g1 ≠ g6) := ⟨h20_⟩
     have N24 : Aside0 (g6 ≠ g1) := ⟨h21_⟩
     have N25 : Aside0 (g2 ≠ g6) := ⟨h22_⟩
     have N26 : Aside0 (g6 ≠ g2) := ⟨h23_⟩
     have N27 : Aside0 (g3 ≠ g6) := ⟨h24_⟩
     have N28 : Aside0 (g6 ≠ g3) := ⟨h25_⟩
     have N29 : Aside0 (g4 ≠ g6) := ⟨h26_⟩
     have N30 : Aside0 (g6 ≠ g4) := ⟨h27_⟩
     replace K1 : Bx4 w7 g1 a1_0 a1_1 a1_2 a1_3 24 := ⟨h0_⟩
     replace K2 : Bx4 w7 g2 a2_0 a2_1 a2_2 a2_3 24 := ⟨h1_⟩
     replace K3 : Bx4 w7 g3 0 0 0 0 24 := ⟨h2_⟩
     replace K4 : Bx4 w7 g4 0 0 0 0 24 := ⟨h3_⟩
     replace HB : Aside0 (Below w.heap.size w w7) := ⟨h28_⟩
     clear h0_ h1_ h2_ h3_ h4_ h5_ h6_ h7_ h8_ h9_ h10_ h11_ h12_ h13_ h14_ h15_ h16_ h17_ h18_ h19_ h20_ h21_ h22_ h23_ h24_ h25_ h26_ h27_ h28_
     have hHeld : w7.cell? ⟨g1, 0, none⟩ = some (.int .i64 a1_0) ∧ w7.cell? ⟨g1, 1, none⟩ = some (.int .i64 a1_1) ∧ w7.cell? ⟨g1, 2, none⟩ = some (.int .i64 a1_2) ∧ w7.cell? ⟨g1, 3, none⟩ = some (.int .i64 a1_3) ∧ w7.cell? ⟨g2, 0, none⟩ = some (.int .i64 a2_0) ∧ w7.cell? ⟨g2, 1, none⟩ = some (.int .i64 a2_1) ∧ w7.cell? ⟨g2, 2, none⟩ = some (.int .i64 a2_2) ∧ w7.cell? ⟨g2, 3, none⟩ = some (.int .i64 a2_3) := hS_
     refine norm_ (a' := ?_) ?_ ?_
     rotate_left
     ·simp only [putAll, Act.put, List.setIfInBounds_toArray, List.set_cons_zero, List.set_cons_succ]
      rfl
     refine cl6 4 37 1567 Try.func11 (spec_l10Range.calls _ _ _ _ _ _ _ A2.out) K1 K2 K3 K4 K5 K6 HB fun w8 K1 K2 K3 K4 K5 K6 HB hHeld => ?_
     exact norm_ nz (hJ2_4_9_10 (g5, g6) _ ⟨hHeld, (Z K1), (Z K2), (Z K3), (Z K4), (Z K5), (Z K6), G5.out, G6.out, N13.out, N14.out, N15.out, N16.out, N17.out, N18.out, N19.out, N20.out, N21.out, N22.out, G7.out, G8.out, N23.out, N24.out, N25.out, N26.out, N27.out, N28.out, N29.out, N30.out, (YA HB)⟩)
    intro hJ2_9_10
    refine join_ (σ := Unit) 8 (lb 13 31) (fun s_ => [(35, .agg #[.int .i64 t3, .int .i64 t4]), (37, .agg #[.int .i64 t5, .int .i64 t6])]) (fun s_ w' => (w'.cell? ⟨g1, 0, none⟩ = some (.int .i64 a1_0) ∧ w'.cell? ⟨g1, 1, none⟩ = some (.int .i64 a1_1) ∧ w'.cell? ⟨g1, 2, none⟩ = some (.int .i64 a1_2) ∧ w'.cell? ⟨g1, 3, none⟩ = some (.int .i64 a1_3) ∧ w'.cell? ⟨g2, 0, none⟩ = some (.int .i64 a2_0) ∧ w'.cell? ⟨g2, 1, none⟩ = some (.int .i64 a2_1) ∧ w'.cell? ⟨g2, 2, none⟩ = some (.int .i64 a2_2) ∧ w'.cell? ⟨g2, 3, none⟩ = some (.int .i64 a2_3)) ∧ (w'.heap[g1]? = some (.cells #[.int .i64 a1_0, .int .i64 a1_1, .int .i64 a1_2, .int .i64 a1_3] 24 (0, 0))) ∧ (w'.heap[g2]? = some (.cells #[.int .i64 a2_0, .int .i64 a2_1, .int .i64 a2_2, .int .i64 a2_3] 24 (0, 0))) ∧ (w'.heap[g3]? = some (.cells #[.int .i64 0, .int .i64 0, .int .i64 0, .int .i64 0] 24 (0, 0))) ∧ (w'.heap[g4]? = some (.cells #[.int .i64 0, .int .i64 0, .int .i64 0, .int .i64 0] 24 (0, 0))) ∧ (Below w.heap.size w w')) ?_ ?_
    rotate_left
    rotate_left
    ·skip
     rintro _ w7 ⟨hS_, h0_, h1_, h2_, h3_, h4_⟩
     replace K1 : Bx4 w7 g1 a1_0 a1_1 a1_2 a1_3 24 := ⟨h0_⟩
     replace K2 : Bx4 w7 g2 a2_0 a2_1 a2_2 a2_3 24 := ⟨h1_⟩
     replace K3 : Bx4 w7 g3 0 0 0 0 24 := ⟨h2_⟩
     replace K4 : Bx4 w7 g4 0 0 0 0 24 := ⟨h3_⟩
     replace HB : Aside0 (Below w.heap.size w w7) := ⟨h4_⟩
     clear h0_ h1_ h2_ h3_ h4_
     have hHeld : w7.cell? ⟨g1, 0, none⟩ = some (.int .i64 a1_0) ∧ w7.cell? ⟨g1, 1, none⟩ = some (.int .i64 a1_1) ∧ w7.cell? ⟨g1, 2, none⟩ = some (.int .i64 a1_2) ∧ w7.cell? ⟨g1, 3, none⟩ = some (.int .i64 a1_3) ∧ w7.cell? ⟨g2, 0, none⟩ = some (.int .i64 a2_0) ∧ w7.cell? ⟨g2, 1, none⟩ = some (.int .i64 a2_1) ∧ w7.cell? ⟨g2, 2, none⟩ = some (.int .i64 a2_2) ∧ w7.cell? ⟨g2, 3, none⟩ = some (.int .i64 a2_3) := hS_
     refine norm_ (a' := ?_) ?_ ?_
     rotate_left
     ·simp only [putAll, Act.put, List.setIfInBounds_toArray, List.set_cons_zero, List.set_cons_succ]
      rfl
     refine three_ (i := 5) (j := 9) (k := 10) (Ni := some 38) (Nj := some 8) (Nk := some 9) (lb 13 63) (lb 13 543) (lb 13 1055) rfl rfl rfl rfl rfl rfl (three_of HT_.out (by kernel_rfl)) (by decide) (by decide) (by decide) (fun K hK => ?_) (fun K hK => ?_) (fun K hK => ?_)
     ·skip
      refine ck4 hK Try.func10 (spec_RangeCmp.calls _ _ _ _ _ _ _ _ _ _ _ A3.out) K1 K2 K3 K4 HB fun w8 K1 K2 K3 K4 HB hHeld => ?_
      clear hK K
      refine pk 6 32 127 ?_
      refine pk 7 39 255 ?_
      refine pk 8 40 511 ?_
      exact norm_ nz (hJ2_4_5 () _ ⟨hHeld, (Z K1), (Z K2), (Z K3), (Z K4), (YA HB)⟩)
     ·skip
      refine box_step ?hg (N := 8) ?hd (cs := #[.int .i64 0, .int .i64 0]) (t := 33) ?hr ?_; (case hd => rfl); (case hg => rfl); (case hr => first | (go_simp; done) | (go_simp; rfl))
      intro g5 hg w8 hbox hb
      have K5 := am (hbox)
      have G5 := am (bs hg (YA HB))
      have G6 := am (bs hg (YA HB))
      obtain ⟨N13,N14⟩ := ne_ hg K1
      obtain ⟨N15,N16⟩ := ne_ hg K2
      obtain ⟨N17,N18⟩ := ne_ hg K3
      obtain ⟨N19,N20⟩ := ne_ hg K4
      obtain ⟨K1, K2, K3, K4, HB⟩ := bk4 K1 K2 K3 K4 HB hb
      clear hb hbox hg
      refine kk hK ⟨bc K1 0, bc K1 1, bc K1 2, bc K1 3, bc K2 0, bc K2 1, bc K2 2, bc K2 3⟩ fun hHeld => ?_
      clear hK K
      exact norm_ nz (hJ2_4_9 (g5) _ ⟨hHeld, (Z K1), (Z K2), (Z K3), (Z K4), (Z K5), G5.out, G6.out, N13.out, N14.out, N15.out, N16.out, N17.out, N18.out, N19.out, N20.out, (YA HB)⟩)
     skip
     refine box_step ?hg (N := 9) ?hd (cs := #[.int .i64 0, .int .i64 0]) (t := 33) ?hr ?_; (case hd => rfl); (case hg => rfl); (case hr => first | (go_simp; done) | (go_simp; rfl))
     intro g5 hg w8 hbox hb
     have K5 := am (hbox)
     have G5 := am (bs hg (YA HB))
     have G6 := am (bs hg (YA HB))
     obtain ⟨N13,N14⟩ := ne_ hg K1
     obtain ⟨N15,N16⟩ := ne_ hg K2
     obtain ⟨N17,N18⟩ := ne_ hg K3
     obtain ⟨N19,N20⟩ := ne_ hg K4
     obtain ⟨K1, K2, K3, K4, HB⟩ := bk4 K1 K2 K3 K4 HB hb
     clear hb hbox hg
     refine kk hK ⟨bc K1 0, bc K1 1, bc K1 2, bc K1 3, bc K2 0, bc K2 1, bc K2 2, bc K2 3⟩ fun hHeld => ?_
     clear hK K
     exact norm_ nz (hJ2_4_10 (g5) _ ⟨hHeld, (Z K1), (Z K2), (Z K3), (Z K4), (Z K5), G5.out, G6.out, N13.out, N14.out, N15.out, N16.out, N17.out, N18.out, N19.out, N20.out, (YA HB)⟩)
    intro hJ2_4
    refine join_ (σ := Nat) 8 (lb 13 527) (fun s_ => [(35, .agg #[.int .i64 t3, .int .i64 t4]), (8, .pointer (some ⟨s_, 0, none⟩))]) (fun s_ w' => (w'.cell? ⟨g1, 0, none⟩ = some (.int .i64 a1_0) ∧ w'.cell? ⟨g1, 1, none⟩ = some (.int .i64 a1_1) ∧ w'.cell? ⟨g1, 2, none⟩ = some (.int .i64 a1_2) ∧ w'.cell? ⟨g1, 3, none⟩ = some (.int .i64 a1_3) ∧ w'.cell? ⟨g2, 0, none⟩ = some (.int .i64 a2_0) ∧ w'.cell? ⟨g2, 1, none⟩ = some (.int .i64 a2_1) ∧ w'.cell? ⟨g2, 2, none⟩ = some (.int .i64 a2_2) ∧ w'.cell? ⟨g2, 3, none⟩ = some (.int .i64 a2_3)) ∧ (w'.heap[g1]? = some (.cells #[.int .i64 a1_0, .int .i64 a1_1, .int .i64 a1_2, .int .i64 a1_3] 24 (0, 0))) ∧ (w'.heap[g2]? = some (.cells #[.int .i64 a2_0, .int .i64 a2_1, .int .i64 a2_2, .int .i64 a2_3] 24 (0, 0))) ∧ (w'.heap[g3]? = some (.cells #[.int .i64 0, .int .i64 0, .int .i64 0, .int .i64 0] 24 (0, 0))) ∧ (w'.heap[g4]? = some (.cells #[.int .i64 0, .int .i64 0, .int .i64 0, .int .i64 0] 24 (0, 0))) ∧ (w'.heap[s_]? = some (.cells #[.int .i64 0, .int .i64 0] 33 (0, 0))) ∧ (w.heap.size ≤ s_) ∧ (w.heap.size ≤ s_) ∧ (g1 ≠ s_) ∧ (s_ ≠ g1) ∧ (g2 ≠ s_) ∧ (s_ ≠ g2) ∧ (g3 ≠ s_) ∧ (s_ ≠ g3) ∧ (g4 ≠ s_) ∧ (s_ ≠ g4) ∧ (Below w.heap.size w w')) ?_ ?_
    rotate_left
    rotate_left
    ·skip
     rintro g5 w7 ⟨hS_, h0_, h1_, h2_, h3_, h4_, h5_, h6_, h7_, h8_, h9_, h10_, h11_, h12_, h13_, h14_, h15_⟩
     have K5 : Bx2 w7 g5 0 0 33 := ⟨h4_⟩
     have G5 : Aside0 (w.heap.size ≤ g5) := ⟨h5_⟩
     have G6 : Aside0 (w.heap.size ≤ g5) := ⟨h6_⟩
     have N13 : Aside0 (g1 ≠ g5) := ⟨h7_⟩
     have N14 : Aside0 (g5 ≠ g1) := ⟨h8_⟩
     have N15 : Aside0 (g2 ≠ g5) := ⟨h9_⟩
     have N16 : Aside0 (g5 ≠ g2) := ⟨h10_⟩
     have N17 : Aside0 (g3 ≠ g5) := ⟨h11_⟩
     have N18 : Aside0 (g5 ≠ g3) := ⟨h12_⟩
     have N19 : Aside0 (g4 ≠ g5) := ⟨h13_⟩
     have N20 : Aside0 (g5 ≠ g4) := ⟨h14_⟩
     replace K1 : Bx4 w7 g1 a1_0 a1_1 a1_2 a1_3 24 := ⟨h0_⟩
     replace K2 : Bx4 w7 g2 a2_0 a2_1 a2_2 a2_3 24 := ⟨h1_⟩
     replace K3 : Bx4 w7 g3 0 0 0 0 24 := ⟨h2_⟩
     replace K4 : Bx4 w7 g4 0 0 0 0 24 := ⟨h3_⟩
     replace HB : Aside0 (Below w.heap.size w w7) := ⟨h15_⟩
     clear h0_ h1_ h2_ h3_ h4_ h5_ h6_ h7_ h8_ h9_ h10_ h11_ h12_ h13_ h14_ h15_
     have hHeld : w7.cell? ⟨g1, 0, none⟩ = some (.int .i64 a1_0) ∧ w7.cell? ⟨g1, 1, none⟩ = some (.int .i64 a1_1) ∧ w7.cell? ⟨g1, 2, none⟩ = some (.int .i64 a1_2) ∧ w7.cell? ⟨g1, 3, none⟩ = some (.int .i64 a1_3) ∧ w7.cell? ⟨g2, 0, none⟩ = some (.int .i64 a2_0) ∧ w7.cell? ⟨g2, 1, none⟩ = some (.int .i64 a2_1) ∧ w7.cell? ⟨g2, 2, none⟩ = some (.int .i64 a2_2) ∧ w7.cell? ⟨g2, 3, none⟩ = some (.int .i64 a2_3) := hS_
     refine norm_ (a' := ?_) ?_ ?_
     rotate_left
     ·simp only [putAll, Act.put, List.setIfInBounds_toArray, List.set_cons_zero, List.set_cons_succ]
      rfl
     refine two_ (i := 4) (j := 10) (Ni := some 37) (Nj := some 9) (lb 13 543) (lb 13 1551) rfl rfl rfl rfl (two_of HT_.out (by kernel_rfl)) (by decide) (by decide) (fun K hK => ?_) (fun K hK => ?_)
     ·skip
      refine ck5 hK Try.func11 (spec_l10Range.calls _ _ _ _ _ _ _ A2.out) K1 K2 K3 K4 K5 HB fun w8 K1 K2 K3 K4 K5 HB hHeld => ?_
      clear hK K
      exact norm_ nz (hJ2_4_9 (g5) _ ⟨hHeld, (Z K1), (Z K2), (Z K3), (Z K4), (Z K5), G5.out, G6.out, N13.out, N14.out, N15.out, N16.out, N17.out, N18.out, N19.out, N20.out, (YA HB)⟩)
     skip
     refine box_step ?hg (N := 9) ?hd (cs := #[.int .i64 0, .int .i64 0]) (t := 33) ?hr ?_; (case hd => rfl); (case hg => rfl); (case hr => first | (go_simp; done) | (go_simp; rfl))
     intro g6 hg w8 hbox hb
     have K6 := am (hbox)
     have G7 := am (bs hg (YA HB))
     have G8 := am (bs hg (YA HB))
     obtain ⟨N21,N22⟩ := ne_ hg K1
     obtain ⟨N23,N24⟩ := ne_ hg K2
     obtain ⟨N25,N26⟩ := ne_ hg K3
     obtain ⟨N27,N28⟩ := ne_ hg K4
     obtain ⟨N29,N30⟩ := ne_ hg K5
     obtain ⟨K1, K2, K3, K4, K5, HB⟩ := bk5 K1 K2 K3 K4 K5 HB hb
     clear hb hbox hg
     refine kk hK ⟨bc K1 0, bc K1 1, bc K1 2, bc K1 3, bc K2 0, bc K2 1, bc K2 2, bc K2 3⟩ fun hHeld => ?_
     clear hK K
     exact norm_ nz (hJ2_9_10 (g5, g6) _ ⟨hHeld, (Z K1), (Z K2), (Z K3), (Z K4), (Z K5), (Z K6), G5.out, G6.out, N13.out, N14.out, N15.out, N16.out, N17.out, N18.out, N19.out, N20.out, N30.out, N29.out, G7.out, G8.out, N21.out, N22.out, N23.out, N24.out, N25.out, N26.out, N27.out, N28.out, (YA HB)⟩)
    intro hJ2_9
    refine join_ (σ := Nat) 8 (lb 13 1039) (fun s_ => [(35, .agg #[.int .i64 t3, .int .i64 t4]), (9, .pointer (some ⟨s_, 0, none⟩))]) (fun s_ w' => (w'.cell? ⟨g1, 0, none⟩ = some (.int .i64 a1_0) ∧ w'.cell? ⟨g1, 1, none⟩ = some (.int .i64 a1_1) ∧ w'.cell? ⟨g1, 2, none⟩ = some (.int .i64 a1_2) ∧ w'.cell? ⟨g1, 3, none⟩ = some (.int .i64 a1_3) ∧ w'.cell? ⟨g2, 0, none⟩ = some (.int .i64 a2_0) ∧ w'.cell? ⟨g2, 1, none⟩ = some (.int .i64 a2_1) ∧ w'.cell? ⟨g2, 2, none⟩ = some (.int .i64 a2_2) ∧ w'.cell? ⟨g2, 3, none⟩ = some (.int .i64 a2_3)) ∧ (w'.heap[g1]? = some (.cells #[.int .i64 a1_0, .int .i64 a1_1, .int .i64 a1_2, .int .i64 a1_3] 24 (0, 0))) ∧ (w'.heap[g2]? = some (.cells #[.int .i64 a2_0, .int .i64 a2_1, .int .i64 a2_2, .int .i64 a2_3] 24 (0, 0))) ∧ (w'.heap[g3]? = some (.cells #[.int .i64 0, .int .i64 0, .int .i64 0, .int .i64 0] 24 (0, 0))) ∧ (w'.heap[g4]? = some (.cells #[.int .i64 0, .int .i64 0, .int .i64 0, .int .i64 0] 24 (0, 0))) ∧ (w'.heap[s_]? = some (.cells #[.int .i64 0, .int .i64 0] 33 (0, 0))) ∧ (w.heap.size ≤ s_) ∧ (w.heap.size ≤ s_) ∧ (g1 ≠ s_) ∧ (s_ ≠ g1) ∧ (g2 ≠ s_) ∧ (s_ ≠ g2) ∧ (g3 ≠ s_) ∧ (s_ ≠ g3) ∧ (g4 ≠ s_) ∧ (s_ ≠ g4) ∧ (Below w.heap.size w w')) ?_ ?_
    rotate_left
    rotate_left
    ·skip
     rintro g5 w7 ⟨hS_, h0_, h1_, h2_, h3_, h4_, h5_, h6_, h7_, h8_, h9_, h10_, h11_, h12_, h13_, h14_, h15_⟩
     have K5 : Bx2 w7 g5 0 0 33 := ⟨h4_⟩
     have G5 : Aside0 (w.heap.size ≤ g5) := ⟨h5_⟩
     have G6 : Aside0 (w.heap.size ≤ g5) := ⟨h6_⟩
     have N13 : Aside0 (g1 ≠ g5) := ⟨h7_⟩
     have N14 : Aside0 (g5 ≠ g1) := ⟨h8_⟩
     have N15 : Aside0 (g2 ≠ g5) := ⟨h9_⟩
     have N16 : Aside0 (g5 ≠ g2) := ⟨h10_⟩
     have N17 : Aside0 (g3 ≠ g5) := ⟨h11_⟩
     have N18 : Aside0 (g5 ≠ g3) := ⟨h12_⟩
     have N19 : Aside0 (g4 ≠ g5) := ⟨h13_⟩
     have N20 : Aside0 (g5 ≠ g4) := ⟨h14_⟩
     replace K1 : Bx4 w7 g1 a1_0 a1_1 a1_2 a1_3 24 := ⟨h0_⟩
     replace K2 : Bx4 w7 g2 a2_0 a2_1 a2_2 a2_3 24 := ⟨h1_⟩
     replace K3 : Bx4 w7 g3 0 0 0 0 24 := ⟨h2_⟩
     replace K4 : Bx4 w7 g4 0 0 0 0 24 := ⟨h3_⟩
     replace HB : Aside0 (Below w.heap.size w w7) := ⟨h15_⟩
     clear h0_ h1_ h2_ h3_ h4_ h5_ h6_ h7_ h8_ h9_ h10_ h11_ h12_ h13_ h14_ h15_
     have hHeld : w7.cell? ⟨g1, 0, none⟩ = some (.int .i64 a1_0) ∧ w7.cell? ⟨g1, 1, none⟩ = some (.int .i64 a1_1) ∧ w7.cell? ⟨g1, 2, none⟩ = some (.int .i64 a1_2) ∧ w7.cell? ⟨g1, 3, none⟩ = some (.int .i64 a1_3) ∧ w7.cell? ⟨g2, 0, none⟩ = some (.int .i64 a2_0) ∧ w7.cell? ⟨g2, 1, none⟩ = some (.int .i64 a2_1) ∧ w7.cell? ⟨g2, 2, none⟩ = some (.int .i64 a2_2) ∧ w7.cell? ⟨g2, 3, none⟩ = some (.int .i64 a2_3) := hS_
     refine norm_ (a' := ?_) ?_ ?_
     rotate_left
     ·simp only [putAll, Act.put, List.setIfInBounds_toArray, List.set_cons_zero, List.set_cons_succ]
      rfl
     refine two_ (i := 4) (j := 9) (Ni := some 37) (Nj := some 8) (lb 13 1055) (lb 13 1551) rfl rfl rfl rfl (two_of HT_.out (by kernel_rfl)) (by decide) (by decide) (fun K hK => ?_) (fun K hK => ?_)
     ·skip
      refine ck5 hK Try.func11 (spec_l10Range.calls _ _ _ _ _ _ _ A2.out) K1 K2 K3 K4 K5 HB fun w8 K1 K2 K3 K4 K5 HB hHeld => ?_
      clear hK K
      exact norm_ nz (hJ2_4_10 (g5) _ ⟨hHeld, (Z K1), (Z K2), (Z K3), (Z K4), (Z K5), G5.out, G6.out, N13.out, N14.out, N15.out, N16.out, N17.out, N18.out, N19.out, N20.out, (YA HB)⟩)
     skip
     refine box_step ?hg (N := 8) ?hd (cs := #[.int .i64 0, .int .i64 0]) (t := 33) ?hr ?_; (case hd => rfl); (case hg => rfl); (case hr => first | (go_simp; done) | (go_simp; rfl))
     intro g6 hg w8 hbox hb
     have K6 := am (hbox)
     have G7 := am (bs hg (YA HB))
     have G8 := am (bs hg (YA HB))
     obtain ⟨N21,N22⟩ := ne_ hg K1
     obtain ⟨N23,N24⟩ := ne_ hg K2
     obtain ⟨N25,N26⟩ := ne_ hg K3
     obtain ⟨N27,N28⟩ := ne_ hg K4
     obtain ⟨N29,N30⟩ := ne_ hg K5
     obtain ⟨K1, K2, K3, K4, K5, HB⟩ := bk5 K1 K2 K3 K4 K5 HB hb
     clear hb hbox hg
     refine kk hK ⟨bc K1 0, bc K1 1, bc K1 2, bc K1 3, bc K2 0, bc K2 1, bc K2 2, bc K2 3⟩ fun hHeld => ?_
     clear hK K
     exact norm_ nz (hJ2_9_10 (g6, g5) _ ⟨hHeld, (Z K1), (Z K2), (Z K3), (Z K4), (Z K6), (Z K5), G7.out, G8.out, N21.out, N22.out, N23.out, N24.out, N25.out, N26.out, N27.out, N28.out, N29.out, N30.out, G5.out, G6.out, N13.out, N14.out, N15.out, N16.out, N17.out, N18.out, N19.out, N20.out, (YA HB)⟩)
    intro hJ2_10
    refine join_ (σ := Nat × Nat) 8 (lb 13 1547) (fun s_ => [(8, .pointer (some ⟨s_.1, 0, none⟩)), (9, .pointer (some ⟨s_.2, 0, none⟩))]) (fun s_ w' => (w'.cell? ⟨g1, 0, none⟩ = some (.int .i64 a1_0) ∧ w'.cell? ⟨g1, 1, none⟩ = some (.int .i64 a1_1) ∧ w'.cell? ⟨g1, 2, none⟩ = some (.int .i64 a1_2) ∧ w'.cell? ⟨g1, 3, none⟩ = some (.int .i64 a1_3) ∧ w'.cell? ⟨g2, 0, none⟩ = some (.int .i64 a2_0) ∧ w'.cell? ⟨g2, 1, none⟩ = some (.int .i64 a2_1) ∧ w'.cell? ⟨g2, 2, none⟩ = some (.int .i64 a2_2) ∧ w'.cell? ⟨g2, 3, none⟩ = some (.int .i64 a2_3)) ∧ (w'.heap[g1]? = some (.cells #[.int .i64 a1_0, .int .i64 a1_1, .int .i64 a1_2, .int .i64 a1_3] 24 (0, 0))) ∧ (w'.heap[g2]? = some (.cells #[.int .i64 a2_0, .int .i64 a2_1, .int .i64 a2_2, .int .i64 a2_3] 24 (0, 0))) ∧ (w'.heap[g3]? = some (.cells #[.int .i64 0, .int .i64 0, .int .i64 0, .int .i64 0] 24 (0, 0))) ∧ (w'.heap[g4]? = some (.cells #[.int .i64 0, .int .i64 0, .int .i64 0, .int .i64 0] 24 (0, 0))) ∧ (w'.heap[s_.1]? = some (.cells #[.int .i64 0, .int .i64 0] 33 (0, 0))) ∧ (w'.heap[s_.2]? = some (.cells #[.int .i64 0, .int .i64 0] 33 (0, 0))) ∧ (w.heap.size ≤ s_.1) ∧ (w.heap.size ≤ s_.1) ∧ (g1 ≠ s_.1) ∧ (s_.1 ≠ g1) ∧ (g2 ≠ s_.1) ∧ (s_.1 ≠ g2) ∧ (g3 ≠ s_.1) ∧ (s_.1 ≠ g3) ∧ (g4 ≠ s_.1) ∧ (s_.1 ≠ g4) ∧ (s_.2 ≠ s_.1) ∧ (s_.1 ≠ s_.2) ∧ (w.heap.size ≤ s_.2) ∧ (w.heap.size ≤ s_.2) ∧ (g1 ≠ s_.2) ∧ (s_.2 ≠ g1) ∧ (g2 ≠ s_.2) ∧ (s_.2 ≠ g2) ∧ (g3 ≠ s_.2) ∧ (s_.2 ≠ g3) ∧ (g4 ≠ s_.2) ∧ (s_.2 ≠ g4) ∧ (Below w.heap.size w w')) ?_ ?_
    rotate_left
    rotate_left
    ·skip
     rintro ⟨g5, g6⟩ w7 ⟨hS_, h0_, h1_, h2_, h3_, h4_, h5_, h6_, h7_, h8_, h9_, h10_, h11_, h12_, h13_, h14_, h15_, h16_, h17_, h18_, h19_, h20_, h21_, h22_, h23_, h24_, h25_, h26_, h27_, h28_⟩
     have K5 : Bx2 w7 g5 0 0 33 := ⟨h4_⟩
     have K6 : Bx2 w7 g6 0 0 33 := ⟨h5_⟩
     have G5 : Aside0 (w.heap.size ≤ g5) := ⟨h6_⟩
     have G6 : Aside0 (w.heap.size ≤ g5) := ⟨h7_⟩
     have N13 : Aside0 (g1 ≠ g5) := ⟨h8_⟩
     have N14 : Aside0 (g5 ≠ g1) := ⟨h9_⟩
     have N15 : Aside0 (g2 ≠ g5) := ⟨h10_⟩
     have N16 : Aside0 (g5 ≠ g2) := ⟨h11_⟩
     have N17 : Aside0 (g3 ≠ g5) := ⟨h12_⟩
     have N18 : Aside0 (g5 ≠ g3) := ⟨h13_⟩
     have N19 : Aside0 (g4 ≠ g5) := ⟨h14_⟩
     have N20 : Aside0 (g5 ≠ g4) := ⟨h15_⟩
     have N21 : Aside0 (g6 ≠ g5) := ⟨h16_⟩
     have N22 : Aside0 (g5 ≠ g6) := ⟨h17_⟩
     have G7 : Aside0 (w.heap.size ≤ g6) := ⟨h18_⟩
     have G8 : Aside0 (w.heap.size ≤ g6) := ⟨h19_⟩
     have N23 : Aside0 (g1 ≠ g6) := ⟨h20_⟩
     have N24 : Aside0 (g6 ≠ g1) := ⟨h21_⟩
     have N25 : Aside0 (g2 ≠ g6) := ⟨h22_⟩
     have N26 : Aside0 (g6 ≠ g2) := ⟨h23_⟩
     have N27 : Aside0 (g3 ≠ g6) := ⟨h24_⟩
     have N28 : Aside0 (g6 ≠ g3) := ⟨h25_⟩
     have N29 : Aside0 (g4 ≠ g6) := ⟨h26_⟩
     have N30 : Aside0 (g6 ≠ g4) := ⟨h27_⟩
     replace K1 : Bx4 w7 g1 a1_0 a1_1 a1_2 a1_3 24 := ⟨h0_⟩
     replace K2 : Bx4 w7 g2 a2_0 a2_1 a2_2 a2_3 24 := ⟨h1_⟩
     replace K3 : Bx4 w7 g3 0 0 0 0 24 := ⟨h2_⟩
     replace K4 : Bx4 w7 g4 0 0 0 0 24 := ⟨h3_⟩
     replace HB : Aside0 (Below w.heap.size w w7) := ⟨h28_⟩
     clear h0_ h1_ h2_ h3_ h4_ h5_ h6_ h7_ h8_ h9_ h10_ h11_ h12_ h13_ h14_ h15_ h16_ h17_ h18_ h19_ h20_ h21_ h22_ h23_ h24_ h25_ h26_ h27_ h28_
     have hHeld : w7.cell? ⟨g1, 0, none⟩ = some (.int .i64 a1_0) ∧ w7.cell? ⟨g1, 1, none⟩ = some (.int .i64 a1_1) ∧ w7.cell? ⟨g1, 2, none⟩ = some (.int .i64 a1_2) ∧ w7.cell? ⟨g1, 3, none⟩ = some (.int .i64 a1_3) ∧ w7.cell? ⟨g2, 0, none⟩ = some (.int .i64 a2_0) ∧ w7.cell? ⟨g2, 1, none⟩ = some (.int .i64 a2_1) ∧ w7.cell? ⟨g2, 2, none⟩ = some (.int .i64 a2_2) ∧ w7.cell? ⟨g2, 3, none⟩ = some (.int .i64 a2_3) := hS_
     refine norm_ (a' := ?_) ?_ ?_
     rotate_left
     ·simp only [putAll, Act.put, List.setIfInBounds_toArray, List.set_cons_zero, List.set_cons_succ]
      rfl
     refine cl6 2 35 1551 Try.func11 (spec_l10Range.calls _ _ _ _ _ _ _ A1.out) K1 K2 K3 K4 K5 K6 HB fun w8 K1 K2 K3 K4 K5 K6 HB hHeld => ?_
     exact norm_ nz (hJ2_9_10 (g5, g6) _ ⟨hHeld, (Z K1), (Z K2), (Z K3), (Z K4), (Z K5), (Z K6), G5.out, G6.out, N13.out, N14.out, N15.out, N16.out, N17.out, N18.out, N19.out, N20.out, N21.out, N22.out, G7.out, G8.out, N23.out, N24.out, N25.out, N26.out, N27.out, N28.out, N29.out, N30.out, (YA HB)⟩)
    intro hJ9_10
    refine join_ (σ := Unit) 9 (lb 13 15) (fun s_ => [(35, .agg #[.int .i64 t3, .int .i64 t4])]) (fun s_ w' => (w'.cell? ⟨g1, 0, none⟩ = some (.int .i64 a1_0) ∧ w'.cell? ⟨g1, 1, none⟩ = some (.int .i64 a1_1) ∧ w'.cell? ⟨g1, 2, none⟩ = some (.int .i64 a1_2) ∧ w'.cell? ⟨g1, 3, none⟩ = some (.int .i64 a1_3) ∧ w'.cell? ⟨g2, 0, none⟩ = some (.int .i64 a2_0) ∧ w'.cell? ⟨g2, 1, none⟩ = some (.int .i64 a2_1) ∧ w'.cell? ⟨g2, 2, none⟩ = some (.int .i64 a2_2) ∧ w'.cell? ⟨g2, 3, none⟩ = some (.int .i64 a2_3)) ∧ (w'.heap[g1]? = some (.cells #[.int .i64 a1_0, .int .i64 a1_1, .int .i64 a1_2, .int .i64 a1_3] 24 (0, 0))) ∧ (w'.heap[g2]? = some (.cells #[.int .i64 a2_0, .int .i64 a2_1, .int .i64 a2_2, .int .i64 a2_3] 24 (0, 0))) ∧ (w'.heap[g3]? = some (.cells #[.int .i64 0, .int .i64 0, .int .i64 0, .int .i64 0] 24 (0, 0))) ∧ (w'.heap[g4]? = some (.cells #[.int .i64 0, .int .i64 0, .int .i64 0, .int .i64 0] 24 (0, 0))) ∧ (Below w.heap.size w w')) ?_ ?_
    rotate_left
    rotate_left
    ·skip
     rintro _ w7 ⟨hS_, h0_, h1_, h2_, h3_, h4_⟩
     replace K1 : Bx4 w7 g1 a1_0 a1_1 a1_2 a1_3 24 := ⟨h0_⟩
     replace K2 : Bx4 w7 g2 a2_0 a2_1 a2_2 a2_3 24 := ⟨h1_⟩
     replace K3 : Bx4 w7 g3 0 0 0 0 24 := ⟨h2_⟩
     replace K4 : Bx4 w7 g4 0 0 0 0 24 := ⟨h3_⟩
     replace HB : Aside0 (Below w.heap.size w w7) := ⟨h4_⟩
     clear h0_ h1_ h2_ h3_ h4_
     have hHeld : w7.cell? ⟨g1, 0, none⟩ = some (.int .i64 a1_0) ∧ w7.cell? ⟨g1, 1, none⟩ = some (.int .i64 a1_1) ∧ w7.cell? ⟨g1, 2, none⟩ = some (.int .i64 a1_2) ∧ w7.cell? ⟨g1, 3, none⟩ = some (.int .i64 a1_3) ∧ w7.cell? ⟨g2, 0, none⟩ = some (.int .i64 a2_0) ∧ w7.cell? ⟨g2, 1, none⟩ = some (.int .i64 a2_1) ∧ w7.cell? ⟨g2, 2, none⟩ = some (.int .i64 a2_2) ∧ w7.cell? ⟨g2, 3, none⟩ = some (.int .i64 a2_3) := hS_
     refine norm_ (a' := ?_) ?_ ?_
     rotate_left
     ·simp only [putAll, Act.put, List.setIfInBounds_toArray, List.set_cons_zero, List.set_cons_succ]
      rfl
     refine three_ (i := 4) (j := 9) (k := 10) (Ni := some 37) (Nj := some 8) (Nk := some 9) (lb 13 31) (lb 13 527) (lb 13 1039) rfl rfl rfl rfl rfl rfl (three_of HT_.out (by kernel_rfl)) (by decide) (by decide) (by decide) (fun K hK => ?_) (fun K hK => ?_) (fun K hK => ?_)
     ·skip
      refine ck4 hK Try.func11 (spec_l10Range.calls _ _ _ _ _ _ _ A2.out) K1 K2 K3 K4 HB fun w8 K1 K2 K3 K4 HB hHeld => ?_
      clear hK K
      exact norm_ nz (hJ2_4 () _ ⟨hHeld, (Z K1), (Z K2), (Z K3), (Z K4), (YA HB)⟩)
     ·skip
      refine box_step ?hg (N := 8) ?hd (cs := #[.int .i64 0, .int .i64 0]) (t := 33) ?hr ?_; (case hd => rfl); (case hg => rfl); (case hr => first | (go_simp; done) | (go_simp; rfl))
      intro g5 hg w8 hbox hb
      have K5 := am (hbox)
      have G5 := am (bs hg (YA HB))
      have G6 := am (bs hg (YA HB))
      obtain ⟨N13,N14⟩ := ne_ hg K1
      obtain ⟨N15,N16⟩ := ne_ hg K2
      obtain ⟨N17,N18⟩ := ne_ hg K3
      obtain ⟨N19,N20⟩ := ne_ hg K4
      obtain ⟨K1, K2, K3, K4, HB⟩ := bk4 K1 K2 K3 K4 HB hb
      clear hb hbox hg
      refine kk hK ⟨bc K1 0, bc K1 1, bc K1 2, bc K1 3, bc K2 0, bc K2 1, bc K2 2, bc K2 3⟩ fun hHeld => ?_
      clear hK K
      exact norm_ nz (hJ2_9 (g5) _ ⟨hHeld, (Z K1), (Z K2), (Z K3), (Z K4), (Z K5), G5.out, G6.out, N13.out, N14.out, N15.out, N16.out, N17.out, N18.out, N19.out, N20.out, (YA HB)⟩)
     skip
     refine box_step ?hg (N := 9) ?hd (cs := #[.int .i64 0, .int .i64 0]) (t := 33) ?hr ?_; (case hd => rfl); (case hg => rfl); (case hr => first | (go_simp; done) | (go_simp; rfl))
     intro g5 hg w8 hbox hb
     have K5 := am (hbox)
     have G5 := am (bs hg (YA HB))
     have G6 := am (bs hg (YA HB))
     obtain ⟨N13,N14⟩ := ne_ hg K1
     obtain ⟨N15,N16⟩ := ne_ hg K2
     obtain ⟨N17,N18⟩ := ne_ hg K3
     obtain ⟨N19,N20⟩ := ne_ hg K4
     obtain ⟨K1, K2, K3, K4, HB⟩ := bk4 K1 K2 K3 K4 HB hb
     clear hb hbox hg
     refine kk hK ⟨bc K1 0, bc K1 1, bc K1 2, bc K1 3, bc K2 0, bc K2 1, bc K2 2, bc K2 3⟩ fun hHeld => ?_
     clear hK K
     exact norm_ nz (hJ2_10 (g5) _ ⟨hHeld, (Z K1), (Z K2), (Z K3), (Z K4), (Z K5), G5.out, G6.out, N13.out, N14.out, N15.out, N16.out, N17.out, N18.out, N19.out, N20.out, (YA HB)⟩)
    intro hJ2
    refine join_ (σ := Nat) 9 (lb 13 523) (fun s_ => [(8, .pointer (some ⟨s_, 0, none⟩))]) (fun s_ w' => (w'.cell? ⟨g1, 0, none⟩ = some (.int .i64 a1_0) ∧ w'.cell? ⟨g1, 1, none⟩ = some (.int .i64 a1_1) ∧ w'.cell? ⟨g1, 2, none⟩ = some (.int .i64 a1_2) ∧ w'.cell? ⟨g1, 3, none⟩ = some (.int .i64 a1_3) ∧ w'.cell? ⟨g2, 0, none⟩ = some (.int .i64 a2_0) ∧ w'.cell? ⟨g2, 1, none⟩ = some (.int .i64 a2_1) ∧ w'.cell? ⟨g2, 2, none⟩ = some (.int .i64 a2_2) ∧ w'.cell? ⟨g2, 3, none⟩ = some (.int .i64 a2_3)) ∧ (w'.heap[g1]? = some (.cells #[.int .i64 a1_0, .int .i64 a1_1, .int .i64 a1_2, .int .i64 a1_3] 24 (0, 0))) ∧ (w'.heap[g2]? = some (.cells #[.int .i64 a2_0, .int .i64 a2_1, .int .i64 a2_2, .int .i64 a2_3] 24 (0, 0))) ∧ (w'.heap[g3]? = some (.cells #[.int .i64 0, .int .i64 0, .int .i64 0, .int .i64 0] 24 (0, 0))) ∧ (w'.heap[g4]? = some (.cells #[.int .i64 0, .int .i64 0, .int .i64 0, .int .i64 0] 24 (0, 0))) ∧ (w'.heap[s_]? = some (.cells #[.int .i64 0, .int .i64 0] 33 (0, 0))) ∧ (w.heap.size ≤ s_) ∧ (w.heap.size ≤ s_) ∧ (g1 ≠ s_) ∧ (s_ ≠ g1) ∧ (g2 ≠ s_) ∧ (s_ ≠ g2) ∧ (g3 ≠ s_) ∧ (s_ ≠ g3) ∧ (g4 ≠ s_) ∧ (s_ ≠ g4) ∧ (Below w.heap.size w w')) ?_ ?_
    rotate_left
    rotate_left
    ·skip
     rintro g5 w7 ⟨hS_, h0_, h1_, h2_, h3_, h4_, h5_, h6_, h7_, h8_, h9_, h10_, h11_, h12_, h13_, h14_, h15_⟩
     have K5 : Bx2 w7 g5 0 0 33 := ⟨h4_⟩
     have G5 : Aside0 (w.heap.size ≤ g5) := ⟨h5_⟩
     have G6 : Aside0 (w.heap.size ≤ g5) := ⟨h6_⟩
     have N13 : Aside0 (g1 ≠ g5) := ⟨h7_⟩
     have N14 : Aside0 (g5 ≠ g1) := ⟨h8_⟩
     have N15 : Aside0 (g2 ≠ g5) := ⟨h9_⟩
     have N16 : Aside0 (g5 ≠ g2) := ⟨h10_⟩
     have N17 : Aside0 (g3 ≠ g5) := ⟨h11_⟩
     have N18 : Aside0 (g5 ≠ g3) := ⟨h12_⟩
     have N19 : Aside0 (g4 ≠ g5) := ⟨h13_⟩
     have N20 : Aside0 (g5 ≠ g4) := ⟨h14_⟩
     replace K1 : Bx4 w7 g1 a1_0 a1_1 a1_2 a1_3 24 := ⟨h0_⟩
     replace K2 : Bx4 w7 g2 a2_0 a2_1 a2_2 a2_3 24 := ⟨h1_⟩
     replace K3 : Bx4 w7 g3 0 0 0 0 24 := ⟨h2_⟩
     replace K4 : Bx4 w7 g4 0 0 0 0 24 := ⟨h3_⟩
     replace HB : Aside0 (Below w.heap.size w w7) := ⟨h15_⟩
     clear h0_ h1_ h2_ h3_ h4_ h5_ h6_ h7_ h8_ h9_ h10_ h11_ h12_ h13_ h14_ h15_
     have hHeld : w7.cell? ⟨g1, 0, none⟩ = some (.int .i64 a1_0) ∧ w7.cell? ⟨g1, 1, none⟩ = some (.int .i64 a1_1) ∧ w7.cell? ⟨g1, 2, none⟩ = some (.int .i64 a1_2) ∧ w7.cell? ⟨g1, 3, none⟩ = some (.int .i64 a1_3) ∧ w7.cell? ⟨g2, 0, none⟩ = some (.int .i64 a2_0) ∧ w7.cell? ⟨g2, 1, none⟩ = some (.int .i64 a2_1) ∧ w7.cell? ⟨g2, 2, none⟩ = some (.int .i64 a2_2) ∧ w7.cell? ⟨g2, 3, none⟩ = some (.int .i64 a2_3) := hS_
     refine norm_ (a' := ?_) ?_ ?_
     rotate_left
     ·simp only [putAll, Act.put, List.setIfInBounds_toArray, List.set_cons_zero, List.set_cons_succ]
      rfl
     refine two_ (i := 2) (j := 10) (Ni := some 35) (Nj := some 9) (lb 13 527) (lb 13 1547) rfl rfl rfl rfl (two_of HT_.out (by kernel_rfl)) (by decide) (by decide) (fun K hK => ?_) (fun K hK => ?_)
     ·skip
      refine ck5 hK Try.func11 (spec_l10Range.calls _ _ _ _ _ _ _ A1.out) K1 K2 K3 K4 K5 HB fun w8 K1 K2 K3 K4 K5 HB hHeld => ?_
      clear hK K
      exact norm_ nz (hJ2_9 (g5) _ ⟨hHeld, (Z K1), (Z K2), (Z K3), (Z K4), (Z K5), G5.out, G6.out, N13.out, N14.out, N15.out, N16.out, N17.out, N18.out, N19.out, N20.out, (YA HB)⟩)
     skip
     refine box_step ?hg (N := 9) ?hd (cs := #[.int .i64 0, .int .i64 0]) (t := 33) ?hr ?_; (case hd => rfl); (case hg => rfl); (case hr => first | (go_simp; done) | (go_simp; rfl))
     intro g6 hg w8 hbox hb
     have K6 := am (hbox)
     have G7 := am (bs hg (YA HB))
     have G8 := am (bs hg (YA HB))
     obtain ⟨N21,N22⟩ := ne_ hg K1
     obtain ⟨N23,N24⟩ := ne_ hg K2
     obtain ⟨N25,N26⟩ := ne_ hg K3
     obtain ⟨N27,N28⟩ := ne_ hg K4
     obtain ⟨N29,N30⟩ := ne_ hg K5
     obtain ⟨K1, K2, K3, K4, K5, HB⟩ := bk5 K1 K2 K3 K4 K5 HB hb
     clear hb hbox hg
     refine kk hK ⟨bc K1 0, bc K1 1, bc K1 2, bc K1 3, bc K2 0, bc K2 1, bc K2 2, bc K2 3⟩ fun hHeld => ?_
     clear hK K
     exact norm_ nz (hJ9_10 (g5, g6) _ ⟨hHeld, (Z K1), (Z K2), (Z K3), (Z K4), (Z K5), (Z K6), G5.out, G6.out, N13.out, N14.out, N15.out, N16.out, N17.out, N18.out, N19.out, N20.out, N30.out, N29.out, G7.out, G8.out, N21.out, N22.out, N23.out, N24.out, N25.out, N26.out, N27.out, N28.out, (YA HB)⟩)
    intro hJ9
    refine join_ (σ := Nat) 9 (lb 13 1035) (fun s_ => [(9, .pointer (some ⟨s_, 0, none⟩))]) (fun s_ w' => (w'.cell? ⟨g1, 0, none⟩ = some (.int .i64 a1_0) ∧ w'.cell? ⟨g1, 1, none⟩ = some (.int .i64 a1_1) ∧ w'.cell? ⟨g1, 2, none⟩ = some (.int .i64 a1_2) ∧ w'.cell? ⟨g1, 3, none⟩ = some (.int .i64 a1_3) ∧ w'.cell? ⟨g2, 0, none⟩ = some (.int .i64 a2_0) ∧ w'.cell? ⟨g2, 1, none⟩ = some (.int .i64 a2_1) ∧ w'.cell? ⟨g2, 2, none⟩ = some (.int .i64 a2_2) ∧ w'.cell? ⟨g2, 3, none⟩ = some (.int .i64 a2_3)) ∧ (w'.heap[g1]? = some (.cells #[.int .i64 a1_0, .int .i64 a1_1, .int .i64 a1_2, .int .i64 a1_3] 24 (0, 0))) ∧ (w'.heap[g2]? = some (.cells #[.int .i64 a2_0, .int .i64 a2_1, .int .i64 a2_2, .int .i64 a2_3] 24 (0, 0))) ∧ (w'.heap[g3]? = some (.cells #[.int .i64 0, .int .i64 0, .int .i64 0, .int .i64 0] 24 (0, 0))) ∧ (w'.heap[g4]? = some (.cells #[.int .i64 0, .int .i64 0, .int .i64 0, .int .i64 0] 24 (0, 0))) ∧ (w'.heap[s_]? = some (.cells #[.int .i64 0, .int .i64 0] 33 (0, 0))) ∧ (w.heap.size ≤ s_) ∧ (w.heap.size ≤ s_) ∧ (g1 ≠ s_) ∧ (s_ ≠ g1) ∧ (g2 ≠ s_) ∧ (s_ ≠ g2) ∧ (g3 ≠ s_) ∧ (s_ ≠ g3) ∧ (g4 ≠ s_) ∧ (s_ ≠ g4) ∧ (Below w.heap.size w w')) ?_ ?_
    rotate_left
    ·intro hJ10
     refine three_ (i := 2) (j := 9) (k := 10) (Ni := some 35) (Nj := some 8) (Nk := some 9) (lb 13 15) (lb 13 523) (lb 13 1035) rfl rfl rfl rfl rfl rfl (three_of HT_.out (by kernel_rfl)) (by decide) (by decide) (by decide) (fun K hK => ?_) (fun K hK => ?_) (fun K hK => ?_)
     ·skip
      refine ck4 hK Try.func11 (spec_l10Range.calls _ _ _ _ _ _ _ A1.out) K1 K2 K3 K4 HB fun w7 K1 K2 K3 K4 HB hHeld => ?_
      clear hK K
      exact norm_ nz (hJ2 () _ ⟨hHeld, (Z K1), (Z K2), (Z K3), (Z K4), (YA HB)⟩)
     ·skip
      refine box_step ?hg (N := 8) ?hd (cs := #[.int .i64 0, .int .i64 0]) (t := 33) ?hr ?_; (case hd => rfl); (case hg => rfl); (case hr => first | (go_simp; done) | (go_simp; rfl))
      intro g5 hg w7 hbox hb
      have K5 := am (hbox)
      have G5 := am (bs hg (YA HB))
      have G6 := am (bs hg (YA HB))
      obtain ⟨N13,N14⟩ := ne_ hg K1
      obtain ⟨N15,N16⟩ := ne_ hg K2
      obtain ⟨N17,N18⟩ := ne_ hg K3
      obtain ⟨N19,N20⟩ := ne_ hg K4
      obtain ⟨K1, K2, K3, K4, HB⟩ := bk4 K1 K2 K3 K4 HB hb
      clear hb hbox hg
      refine kk hK ⟨bc K1 0, bc K1 1, bc K1 2, bc K1 3, bc K2 0, bc K2 1, bc K2 2, bc K2 3⟩ fun hHeld => ?_
      clear hK K
      exact norm_ nz (hJ9 (g5) _ ⟨hHeld, (Z K1), (Z K2), (Z K3), (Z K4), (Z K5), G5.out, G6.out, N13.out, N14.out, N15.out, N16.out, N17.out, N18.out, N19.out, N20.out, (YA HB)⟩)
     skip
     refine box_step ?hg (N := 9) ?hd (cs := #[.int .i64 0, .int .i64 0]) (t := 33) ?hr ?_; (case hd => rfl); (case hg => rfl); (case hr => first | (go_simp; done) | (go_simp; rfl))
     intro g5 hg w7 hbox hb
     have K5 := am (hbox)
     have G5 := am (bs hg (YA HB))
     have G6 := am (bs hg (YA HB))
     obtain ⟨N13,N14⟩ := ne_ hg K1
     obtain ⟨N15,N16⟩ := ne_ hg K2
     obtain ⟨N17,N18⟩ := ne_ hg K3
     obtain ⟨N19,N20⟩ := ne_ hg K4
     obtain ⟨K1, K2, K3, K4, HB⟩ := bk4 K1 K2 K3 K4 HB hb
     clear hb hbox hg
     refine kk hK ⟨bc K1 0, bc K1 1, bc K1 2, bc K1 3, bc K2 0, bc K2 1, bc K2 2, bc K2 3⟩ fun hHeld => ?_
     clear hK K
     exact norm_ nz (hJ10 (g5) _ ⟨hHeld, (Z K1), (Z K2), (Z K3), (Z K4), (Z K5), G5.out, G6.out, N13.out, N14.out, N15.out, N16.out, N17.out, N18.out, N19.out, N20.out, (YA HB)⟩)
    skip
    rintro g5 w7 ⟨hS_, h0_, h1_, h2_, h3_, h4_, h5_, h6_, h7_, h8_, h9_, h10_, h11_, h12_, h13_, h14_, h15_⟩
    have K5 : Bx2 w7 g5 0 0 33 := ⟨h4_⟩
    have G5 : Aside0 (w.heap.size ≤ g5) := ⟨h5_⟩
    have G6 : Aside0 (w.heap.size ≤ g5) := ⟨h6_⟩
    have N13 : Aside0 (g1 ≠ g5) := ⟨h7_⟩
    have N14 : Aside0 (g5 ≠ g1) := ⟨h8_⟩
    have N15 : Aside0 (g2 ≠ g5) := ⟨h9_⟩
    have N16 : Aside0 (g5 ≠ g2) := ⟨h10_⟩
    have N17 : Aside0 (g3 ≠ g5) := ⟨h11_⟩
    have N18 : Aside0 (g5 ≠ g3) := ⟨h12_⟩
    have N19 : Aside0 (g4 ≠ g5) := ⟨h13_⟩
    have N20 : Aside0 (g5 ≠ g4) := ⟨h14_⟩
    replace K1 : Bx4 w7 g1 a1_0 a1_1 a1_2 a1_3 24 := ⟨h0_⟩
    replace K2 : Bx4 w7 g2 a2_0 a2_1 a2_2 a2_3 24 := ⟨h1_⟩
    replace K3 : Bx4 w7 g3 0 0 0 0 24 := ⟨h2_⟩
    replace K4 : Bx4 w7 g4 0 0 0 0 24 := ⟨h3_⟩
    replace HB : Aside0 (Below w.heap.size w w7) := ⟨h15_⟩
    clear h0_ h1_ h2_ h3_ h4_ h5_ h6_ h7_ h8_ h9_ h10_ h11_ h12_ h13_ h14_ h15_
    have hHeld : w7.cell? ⟨g1, 0, none⟩ = some (.int .i64 a1_0) ∧ w7.cell? ⟨g1, 1, none⟩ = some (.int .i64 a1_1) ∧ w7.cell? ⟨g1, 2, none⟩ = some (.int .i64 a1_2) ∧ w7.cell? ⟨g1, 3, none⟩ = some (.int .i64 a1_3) ∧ w7.cell? ⟨g2, 0, none⟩ = some (.int .i64 a2_0) ∧ w7.cell? ⟨g2, 1, none⟩ = some (.int .i64 a2_1) ∧ w7.cell? ⟨g2, 2, none⟩ = some (.int .i64 a2_2) ∧ w7.cell? ⟨g2, 3, none⟩ = some (.int .i64 a2_3) := hS_
    refine norm_ (a' := ?_) ?_ ?_
    rotate_left
    ·simp only [putAll, Act.put, List.setIfInBounds_toArray, List.set_cons_zero, List.set_cons_succ]
     rfl
    refine two_ (i := 2) (j := 9) (Ni := some 35) (Nj := some 8) (lb 13 1039) (lb 13 1547) rfl rfl rfl rfl (two_of HT_.out (by kernel_rfl)) (by decide) (by decide) (fun K hK => ?_) (fun K hK => ?_)
    ·skip
     refine ck5 hK Try.func11 (spec_l10Range.calls _ _ _ _ _ _ _ A1.out) K1 K2 K3 K4 K5 HB fun w8 K1 K2 K3 K4 K5 HB hHeld => ?_
     clear hK K
     exact norm_ nz (hJ2_10 (g5) _ ⟨hHeld, (Z K1), (Z K2), (Z K3), (Z K4), (Z K5), G5.out, G6.out, N13.out, N14.out, N15.out, N16.out, N17.out, N18.out, N19.out, N20.out, (YA HB)⟩)
    skip
    refine box_step ?hg (N := 8) ?hd (cs := #[.int .i64 0, .int .i64 0]) (t := 33) ?hr ?_; (case hd => rfl); (case hg => rfl); (case hr => first | (go_simp; done) | (go_simp; rfl))
    intro g6 hg w8 hbox hb
    have K6 := am (hbox)
    have G7 := am (bs hg (YA HB))
    have G8 := am (bs hg (YA HB))
    obtain ⟨N21,N22⟩ := ne_ hg K1
    obtain ⟨N23,N24⟩ := ne_ hg K2
    obtain ⟨N25,N26⟩ := ne_ hg K3
    obtain ⟨N27,N28⟩ := ne_ hg K4
    obtain ⟨N29,N30⟩ := ne_ hg K5
    obtain ⟨K1, K2, K3, K4, K5, HB⟩ := bk5 K1 K2 K3 K4 K5 HB hb
    clear hb hbox hg
    refine kk hK ⟨bc K1 0, bc K1 1, bc K1 2, bc K1 3, bc K2 0, bc K2 1, bc K2 2, bc K2 3⟩ fun hHeld => ?_
    clear hK K
    exact norm_ nz (hJ9_10 (g6, g5) _ ⟨hHeld, (Z K1), (Z K2), (Z K3), (Z K4), (Z K6), (Z K5), G7.out, G8.out, N21.out, N22.out, N23.out, N24.out, N25.out, N26.out, N27.out, N28.out, N29.out, N30.out, G5.out, G6.out, N13.out, N14.out, N15.out, N16.out, N17.out, N18.out, N19.out, N20.out, (YA HB)⟩)
   rintro ⟨g5, g6⟩ w7 ⟨hS_, h0_, h1_, h2_, h3_, h4_, h5_, h6_, h7_, h8_, h9_, h10_, h11_, h12_, h13_, h14_, h15_, h16_, h17_, h18_, h19_, h20_, h21_, h22_, h23_, h24_, h25_, h26_, h27_, h28_⟩
   have K5 : Bx2 w7 g5 0 0 33 := ⟨h4_⟩
   have K6 : Bx2 w7 g6 0 0 33 := ⟨h5_⟩
   have G5 : Aside0 (w.heap.size ≤ g5) := ⟨h6_⟩
   have G6 : Aside0 (w.heap.size ≤ g5) := ⟨h7_⟩
   have N13 : Aside0 (g1 ≠ g5) := ⟨h8_⟩
   have N14 : Aside0 (g5 ≠ g1) := ⟨h9_⟩
   have N15 : Aside0 (g2 ≠ g5) := ⟨h10_⟩
   have N16 : Aside0 (g5 ≠ g2) := ⟨h11_⟩
   have N17 : Aside0 (g3 ≠ g5) := ⟨h12_⟩
   have N18 : Aside0 (g5 ≠ g3) := ⟨h13_⟩
   have N19 : Aside0 (g4 ≠ g5) := ⟨h14_⟩
   have N20 : Aside0 (g5 ≠ g4) := ⟨h15_⟩
   have N21 : Aside0 (g6 ≠ g5) := ⟨h16_⟩
   have N22 : Aside0 (g5 ≠ g6) := ⟨h17_⟩
   have G7 : Aside0 (w.heap.size ≤ g6) := ⟨h18_⟩
   have G8 : Aside0 (w.heap.size ≤ g6) := ⟨h19_⟩
   have N23 : Aside0 (g1 ≠ g6) := ⟨h20_⟩
   have N24 : Aside0 (g6 ≠ g1) := ⟨h21_⟩
   have N25 : Aside0 (g2 ≠ g6) := ⟨h22_⟩
   have N26 : Aside0 (g6 ≠ g2) := ⟨h23_⟩
   have N27 : Aside0 (g3 ≠ g6) := ⟨h24_⟩
   have N28 : Aside0 (g6 ≠ g3) := ⟨h25_⟩
   have N29 : Aside0 (g4 ≠ g6) := ⟨h26_⟩
   have N30 : Aside0 (g6 ≠ g4) := ⟨h27_⟩
   replace K1 : Bx4 w7 g1 a1_0 a1_1 a1_2 a1_3 24 := ⟨h0_⟩
   replace K2 : Bx4 w7 g2 a2_0 a2_1 a2_2 a2_3 24 := ⟨h1_⟩
   replace K3 : Bx4 w7 g3 0 0 0 0 24 := ⟨h2_⟩
   replace K4 : Bx4 w7 g4 0 0 0 0 24 := ⟨h3_⟩
   replace HB : Aside0 (Below w.heap.size w w7) := ⟨h28_⟩
   clear h0_ h1_ h2_ h3_ h4_ h5_ h6_ h7_ h8_ h9_ h10_ h11_ h12_ h13_ h14_ h15_ h16_ h17_ h18_ h19_ h20_ h21_ h22_ h23_ h24_ h25_ h26_ h27_ h28_
   have hHeld : w7.cell? ⟨g1, 0, none⟩ = some (.int .i64 a1_0) ∧ w7.cell? ⟨g1, 1, none⟩ = some (.int .i64 a1_1) ∧ w7.cell? ⟨g1, 2, none⟩ = some (.int .i64 a1_2) ∧ w7.cell? ⟨g1, 3, none⟩ = some (.int .i64 a1_3) ∧ w7.cell? ⟨g2, 0, none⟩ = some (.int .i64 a2_0) ∧ w7.cell? ⟨g2, 1, none⟩ = some (.int .i64 a2_1) ∧ w7.cell? ⟨g2, 2, none⟩ = some (.int .i64 a2_2) ∧ w7.cell? ⟨g2, 3, none⟩ = some (.int .i64 a2_3) := hS_
   refine norm_ (a' := ?_) ?_ ?_
   rotate_left
   ·simp only [putAll, Act.put, List.setIfInBounds_toArray, List.set_cons_zero, List.set_cons_succ]
    rfl
   refine on 11 none 4095 fun K hK => ?_
   have s8 : w7.cell? ⟨g5, 0, none⟩ = some (.int .i64 0) := bc K5 0
   have hfs57 := blk_frozen K5.out 0
   have z_ := ns10 N13 N15 N17 N19 N21 N14 N16 N18 N20 N22
   have s9 : w7.cell? ⟨g5, 1, none⟩ = some (.int .i64 0) := bc K5 1
   have hfs58 := blk_frozen K5.out 1
   have z_ := ns10 N13 N15 N17 N19 N21 N14 N16 N18 N20 N22
   refine skip_ (w1 := ?_) (by rfl) rfl ?_ ?_
   rotate_left
   ·go_simp
    rfl
   refine hK.out _ _ ⟨(cf N13 ((cf N13 (hHeld.1)))), (cf N13 ((cf N13 (hHeld.2.1)))), (cf N13 ((cf N13 (hHeld.2.2.1)))), (cf N13 ((cf N13 (hHeld.2.2.2.1)))), (cf N15 ((cf N15 (hHeld.2.2.2.2.1)))), (cf N15 ((cf N15 (hHeld.2.2.2.2.2.1)))), (cf N15 ((cf N15 (hHeld.2.2.2.2.2.2.1)))), (cf N15 ((cf N15 (hHeld.2.2.2.2.2.2.2))))⟩ (fun hHeld => ?_)
   clear hK K
   refine on 12 none 8191 fun K hK => ?_
   have s10 : w7.cell? ⟨g6, 0, none⟩ = some (.int .i64 0) := bc K6 0
   have hfs59 := blk_frozen K6.out 0
   have z_ := ns10 N23 N25 N27 N29 N22 N24 N26 N28 N30 N21
   have s11 : w7.cell? ⟨g6, 1, none⟩ = some (.int .i64 0) := bc K6 1
   have hfs60 := blk_frozen K6.out 1
   have z_ := ns10 N23 N25 N27 N29 N22 N24 N26 N28 N30 N21
   refine skip_ (w1 := ?_) (by rfl) rfl ?_ ?_
   rotate_left
   ·go_simp
    rfl
   refine hK.out _ _ ⟨(cf N23 ((cf N23 (hHeld.1)))), (cf N23 ((cf N23 (hHeld.2.1)))), (cf N23 ((cf N23 (hHeld.2.2.1)))), (cf N23 ((cf N23 (hHeld.2.2.2.1)))), (cf N25 ((cf N25 (hHeld.2.2.2.2.1)))), (cf N25 ((cf N25 (hHeld.2.2.2.2.2.1)))), (cf N25 ((cf N25 (hHeld.2.2.2.2.2.2.1)))), (cf N25 ((cf N25 (hHeld.2.2.2.2.2.2.2))))⟩ (fun hHeld => ?_)
   clear hK K
   refine done_ (done_of HT_.out (by kernel_rfl)) ?_
   try go_wp2
   have n0_ : Aside0 (((((w7.setCell ⟨g5, 0, none⟩ (.int .i64 t7)).setCell ⟨g5, 1, none⟩ (.int .i64 t8)).setCell ⟨g6, 0, none⟩ (.int .i64 t9)).setCell ⟨g6, 1, none⟩ (.int .i64 t10)).heap[g1]? = some (.cells #[.int .i64 a1_0, .int .i64 a1_1, .int .i64 a1_2, .int .i64 a1_3] 24 (0, 0))) := ⟨by refine fa N23 ?_; refine fa N23 ?_; refine fa N13 ?_; refine fa N13 ?_; exact Z K1⟩
   have n1_ : Aside0 (((((w7.setCell ⟨g5, 0, none⟩ (.int .i64 t7)).setCell ⟨g5, 1, none⟩ (.int .i64 t8)).setCell ⟨g6, 0, none⟩ (.int .i64 t9)).setCell ⟨g6, 1, none⟩ (.int .i64 t10)).heap[g2]? = some (.cells #[.int .i64 a2_0, .int .i64 a2_1, .int .i64 a2_2, .int .i64 a2_3] 24 (0, 0))) := ⟨by refine fa N25 ?_; refine fa N25 ?_; refine fa N15 ?_; refine fa N15 ?_; exact Z K2⟩
   have n2_ : Aside0 (((((w7.setCell ⟨g5, 0, none⟩ (.int .i64 t7)).setCell ⟨g5, 1, none⟩ (.int .i64 t8)).setCell ⟨g6, 0, none⟩ (.int .i64 t9)).setCell ⟨g6, 1, none⟩ (.int .i64 t10)).heap[g3]? = some (.cells #[.int .i64 0, .int .i64 0, .int .i64 0, .int .i64 0] 24 (0, 0))) := ⟨by refine fa N27 ?_; refine fa N27 ?_; refine fa N17 ?_; refine fa N17 ?_; exact Z K3⟩
   have n3_ : Aside0 (((((w7.setCell ⟨g5, 0, none⟩ (.int .i64 t7)).setCell ⟨g5, 1, none⟩ (.int .i64 t8)).setCell ⟨g6, 0, none⟩ (.int .i64 t9)).setCell ⟨g6, 1, none⟩ (.int .i64 t10)).heap[g4]? = some (.cells #[.int .i64 0, .int .i64 0, .int .i64 0, .int .i64 0] 24 (0, 0))) := ⟨by refine fa N29 ?_; refine fa N29 ?_; refine fa N19 ?_; refine fa N19 ?_; exact Z K4⟩
   have n4_ : Aside0 (((((w7.setCell ⟨g5, 0, none⟩ (.int .i64 t7)).setCell ⟨g5, 1, none⟩ (.int .i64 t8)).setCell ⟨g6, 0, none⟩ (.int .i64 t9)).setCell ⟨g6, 1, none⟩ (.int .i64 t10)).heap[g5]? = some (.cells #[.int .i64 t7, .int .i64 t8] 33 (0, 0))) := ⟨by refine fa N22 ?_; refine fa N22 ?_; refine pf ?_; refine blk_put (cs := #[.int .i64 t7, .int .i64 0]) ?_ 1 _ rfl; refine pf ?_; refine blk_put (cs := #[.int .i64 0, .int .i64 0]) ?_ 0 _ rfl; exact Z K5⟩
   have n5_ : Aside0 (((((w7.setCell ⟨g5, 0, none⟩ (.int .i64 t7)).setCell ⟨g5, 1, none⟩ (.int .i64 t8)).setCell ⟨g6, 0, none⟩ (.int .i64 t9)).setCell ⟨g6, 1, none⟩ (.int .i64 t10)).heap[g6]? = some (.cells #[.int .i64 t9, .int .i64 t10] 33 (0, 0))) := ⟨by refine pf ?_; refine blk_put (cs := #[.int .i64 t9, .int .i64 0]) ?_ 1 _ rfl; refine pf ?_; refine blk_put (cs := #[.int .i64 0, .int .i64 0]) ?_ 0 _ rfl; refine fa N21 ?_; refine fa N21 ?_; exact Z K6⟩
   have n6_ : Aside0 (Below w.heap.size w ((((w7.setCell ⟨g5, 0, none⟩ (.int .i64 t7)).setCell ⟨g5, 1, none⟩ (.int .i64 t8)).setCell ⟨g6, 0, none⟩ (.int .i64 t9)).setCell ⟨g6, 1, none⟩ (.int .i64 t10))) := ⟨YA HB⟩
   (try clear K1)
   (try clear K2)
   (try clear K3)
   (try clear K4)
   (try clear K5)
   (try clear K6)
   (try clear HB)
   generalize ((((w7.setCell ⟨g5, 0, none⟩ (.int .i64 t7)).setCell ⟨g5, 1, none⟩ (.int .i64 t8)).setCell ⟨g6, 0, none⟩ (.int .i64 t9)).setCell ⟨g6, 1, none⟩ (.int .i64 t10)) = w8 at n0_ n1_ n2_ n3_ n4_ n5_ n6_ ⊢
   have K1 := n0_
   have K2 := n1_
   have K3 := n2_
   have K4 := n3_
   have K5 := n4_
   have K6 := n5_
   have HB := n6_
   clear n0_ n1_ n2_ n3_ n4_ n5_ n6_
   obtain ⟨K1, K2, K3, K4, K5, K6, HB⟩ := dk6 K1 K2 K3 K4 K5 K6 HB
   refine start_ (n := 6) (S := fun w' => w'.cell? ⟨g5, 0, none⟩ = some (.int .i64 t7) ∧ w'.cell? ⟨g5, 1, none⟩ = some (.int .i64 t8) ∧ w'.cell? ⟨g1, 0, none⟩ = some (.int .i64 a1_0) ∧ w'.cell? ⟨g1, 1, none⟩ = some (.int .i64 a1_1) ∧ w'.cell? ⟨g1, 2, none⟩ = some (.int .i64 a1_2) ∧ w'.cell? ⟨g1, 3, none⟩ = some (.int .i64 a1_3)) (ds := []) (lb 6 0) (by kernel_rfl) rfl rfl ⟨bc K5 0, bc K5 1, bc K1 0, bc K1 1, bc K1 2, bc K1 3⟩ (fun hHeld => ?_)
   generalize w8.drew = w9 at K1 K2 K3 K4 K5 K6 HB hHeld ⊢
   refine take_ (i := 0) (N := some 41) (v := ?_) (a' := ?_) (lb 6 1) rfl rfl (by kernel_rfl) (fun _ _ _ h => h) (Or.inl ⟨by rfl, ?_⟩) hHeld ?_ ?_
   rotate_left
   ·rintro w' ⟨s0, s1, s2, s3, s4, s5⟩
    go_simp
    with_reducible rfl
   rotate_left
   ·exact pz
   refine take_ (i := 1) (N := some 42) (v := ?_) (a' := ?_) (lb 6 3) rfl rfl (by kernel_rfl) (fun _ _ _ h => h) (Or.inl ⟨by rfl, ?_⟩) hHeld ?_ ?_
   rotate_left
   ·rintro w' ⟨s0, s1, s2, s3, s4, s5⟩
    go_simp
    with_reducible rfl
   rotate_left
   ·exact pz
   refine join_ (σ := Nat) 1 (lb 6 31) (fun s_ => [(43, .agg #[.int .i64 t11, .int .i64 t12]), (44, .agg #[.int .i64 t13, .int .i64 t14, .int .i64 t15, .int .i64 t16]), (10, .pointer (some ⟨s_, 0, none⟩))]) (fun s_ w' => (w'.cell? ⟨g5, 0, none⟩ = some (.int .i64 t7) ∧ w'.cell? ⟨g5, 1, none⟩ = some (.int .i64 t8) ∧ w'.cell? ⟨g1, 0, none⟩ = some (.int .i64 a1_0) ∧ w'.cell? ⟨g1, 1, none⟩ = some (.int .i64 a1_1) ∧ w'.cell? ⟨g1, 2, none⟩ = some (.int .i64 a1_2) ∧ w'.cell? ⟨g1, 3, none⟩ = some (.int .i64 a1_3)) ∧ (w'.heap[g1]? = some (.cells #[.int .i64 a1_0, .int .i64 a1_1, .int .i64 a1_2, .int .i64 a1_3] 24 (0, 0))) ∧ (w'.heap[g2]? = some (.cells #[.int .i64 a2_0, .int .i64 a2_1, .int .i64 a2_2, .int .i64 a2_3] 24 (0, 0))) ∧ (w'.heap[g3]? = some (.cells #[.int .i64 0, .int .i64 0, .int .i64 0, .int .i64 0] 24 (0, 0))) ∧ (w'.heap[g4]? = some (.cells #[.int .i64 0, .int .i64 0, .int .i64 0, .int .i64 0] 24 (0, 0))) ∧ (w'.heap[g5]? = some (.cells #[.int .i64 t7, .int .i64 t8] 33 (0, 0))) ∧ (w'.heap[g6]? = some (.cells #[.int .i64 t9, .int .i64 t10] 33 (0, 0))) ∧ (w'.heap[s_]? = some (.cells #[.int .i64 0, .int .i64 0, .int .i64 0, .int .i64 0] 24 (0, 0))) ∧ (w.heap.size ≤ s_) ∧ (w.heap.size ≤ s_) ∧ (g1 ≠ s_) ∧ (s_ ≠ g1) ∧ (g2 ≠ s_) ∧ (s_ ≠ g2) ∧ (g3 ≠ s_) ∧ (s_ ≠ g3) ∧ (g4 ≠ s_) ∧ (s_ ≠ g4) ∧ (g5 ≠ s_) ∧ (s_ ≠ g5) ∧ (g6 ≠ s_) ∧ (s_ ≠ g6) ∧ (Below w.heap.size w w')) ?_ ?_
   rotate_left
   ·intro hCont
    refine two_ (i := 2) (j := 4) (Ni := some 43) (Nj := some 10) (lb 6 7) (lb 6 19) rfl rfl rfl rfl (by kernel_rfl) (by decide) (by decide) (fun K hK => ?_) (fun K hK => ?_)
    rotate_left
    ·skip
     refine box_step ?hg (N := 10) ?hd (cs := #[.int .i64 0, .int .i64 0, .int .i64 0, .int .i64 0]) (t := 24) ?hr ?_; (case hd => rfl); (case hg => rfl); (case hr => first | (go_simp; done) | (go_simp; rfl))
     intro g7 hg w10 hbox hb
     have K7 := am (hbox)
     have G9 := am (bs hg (YA HB))
     have G10 := am (bs hg (YA HB))
     obtain ⟨N31,N32⟩ := ne_ hg K1
     obtain ⟨N33,N34⟩ := ne_ hg K2
     obtain ⟨N35,N36⟩ := ne_ hg K3
     obtain ⟨N37,N38⟩ := ne_ hg K4
     obtain ⟨N39,N40⟩ := ne_ hg K5
     obtain ⟨N41,N42⟩ := ne_ hg K6
     obtain ⟨K1, K2, K3, K4, K5, K6, HB⟩ := bk6 K1 K2 K3 K4 K5 K6 HB hb
     clear hb hbox hg
     refine kk hK ⟨bc K5 0, bc K5 1, bc K1 0, bc K1 1, bc K1 2, bc K1 3⟩ fun hHeld => ?_
     clear hK K
     refine one_ (i := 2) (N := some 43) (lb 6 23) rfl rfl (by kernel_rfl) (by decide) (fun K hK => ?_)
     refine ck7 hK Try.func13 (spec_l10Rest.calls _ _ _ _ _ _ _ A4.out) K1 K2 K3 K4 K5 K6 K7 HB fun w11 K1 K2 K3 K4 K5 K6 K7 HB hHeld => ?_
     clear hK K
     refine one_ (i := 3) (N := some 44) (lb 6 31) rfl rfl (by kernel_rfl) (by decide) (fun K hK => ?_)
     refine ck7 hK Try.func12 (spec_ValMake.calls _ _ _ _ _ _ _ _ _ _ A5.out) K1 K2 K3 K4 K5 K6 K7 HB fun w12 K1 K2 K3 K4 K5 K6 K7 HB hHeld => ?_
     clear hK K
     exact norm_ nz (hCont (g7) _ ⟨hHeld, (Z K1), (Z K2), (Z K3), (Z K4), (Z K5), (Z K6), (Z K7), G9.out, G10.out, N31.out, N32.out, N33.out, N34.out, N35.out, N36.out, N37.out, N38.out, N39.out, N40.out, N41.out, N42.out, (YA HB)⟩)
    skip
    refine ck6 hK Try.func13 (spec_l10Rest.calls _ _ _ _ _ _ _ A4.out) K1 K2 K3 K4 K5 K6 HB fun w10 K1 K2 K3 K4 K5 K6 HB hHeld => ?_
    clear hK K
    refine two_ (i := 3) (j := 4) (Ni := some 44) (Nj := some 10) (lb 6 15) (lb 6 23) rfl rfl rfl rfl (by kernel_rfl) (by decide) (by decide) (fun K hK => ?_) (fun K hK => ?_)
    ·skip
     refine ck6 hK Try.func12 (spec_ValMake.calls _ _ _ _ _ _ _ _ _ _ A5.out) K1 K2 K3 K4 K5 K6 HB fun w11 K1 K2 K3 K4 K5 K6 HB hHeld => ?_
     clear hK K
     refine one_ (i := 4) (N := some 10) (lb 6 31) rfl rfl (by kernel_rfl) (by decide) (fun K hK => ?_)
     refine box_step ?hg (N := 10) ?hd (cs := #[.int .i64 0, .int .i64 0, .int .i64 0, .int .i64 0]) (t := 24) ?hr ?_; (case hd => rfl); (case hg => rfl); (case hr => first | (go_simp; done) | (go_simp; rfl))
     intro g7 hg w12 hbox hb
     have K7 := am (hbox)
     have G9 := am (bs hg (YA HB))
     have G10 := am (bs hg (YA HB))
     obtain ⟨N31,N32⟩ := ne_ hg K1
     obtain ⟨N33,N34⟩ := ne_ hg K2
     obtain ⟨N35,N36⟩ := ne_ hg K3
     obtain ⟨N37,N38⟩ := ne_ hg K4
     obtain ⟨N39,N40⟩ := ne_ hg K5
     obtain ⟨N41,N42⟩ := ne_ hg K6
     obtain ⟨K1, K2, K3, K4, K5, K6, HB⟩ := bk6 K1 K2 K3 K4 K5 K6 HB hb
     clear hb hbox hg
     refine kk hK ⟨bc K5 0, bc K5 1, bc K1 0, bc K1 1, bc K1 2, bc K1 3⟩ fun hHeld => ?_
     clear hK K
     exact norm_ nz (hCont (g7) _ ⟨hHeld, (Z K1), (Z K2), (Z K3), (Z K4), (Z K5), (Z K6), (Z K7), G9.out, G10.out, N31.out, N32.out, N33.out, N34.out, N35.out, N36.out, N37.out, N38.out, N39.out, N40.out, N41.out, N42.out, (YA HB)⟩)
    skip
    refine box_step ?hg (N := 10) ?hd (cs := #[.int .i64 0, .int .i64 0, .int .i64 0, .int .i64 0]) (t := 24) ?hr ?_; (case hd => rfl); (case hg => rfl); (case hr => first | (go_simp; done) | (go_simp; rfl))
    intro g7 hg w11 hbox hb
    have K7 := am (hbox)
    have G9 := am (bs hg (YA HB))
    have G10 := am (bs hg (YA HB))
    obtain ⟨N31,N32⟩ := ne_ hg K1
    obtain ⟨N33,N34⟩ := ne_ hg K2
    obtain ⟨N35,N36⟩ := ne_ hg K3
    obtain ⟨N37,N38⟩ := ne_ hg K4
    obtain ⟨N39,N40⟩ := ne_ hg K5
    obtain ⟨N41,N42⟩ := ne_ hg K6
    obtain ⟨K1, K2, K3, K4, K5, K6, HB⟩ := bk6 K1 K2 K3 K4 K5 K6 HB hb
    clear hb hbox hg
    refine kk hK ⟨bc K5 0, bc K5 1, bc K1 0, bc K1 1, bc K1 2, bc K1 3⟩ fun hHeld => ?_
    clear hK K
    refine one_ (i := 3) (N := some 44) (lb 6 31) rfl rfl (by kernel_rfl) (by decide) (fun K hK => ?_)
    refine ck7 hK Try.func12 (spec_ValMake.calls _ _ _ _ _ _ _ _ _ _ A5.out) K1 K2 K3 K4 K5 K6 K7 HB fun w12 K1 K2 K3 K4 K5 K6 K7 HB hHeld => ?_
    clear hK K
    exact norm_ nz (hCont (g7) _ ⟨hHeld, (Z K1), (Z K2), (Z K3), (Z K4), (Z K5), (Z K6), (Z K7), G9.out, G10.out, N31.out, N32.out, N33.out, N34.out, N35.out, N36.out, N37.out, N38.out, N39.out, N40.out, N41.out, N42.out, (YA HB)⟩)
   rintro g7 w10 ⟨hS_, h0_, h1_, h2_, h3_, h4_, h5_, h6_, h7_, h8_, h9_, h10_, h11_, h12_, h13_, h14_, h15_, h16_, h17_, h18_, h19_, h20_, h21_⟩
   have K7 : Bx4 w10 g7 0 0 0 0 24 := ⟨h6_⟩
   have G9 : Aside0 (w.heap.size ≤ g7) := ⟨h7_⟩
   have G10 : Aside0 (w.heap.size ≤ g7) := ⟨h8_⟩
   have N31 : Aside0 (g1 ≠ g7) := ⟨h9_⟩
   have N32 : Aside0 (g7 ≠ g1) := ⟨h10_⟩
   have N33 : Aside0 (g2 ≠ g7) := ⟨h11_⟩
   have N34 : Aside0 (g7 ≠ g2) := ⟨h12_⟩
   have N35 : Aside0 (g3 ≠ g7) := ⟨h13_⟩
   have N36 : Aside0 (g7 ≠ g3) := ⟨h14_⟩
   have N37 : Aside0 (g4 ≠ g7) := ⟨h15_⟩
   have N38 : Aside0 (g7 ≠ g4) := ⟨h16_⟩
   have N39 : Aside0 (g5 ≠ g7) := ⟨h17_⟩
   have N40 : Aside0 (g7 ≠ g5) := ⟨h18_⟩
   have N41 : Aside0 (g6 ≠ g7) := ⟨h19_⟩
   have N42 : Aside0 (g7 ≠ g6) := ⟨h20_⟩
   replace K1 : Bx4 w10 g1 a1_0 a1_1 a1_2 a1_3 24 := ⟨h0_⟩
   replace K2 : Bx4 w10 g2 a2_0 a2_1 a2_2 a2_3 24 := ⟨h1_⟩
   replace K3 : Bx4 w10 g3 0 0 0 0 24 := ⟨h2_⟩
   replace K4 : Bx4 w10 g4 0 0 0 0 24 := ⟨h3_⟩
   replace K5 : Bx2 w10 g5 t7 t8 33 := ⟨h4_⟩
   replace K6 : Bx2 w10 g6 t9 t10 33 := ⟨h5_⟩
   replace HB : Aside0 (Below w.heap.size w w10) := ⟨h21_⟩
   clear h0_ h1_ h2_ h3_ h4_ h5_ h6_ h7_ h8_ h9_ h10_ h11_ h12_ h13_ h14_ h15_ h16_ h17_ h18_ h19_ h20_ h21_
   have hHeld : w10.cell? ⟨g5, 0, none⟩ = some (.int .i64 t7) ∧ w10.cell? ⟨g5, 1, none⟩ = some (.int .i64 t8) ∧ w10.cell? ⟨g1, 0, none⟩ = some (.int .i64 a1_0) ∧ w10.cell? ⟨g1, 1, none⟩ = some (.int .i64 a1_1) ∧ w10.cell? ⟨g1, 2, none⟩ = some (.int .i64 a1_2) ∧ w10.cell? ⟨g1, 3, none⟩ = some (.int .i64 a1_3) := hS_
   refine norm_ (a' := ?_) ?_ ?_
   rotate_left
   ·simp only [putAll, Act.put, List.setIfInBounds_toArray, List.set_cons_zero, List.set_cons_succ]
    rfl
   refine one_ (i := 5) (N := none) (lb 6 63) rfl rfl (by kernel_rfl) (by decide) (fun K hK => ?_)
   have s12 : w10.cell? ⟨g7, 0, none⟩ = some (.int .i64 0) := bc K7 0
   have hfs67 := blk_frozen K7.out 0
   have z_ := ns10 N31 N33 N35 N37 N39 N41 N32 N34 N36 N38
   have z_ := ns2 N40 N42
   have s13 : w10.cell? ⟨g7, 1, none⟩ = some (.int .i64 0) := bc K7 1
   have hfs68 := blk_frozen K7.out 1
   have z_ := ns10 N31 N33 N35 N37 N39 N41 N32 N34 N36 N38
   have z_ := ns2 N40 N42
   have s14 : w10.cell? ⟨g7, 2, none⟩ = some (.int .i64 0) := bc K7 2
   have hfs69 := blk_frozen K7.out 2
   have z_ := ns10 N31 N33 N35 N37 N39 N41 N32 N34 N36 N38
   have z_ := ns2 N40 N42
   have s15 : w10.cell? ⟨g7, 3, none⟩ = some (.int .i64 0) := bc K7 3
   have hfs70 := blk_frozen K7.out 3
   have z_ := ns10 N31 N33 N35 N37 N39 N41 N32 N34 N36 N38
   have z_ := ns2 N40 N42
   refine skip_ (w1 := ?_) (by rfl) rfl ?_ ?_
   rotate_left
   ·go_simp
    rfl
   refine hK.out _ _ ⟨(cf N39 ((cf N39 ((cf N39 ((cf N39 (hHeld.1)))))))), (cf N39 ((cf N39 ((cf N39 ((cf N39 (hHeld.2.1)))))))), (cf N31 ((cf N31 ((cf N31 ((cf N31 (hHeld.2.2.1)))))))), (cf N31 ((cf N31 ((cf N31 ((cf N31 (hHeld.2.2.2.1)))))))), (cf N31 ((cf N31 ((cf N31 ((cf N31 (hHeld.2.2.2.2.1)))))))), (cf N31 ((cf N31 ((cf N31 ((cf N31 (hHeld.2.2.2.2.2))))))))⟩ (fun hHeld => ?_)
   clear hK K
   refine done_ (by kernel_rfl) ?_
   try go_wp2
   have n0_ : Aside0 (((((w10.setCell ⟨g7, 0, none⟩ (.int .i64 t13)).setCell ⟨g7, 1, none⟩ (.int .i64 t14)).setCell ⟨g7, 2, none⟩ (.int .i64 t15)).setCell ⟨g7, 3, none⟩ (.int .i64 t16)).heap[g1]? = some (.cells #[.int .i64 a1_0, .int .i64 a1_1, .int .i64 a1_2, .int .i64 a1_3] 24 (0, 0))) := ⟨by refine fa N31 ?_; refine fa N31 ?_; refine fa N31 ?_; refine fa N31 ?_; exact Z K1⟩
   have n1_ : Aside0 (((((w10.setCell ⟨g7, 0, none⟩ (.int .i64 t13)).setCell ⟨g7, 1, none⟩ (.int .i64 t14)).setCell ⟨g7, 2, none⟩ (.int .i64 t15)).setCell ⟨g7, 3, none⟩ (.int .i64 t16)).heap[g2]? = some (.cells #[.int .i64 a2_0, .int .i64 a2_1, .int .i64 a2_2, .int .i64 a2_3] 24 (0, 0))) := ⟨by refine fa N33 ?_; refine fa N33 ?_; refine fa N33 ?_; refine fa N33 ?_; exact Z K2⟩
   have n2_ : Aside0 (((((w10.setCell ⟨g7, 0, none⟩ (.int .i64 t13)).setCell ⟨g7, 1, none⟩ (.int .i64 t14)).setCell ⟨g7, 2, none⟩ (.int .i64 t15)).setCell ⟨g7, 3, none⟩ (.int .i64 t16)).heap[g3]? = some (.cells #[.int .i64 0, .int .i64 0, .int .i64 0, .int .i64 0] 24 (0, 0))) := ⟨by refine fa N35 ?_; refine fa N35 ?_; refine fa N35 ?_; refine fa N35 ?_; exact Z K3⟩
   have n3_ : Aside0 (((((w10.setCell ⟨g7, 0, none⟩ (.int .i64 t13)).setCell ⟨g7, 1, none⟩ (.int .i64 t14)).setCell ⟨g7, 2, none⟩ (.int .i64 t15)).setCell ⟨g7, 3, none⟩ (.int .i64 t16)).heap[g4]? = some (.cells #[.int .i64 0, .int .i64 0, .int .i64 0, .int .i64 0] 24 (0, 0))) := ⟨by refine fa N37 ?_; refine fa N37 ?_; refine fa N37 ?_; refine fa N37 ?_; exact Z K4⟩
   have n4_ : Aside0 (((((w10.setCell ⟨g7, 0, none⟩ (.int .i64 t13)).setCell ⟨g7, 1, none⟩ (.int .i64 t14)).setCell ⟨g7, 2, none⟩ (.int .i64 t15)).setCell ⟨g7, 3, none⟩ (.int .i64 t16)).heap[g5]? = some (.cells #[.int .i64 t7, .int .i64 t8] 33 (0, 0))) := ⟨by refine fa N39 ?_; refine fa N39 ?_; refine fa N39 ?_; refine fa N39 ?_; exact Z K5⟩
   have n5_ : Aside0 (((((w10.setCell ⟨g7, 0, none⟩ (.int .i64 t13)).setCell ⟨g7, 1, none⟩ (.int .i64 t14)).setCell ⟨g7, 2, none⟩ (.int .i64 t15)).setCell ⟨g7, 3, none⟩ (.int .i64 t16)).heap[g6]? = some (.cells #[.int .i64 t9, .int .i64 t10] 33 (0, 0))) := ⟨by refine fa N41 ?_; refine fa N41 ?_; refine fa N41 ?_; refine fa N41 ?_; exact Z K6⟩
   have n6_ : Aside0 (((((w10.setCell ⟨g7, 0, none⟩ (.int .i64 t13)).setCell ⟨g7, 1, none⟩ (.int .i64 t14)).setCell ⟨g7, 2, none⟩ (.int .i64 t15)).setCell ⟨g7, 3, none⟩ (.int .i64 t16)).heap[g7]? = some (.cells #[.int .i64 t13, .int .i64 t14, .int .i64 t15, .int .i64 t16] 24 (0, 0))) := ⟨by refine pf ?_; refine blk_put (cs := #[.int .i64 t13, .int .i64 t14, .int .i64 t15, .int .i64 0]) ?_ 3 _ rfl; refine pf ?_; refine blk_put (cs := #[.int .i64 t13, .int .i64 t14, .int .i64 0, .int .i64 0]) ?_ 2 _ rfl; refine pf ?_; refine blk_put (cs := #[.int .i64 t13, .int .i64 0, .int .i64 0, .int .i64 0]) ?_ 1 _ rfl; refine pf ?_; refine blk_put (cs := #[.int .i64 0, .int .i64 0, .int .i64 0, .int .i64 0]) ?_ 0 _ rfl; exact Z K7⟩
   have n7_ : Aside0 (Below w.heap.size w ((((w10.setCell ⟨g7, 0, none⟩ (.int .i64 t13)).setCell ⟨g7, 1, none⟩ (.int .i64 t14)).setCell ⟨g7, 2, none⟩ (.int .i64 t15)).setCell ⟨g7, 3, none⟩ (.int .i64 t16))) := ⟨YA HB⟩
   (try clear K1)
   (try clear K2)
   (try clear K3)
   (try clear K4)
   (try clear K5)
   (try clear K6)
   (try clear K7)
   (try clear HB)
   generalize ((((w10.setCell ⟨g7, 0, none⟩ (.int .i64 t13)).setCell ⟨g7, 1, none⟩ (.int .i64 t14)).setCell ⟨g7, 2, none⟩ (.int .i64 t15)).setCell ⟨g7, 3, none⟩ (.int .i64 t16)) = w11 at n0_ n1_ n2_ n3_ n4_ n5_ n6_ n7_ ⊢
   have K1 := n0_
   have K2 := n1_
   have K3 := n2_
   have K4 := n3_
   have K5 := n4_
   have K6 := n5_
   have K7 := n6_
   have HB := n7_
   clear n0_ n1_ n2_ n3_ n4_ n5_ n6_ n7_
   obtain ⟨K1, K2, K3, K4, K5, K6, K7, HB⟩ := dk7 K1 K2 K3 K4 K5 K6 K7 HB
   refine start_ (n := 6) (S := fun w' => w'.cell? ⟨g6, 0, none⟩ = some (.int .i64 t9) ∧ w'.cell? ⟨g6, 1, none⟩ = some (.int .i64 t10) ∧ w'.cell? ⟨g2, 0, none⟩ = some (.int .i64 a2_0) ∧ w'.cell? ⟨g2, 1, none⟩ = some (.int .i64 a2_1) ∧ w'.cell? ⟨g2, 2, none⟩ = some (.int .i64 a2_2) ∧ w'.cell? ⟨g2, 3, none⟩ = some (.int .i64 a2_3)) (ds := []) (lb 6 0) (by kernel_rfl) rfl rfl ⟨bc K6 0, bc K6 1, bc K2 0, bc K2 1, bc K2 2, bc K2 3⟩ (fun hHeld => ?_)
   generalize w11.drew = w12 at K1 K2 K3 K4 K5 K6 K7 HB hHeld ⊢
   refine take_ (i := 0) (N := some 45) (v := ?_) (a' := ?_) (lb 6 1) rfl rfl (by kernel_rfl) (fun _ _ _ h => h) (Or.inl ⟨by rfl, ?_⟩) hHeld ?_ ?_
   rotate_left
   ·rintro w' ⟨s0, s1, s2, s3, s4, s5⟩
    go_simp
    with_reducible rfl
   rotate_left
   ·exact pz
   refine take_ (i := 1) (N := some 46) (v := ?_) (a' := ?_) (lb 6 3) rfl rfl (by kernel_rfl) (fun _ _ _ h => h) (Or.inl ⟨by rfl, ?_⟩) hHeld ?_ ?_
   rotate_left
   ·rintro w' ⟨s0, s1, s2, s3, s4, s5⟩
    go_simp
    with_reducible rfl
   rotate_left
   ·exact pz
   refine join_ (σ := Nat) 1 (lb 6 31) (fun s_ => [(47, .agg #[.int .i64 t17, .int .i64 t18]), (48, .agg #[.int .i64 t19, .int .i64 t20, .int .i64 t21, .int .i64 t22]), (11, .pointer (some ⟨s_, 0, none⟩))]) (fun s_ w' => (w'.cell? ⟨g6, 0, none⟩ = some (.int .i64 t9) ∧ w'.cell? ⟨g6, 1, none⟩ = some (.int .i64 t10) ∧ w'.cell? ⟨g2, 0, none⟩ = some (.int .i64 a2_0) ∧ w'.cell? ⟨g2, 1, none⟩ = some (.int .i64 a2_1) ∧ w'.cell? ⟨g2, 2, none⟩ = some (.int .i64 a2_2) ∧ w'.cell? ⟨g2, 3, none⟩ = some (.int .i64 a2_3)) ∧ (w'.heap[g1]? = some (.cells #[.int .i64 a1_0, .int .i64 a1_1, .int .i64 a1_2, .int .i64 a1_3] 24 (0, 0))) ∧ (w'.heap[g2]? = some (.cells #[.int .i64 a2_0, .int .i64 a2_1, .int .i64 a2_2, .int .i64 a2_3] 24 (0, 0))) ∧ (w'.heap[g3]? = some (.cells #[.int .i64 0, .int .i64 0, .int .i64 0, .int .i64 0] 24 (0, 0))) ∧ (w'.heap[g4]? = some (.cells #[.int .i64 0, .int .i64 0, .int .i64 0, .int .i64 0] 24 (0, 0))) ∧ (w'.heap[g5]? = some (.cells #[.int .i64 t7, .int .i64 t8] 33 (0, 0))) ∧ (w'.heap[g6]? = some (.cells #[.int .i64 t9, .int .i64 t10] 33 (0, 0))) ∧ (w'.heap[g7]? = some (.cells #[.int .i64 t13, .int .i64 t14, .int .i64 t15, .int .i64 t16] 24 (0, 0))) ∧ (w'.heap[s_]? = some (.cells #[.int .i64 0, .int .i64 0, .int .i64 0, .int .i64 0] 24 (0, 0))) ∧ (w.heap.size ≤ s_) ∧ (w.heap.size ≤ s_) ∧ (g1 ≠ s_) ∧ (s_ ≠ g1) ∧ (g2 ≠ s_) ∧ (s_ ≠ g2) ∧ (g3 ≠ s_) ∧ (s_ ≠ g3) ∧ (g4 ≠ s_) ∧ (s_ ≠ g4) ∧ (g5 ≠ s_) ∧ (s_ ≠ g5) ∧ (g6 ≠ s_) ∧ (s_ ≠ g6) ∧ (g7 ≠ s_) ∧ (s_ ≠ g7) ∧ (Below w.heap.size w w')) ?_ ?_
   rotate_left
   ·intro hCont
    refine two_ (i := 2) (j := 4) (Ni := some 47) (Nj := some 11) (lb 6 7) (lb 6 19) rfl rfl rfl rfl (by kernel_rfl) (by decide) (by decide) (fun K hK => ?_) (fun K hK => ?_)
    rotate_left
    ·skip
     refine box_step ?hg (N := 11) ?hd (cs := #[.int .i64 0, .int .i64 0, .int .i64 0, .int .i64 0]) (t := 24) ?hr ?_; (case hd => rfl); (case hg => rfl); (case hr => first | (go_simp; done) | (go_simp; rfl))
     intro g8 hg w13 hbox hb
     have K8 := am (hbox)
     have G11 := am (bs hg (YA HB))
     have G12 := am (bs hg (YA HB))
     obtain ⟨N43,N44⟩ := ne_ hg K1
     obtain ⟨N45,N46⟩ := ne_ hg K2
     obtain ⟨N47,N48⟩ := ne_ hg K3
     obtain ⟨N49,N50⟩ := ne_ hg K4
     obtain ⟨N51,N52⟩ := ne_ hg K5
     obtain ⟨N53,N54⟩ := ne_ hg K6
     obtain ⟨N55,N56⟩ := ne_ hg K7
     obtain ⟨K1, K2, K3, K4, K5, K6, K7, HB⟩ := bk7 K1 K2 K3 K4 K5 K6 K7 HB hb
     clear hb hbox hg
     refine kk hK ⟨bc K6 0, bc K6 1, bc K2 0, bc K2 1, bc K2 2, bc K2 3⟩ fun hHeld => ?_
     clear hK K
     refine one_ (i := 2) (N := some 47) (lb 6 23) rfl rfl (by kernel_rfl) (by decide) (fun K hK => ?_)
     refine ck8 hK Try.func13 (spec_l10Rest.calls _ _ _ _ _ _ _ A6.out) K1 K2 K3 K4 K5 K6 K7 K8 HB fun w14 K1 K2 K3 K4 K5 K6 K7 K8 HB hHeld => ?_
     clear hK K
     refine one_ (i := 3) (N := some 48) (lb 6 31) rfl rfl (by kernel_rfl) (by decide) (fun K hK => ?_)
     refine ck8 hK Try.func12 (spec_ValMake.calls _ _ _ _ _ _ _ _ _ _ A7.out) K1 K2 K3 K4 K5 K6 K7 K8 HB fun w15 K1 K2 K3 K4 K5 K6 K7 K8 HB hHeld => ?_
     clear hK K
     exact norm_ nz (hCont (g8) _ ⟨hHeld, (Z K1), (Z K2), (Z K3), (Z K4), (Z K5), (Z K6), (Z K7), (Z K8), G11.out, G12.out, N43.out, N44.out, N45.out, N46.out, N47.out, N48.out, N49.out, N50.out, N51.out, N52.out, N53.out, N54.out, N55.out, N56.out, (YA HB)⟩)
    skip
    refine ck7 hK Try.func13 (spec_l10Rest.calls _ _ _ _ _ _ _ A6.out) K1 K2 K3 K4 K5 K6 K7 HB fun w13 K1 K2 K3 K4 K5 K6 K7 HB hHeld => ?_
    clear hK K
    refine two_ (i := 3) (j := 4) (Ni := some 48) (Nj := some 11) (lb 6 15) (lb 6 23) rfl rfl rfl rfl (by kernel_rfl) (by decide) (by decide) (fun K hK => ?_) (fun K hK => ?_)
    ·skip
     refine ck7 hK Try.func12 (spec_ValMake.calls _ _ _ _ _ _ _ _ _ _ A7.out) K1 K2 K3 K4 K5 K6 K7 HB fun w14 K1 K2 K3 K4 K5 K6 K7 HB hHeld => ?_
     clear hK K
     refine one_ (i := 4) (N := some 11) (lb 6 31) rfl rfl (by kernel_rfl) (by decide) (fun K hK => ?_)
     refine box_step ?hg (N := 11) ?hd (cs := #[.int .i64 0, .int .i64 0, .int .i64 0, .int .i64 0]) (t := 24) ?hr ?_; (case hd => rfl); (case hg => rfl); (case hr => first | (go_simp; done) | (go_simp; rfl))
     intro g8 hg w15 hbox hb
     have K8 := am (hbox)
     have G11 := am (bs hg (YA HB))
     have G12 := am (bs hg (YA HB))
     obtain ⟨N43,N44⟩ := ne_ hg K1
     obtain ⟨N45,N46⟩ := ne_ hg K2
     obtain ⟨N47,N48⟩ := ne_ hg K3
     obtain ⟨N49,N50⟩ := ne_ hg K4
     obtain ⟨N51,N52⟩ := ne_ hg K5
     obtain ⟨N53,N54⟩ := ne_ hg K6
     obtain ⟨N55,N56⟩ := ne_ hg K7
     obtain ⟨K1, K2, K3, K4, K5, K6, K7, HB⟩ := bk7 K1 K2 K3 K4 K5 K6 K7 HB hb
     clear hb hbox hg
     refine kk hK ⟨bc K6 0, bc K6 1, bc K2 0, bc K2 1, bc K2 2, bc K2 3⟩ fun hHeld => ?_
     clear hK K
     exact norm_ nz (hCont (g8) _ ⟨hHeld, (Z K1), (Z K2), (Z K3), (Z K4), (Z K5), (Z K6), (Z K7), (Z K8), G11.out, G12.out, N43.out, N44.out, N45.out, N46.out, N47.out, N48.out, N49.out, N50.out, N51.out, N52.out, N53.out, N54.out, N55.out, N56.out, (YA HB)⟩)
    skip
    refine box_step ?hg (N := 11) ?hd (cs := #[.int .i64 0, .int .i64 0, .int .i64 0, .int .i64 0]) (t := 24) ?hr ?_; (case hd => rfl); (case hg => rfl); (case hr => first | (go_simp; done) | (go_simp; rfl))
    intro g8 hg w14 hbox hb
    have K8 := am (hbox)
    have G11 := am (bs hg (YA HB))
    have G12 := am (bs hg (YA HB))
    obtain ⟨N43,N44⟩ := ne_ hg K1
    obtain ⟨N45,N46⟩ := ne_ hg K2
    obtain ⟨N47,N48⟩ := ne_ hg K3
    obtain ⟨N49,N50⟩ := ne_ hg K4
    obtain ⟨N51,N52⟩ := ne_ hg K5
    obtain ⟨N53,N54⟩ := ne_ hg K6
    obtain ⟨N55,N56⟩ := ne_ hg K7
    obtain ⟨K1, K2, K3, K4, K5, K6, K7, HB⟩ := bk7 K1 K2 K3 K4 K5 K6 K7 HB hb
    clear hb hbox hg
    refine kk hK ⟨bc K6 0, bc K6 1, bc K2 0, bc K2 1, bc K2 2, bc K2 3⟩ fun hHeld => ?_
    clear hK K
    refine one_ (i := 3) (N := some 48) (lb 6 31) rfl rfl (by kernel_rfl) (by decide) (fun K hK => ?_)
    refine ck8 hK Try.func12 (spec_ValMake.calls _ _ _ _ _ _ _ _ _ _ A7.out) K1 K2 K3 K4 K5 K6 K7 K8 HB fun w15 K1 K2 K3 K4 K5 K6 K7 K8 HB hHeld => ?_
    clear hK K
    exact norm_ nz (hCont (g8) _ ⟨hHeld, (Z K1), (Z K2), (Z K3), (Z K4), (Z K5), (Z K6), (Z K7), (Z K8), G11.out, G12.out, N43.out, N44.out, N45.out, N46.out, N47.out, N48.out, N49.out, N50.out, N51.out, N52.out, N53.out, N54.out, N55.out, N56.out, (YA HB)⟩)
   rintro g8 w13 ⟨hS_, h0_, h1_, h2_, h3_, h4_, h5_, h6_, h7_, h8_, h9_, h10_, h11_, h12_, h13_, h14_, h15_, h16_, h17_, h18_, h19_, h20_, h21_, h22_, h23_, h24_⟩
   have K8 : Bx4 w13 g8 0 0 0 0 24 := ⟨h7_⟩
   have G11 : Aside0 (w.heap.size ≤ g8) := ⟨h8_⟩
   have G12 : Aside0 (w.heap.size ≤ g8) := ⟨h9_⟩
   have N43 : Aside0 (g1 ≠ g8) := ⟨h10_⟩
   have N44 : Aside0 (g8 ≠ g1) := ⟨h11_⟩
   have N45 : Aside0 (g2 ≠ g8) := ⟨h12_⟩
   have N46 : Aside0 (g8 ≠ g2) := ⟨h13_⟩
   have N47 : Aside0 (g3 ≠ g8) := ⟨h14_⟩
   have N48 : Aside0 (g8 ≠ g3) := ⟨h15_⟩
   have N49 : Aside0 (g4 ≠ g8) := ⟨h16_⟩
   have N50 : Aside0 (g8 ≠ g4) := ⟨h17_⟩
   have N51 : Aside0 (g5 ≠ g8) := ⟨h18_⟩
   have N52 : Aside0 (g8 ≠ g5) := ⟨h19_⟩
   have N53 : Aside0 (g6 ≠ g8) := ⟨h20_⟩
   have N54 : Aside0 (g8 ≠ g6) := ⟨h21_⟩
   have N55 : Aside0 (g7 ≠ g8) := ⟨h22_⟩
   have N56 : Aside0 (g8 ≠ g7) := ⟨h23_⟩
   replace K1 : Bx4 w13 g1 a1_0 a1_1 a1_2 a1_3 24 := ⟨h0_⟩
   replace K2 : Bx4 w13 g2 a2_0 a2_1 a2_2 a2_3 24 := ⟨h1_⟩
   replace K3 : Bx4 w13 g3 0 0 0 0 24 := ⟨h2_⟩
   replace K4 : Bx4 w13 g4 0 0 0 0 24 := ⟨h3_⟩
   replace K5 : Bx2 w13 g5 t7 t8 33 := ⟨h4_⟩
   replace K6 : Bx2 w13 g6 t9 t10 33 := ⟨h5_⟩
   replace K7 : Bx4 w13 g7 t13 t14 t15 t16 24 := ⟨h6_⟩
   replace HB : Aside0 (Below w.heap.size w w13) := ⟨h24_⟩
   clear h0_ h1_ h2_ h3_ h4_ h5_ h6_ h7_ h8_ h9_ h10_ h11_ h12_ h13_ h14_ h15_ h16_ h17_ h18_ h19_ h20_ h21_ h22_ h23_ h24_
   have hHeld : w13.cell? ⟨g6, 0, none⟩ = some (.int .i64 t9) ∧ w13.cell? ⟨g6, 1, none⟩ = some (.int .i64 t10) ∧ w13.cell? ⟨g2, 0, none⟩ = some (.int .i64 a2_0) ∧ w13.cell? ⟨g2, 1, none⟩ = some (.int .i64 a2_1) ∧ w13.cell? ⟨g2, 2, none⟩ = some (.int .i64 a2_2) ∧ w13.cell? ⟨g2, 3, none⟩ = some (.int .i64 a2_3) := hS_
   refine norm_ (a' := ?_) ?_ ?_
   rotate_left
   ·simp only [putAll, Act.put, List.setIfInBounds_toArray, List.set_cons_zero, List.set_cons_succ]
    rfl
   refine one_ (i := 5) (N := none) (lb 6 63) rfl rfl (by kernel_rfl) (by decide) (fun K hK => ?_)
   have s16 : w13.cell? ⟨g8, 0, none⟩ = some (.int .i64 0) := bc K8 0
   have hfs77 := blk_frozen K8.out 0
   have z_ := ns10 N43 N45 N47 N49 N51 N53 N55 N44 N46 N48
   have z_ := ns4 N50 N52 N54 N56
   have s17 : w13.cell? ⟨g8, 1, none⟩ = some (.int .i64 0) := bc K8 1
   have hfs78 := blk_frozen K8.out 1
   have z_ := ns10 N43 N45 N47 N49 N51 N53 N55 N44 N46 N48
   have z_ := ns4 N50 N52 N54 N56
   have s18 : w13.cell? ⟨g8, 2, none⟩ = some (.int .i64 0) := bc K8 2
   have hfs79 := blk_frozen K8.out 2
   have z_ := ns10 N43 N45 N47 N49 N51 N53 N55 N44 N46 N48
   have z_ := ns4 N50 N52 N54 N56
   have s19 : w13.cell? ⟨g8, 3, none⟩ = some (.int .i64 0) := bc K8 3
   have hfs80 := blk_frozen K8.out 3
   have z_ := ns10 N43 N45 N47 N49 N51 N53 N55 N44 N46 N48
   have z_ := ns4 N50 N52 N54 N56
   refine skip_ (w1 := ?_) (by rfl) rfl ?_ ?_
   rotate_left
   ·go_simp
    rfl
   refine hK.out _ _ ⟨(cf N53 ((cf N53 ((cf N53 ((cf N53 (hHeld.1)))))))), (cf N53 ((cf N53 ((cf N53 ((cf N53 (hHeld.2.1)))))))), (cf N45 ((cf N45 ((cf N45 ((cf N45 (hHeld.2.2.1)))))))), (cf N45 ((cf N45 ((cf N45 ((cf N45 (hHeld.2.2.2.1)))))))), (cf N45 ((cf N45 ((cf N45 ((cf N45 (hHeld.2.2.2.2.1)))))))), (cf N45 ((cf N45 ((cf N45 ((cf N45 (hHeld.2.2.2.2.2))))))))⟩ (fun hHeld => ?_)
   clear hK K
   refine done_ (by kernel_rfl) ?_
   go_upto_if 50 with (fail)
   go_cut [] (fun wc => ∃ (kq : Nat) (x2 : Int) (x3 : Int) (x4 : Int) (x5 : Int) (x6 : Int) (x7 : Int) (x8 : Int) (x9 : Int), Aside0 (spec_ValCmp.j1 kq x2 x3 x4 x5 x6 x7 x8 x9 = some (r1, r2, r3, r4, r5, r6, r7, r8)) ∧ Aside0 (kq ≤ k1) ∧ Bx4 wc g1 a1_0 a1_1 a1_2 a1_3 24 ∧ Bx4 wc g2 a2_0 a2_1 a2_2 a2_3 24 ∧ Bx4 wc g3 0 0 0 0 24 ∧ Bx4 wc g4 0 0 0 0 24 ∧ Bx2 wc g5 t7 t8 33 ∧ Bx2 wc g6 t9 t10 33 ∧ Bx4 wc g7 x2 x3 x4 x5 24 ∧ Bx4 wc g8 x6 x7 x8 x9 24 ∧ Aside0 (Below w.heap.size w wc))
   case first =>
    have H := C2.out
    clear C2
    by_cases c2 : a0 = 1
    rotate_left
    ·rw [if_neg c2] at H
     have d1 := eF c2
     have d2 := nT c2
     (first | rw [d1] | (simp only [i64_w, i32_w]; rw [d1]) | skip)
     have H' := am H
     clear H
     go_wp2
     go_meet
     case rel => exact ⟨_, (t13), (t14), (t15), (t16), (t19), (t20), (t21), (t22), H', le1 J1, ⟨by refine fa N43 ?_; refine fa N43 ?_; refine fa N43 ?_; refine fa N43 ?_; exact Z K1⟩, ⟨by refine fa N45 ?_; refine fa N45 ?_; refine fa N45 ?_; refine fa N45 ?_; exact Z K2⟩, ⟨by refine fa N47 ?_; refine fa N47 ?_; refine fa N47 ?_; refine fa N47 ?_; exact Z K3⟩, ⟨by refine fa N49 ?_; refine fa N49 ?_; refine fa N49 ?_; refine fa N49 ?_; exact Z K4⟩, ⟨by refine fa N51 ?_; refine fa N51 ?_; refine fa N51 ?_; refine fa N51 ?_; exact Z K5⟩, ⟨by refine fa N53 ?_; refine fa N53 ?_; refine fa N53 ?_; refine fa N53 ?_; exact Z K6⟩, ⟨by refine fa N55 ?_; refine fa N55 ?_; refine fa N55 ?_; refine fa N55 ?_; exact Z K7⟩, ⟨by refine pf ?_; refine blk_put (cs := #[.int .i64 t19, .int .i64 t20, .int .i64 t21, .int .i64 0]) ?_ 3 _ rfl; refine pf ?_; refine blk_put (cs := #[.int .i64 t19, .int .i64 t20, .int .i64 0, .int .i64 0]) ?_ 2 _ rfl; refine pf ?_; refine blk_put (cs := #[.int .i64 t19, .int .i64 0, .int .i64 0, .int .i64 0]) ?_ 1 _ rfl; refine pf ?_; refine blk_put (cs := #[.int .i64 0, .int .i64 0, .int .i64 0, .int .i64 0]) ?_ 0 _ rfl; exact Z K8⟩, ⟨YA HB⟩⟩
    rw [if_pos c2] at H
    have d1 := eT c2
    have d2 := nF c2
    clear c2
    (first | rw [d1] | (simp only [i64_w, i32_w]; rw [d1]) | skip)
    obtain ⟨⟨t23, t24, t25, t26⟩, A8, H⟩ := bd H
    try dsimp only at H
    have H' := am H
    clear H
    have z_ := ns10 N32 N34 N36 N38 N40 N42 N55 N44 N46 N48
    have z_ := ns3 N50 N52 N54
    have z_ := cB4 K7
    have z_ := cB4 K8
    go_wp2_with (first | ((with_reducible refine gate_callee (f := 14) rfl ?_); refine gL 53 Try.func14 (spec_ValMeet.calls _ _ _ _ _ _ _ _ _ _ _ _ _ _ A8.out) fun w14 hb => ?_; replace K1 := am (blk_below (g := g1) (o := b4 a1_0 a1_1 a1_2 a1_3 24) (by refine fa N43 ?_; refine fa N43 ?_; refine fa N43 ?_; refine fa N43 ?_; exact Z K1) hb); replace K2 := am (blk_below (g := g2) (o := b4 a2_0 a2_1 a2_2 a2_3 24) (by refine fa N45 ?_; refine fa N45 ?_; refine fa N45 ?_; refine fa N45 ?_; exact Z K2) hb); replace K3 := am (blk_below (g := g3) (o := b4 0 0 0 0 24) (by refine fa N47 ?_; refine fa N47 ?_; refine fa N47 ?_; refine fa N47 ?_; exact Z K3) hb); replace K4 := am (blk_below (g := g4) (o := b4 0 0 0 0 24) (by refine fa N49 ?_; refine fa N49 ?_; refine fa N49 ?_; refine fa N49 ?_; exact Z K4) hb); replace K5 := am (blk_below (g := g5) (o := b2 t7 t8 33) (by refine fa N51 ?_; refine fa N51 ?_; refine fa N51 ?_; refine fa N51 ?_; exact Z K5) hb); replace K6 := am (blk_below (g := g6) (o := b2 t9 t10 33) (by refine fa N53 ?_; refine fa N53 ?_; refine fa N53 ?_; refine fa N53 ?_; exact Z K6) hb); replace K7 := am (blk_below (g := g7) (o := b4 t13 t14 t15 t16 24) (by refine fa N55 ?_; refine fa N55 ?_; refine fa N55 ?_; refine fa N55 ?_; exact Z K7) hb); replace K8 := am (blk_below (g := g8) (o := b4 t19 t20 t21 t22 24) (by refine pf ?_; refine blk_put (cs := #[.int .i64 t19, .int .i64 t20, .int .i64 t21, .int .i64 0]) ?_ 3 _ rfl; refine pf ?_; refine blk_put (cs := #[.int .i64 t19, .int .i64 t20, .int .i64 0, .int .i64 0]) ?_ 2 _ rfl; refine pf ?_; refine blk_put (cs := #[.int .i64 t19, .int .i64 0, .int .i64 0, .int .i64 0]) ?_ 1 _ rfl; refine pf ?_; refine blk_put (cs := #[.int .i64 0, .int .i64 0, .int .i64 0, .int .i64 0]) ?_ 0 _ rfl; exact Z K8) hb); replace HB := am (below_step (YA HB) hb); (try clear hb); have z_ := cB4 K7; have z_ := cB4 K8))
    go_meet
    case rel => exact ⟨_, (t23), (t24), (t25), (t26), (t23), (t24), (t25), (t26), H', le1 J1, ⟨by refine fa N43 ?_; refine fa N43 ?_; refine fa N43 ?_; refine fa N43 ?_; refine fa N31 ?_; refine fa N31 ?_; refine fa N31 ?_; refine fa N31 ?_; exact Z K1⟩, ⟨by refine fa N45 ?_; refine fa N45 ?_; refine fa N45 ?_; refine fa N45 ?_; refine fa N33 ?_; refine fa N33 ?_; refine fa N33 ?_; refine fa N33 ?_; exact Z K2⟩, ⟨by refine fa N47 ?_; refine fa N47 ?_; refine fa N47 ?_; refine fa N47 ?_; refine fa N35 ?_; refine fa N35 ?_; refine fa N35 ?_; refine fa N35 ?_; exact Z K3⟩, ⟨by refine fa N49 ?_; refine fa N49 ?_; refine fa N49 ?_; refine fa N49 ?_; refine fa N37 ?_; refine fa N37 ?_; refine fa N37 ?_; refine fa N37 ?_; exact Z K4⟩, ⟨by refine fa N51 ?_; refine fa N51 ?_; refine fa N51 ?_; refine fa N51 ?_; refine fa N39 ?_; refine fa N39 ?_; refine fa N39 ?_; refine fa N39 ?_; exact Z K5⟩, ⟨by refine fa N53 ?_; refine fa N53 ?_; refine fa N53 ?_; refine fa N53 ?_; refine fa N41 ?_; refine fa N41 ?_; refine fa N41 ?_; refine fa N41 ?_; exact Z K6⟩, ⟨by refine fa N55 ?_; refine fa N55 ?_; refine fa N55 ?_; refine fa N55 ?_; refine pf ?_; refine blk_put (cs := #[.int .i64 t23, .int .i64 t24, .int .i64 t25, .int .i64 t16]) ?_ 3 _ rfl; refine pf ?_; refine blk_put (cs := #[.int .i64 t23, .int .i64 t24, .int .i64 t15, .int .i64 t16]) ?_ 2 _ rfl; refine pf ?_; refine blk_put (cs := #[.int .i64 t23, .int .i64 t14, .int .i64 t15, .int .i64 t16]) ?_ 1 _ rfl; refine pf ?_; refine blk_put (cs := #[.int .i64 t13, .int .i64 t14, .int .i64 t15, .int .i64 t16]) ?_ 0 _ rfl; exact Z K7⟩, ⟨by refine pf ?_; refine blk_put (cs := #[.int .i64 t23, .int .i64 t24, .int .i64 t25, .int .i64 t22]) ?_ 3 _ rfl; refine pf ?_; refine blk_put (cs := #[.int .i64 t23, .int .i64 t24, .int .i64 t21, .int .i64 t22]) ?_ 2 _ rfl; refine pf ?_; refine blk_put (cs := #[.int .i64 t23, .int .i64 t20, .int .i64 t21, .int .i64 t22]) ?_ 1 _ rfl; refine pf ?_; refine blk_put (cs := #[.int .i64 t19, .int .i64 t20, .int .i64 t21, .int .i64 t22]) ?_ 0 _ rfl; refine fa N56 ?_; refine fa N56 ?_; refine fa N56 ?_; refine fa N56 ?_; exact Z K8⟩, ⟨YA HB⟩⟩
   case rest =>
    clear C2
    obtain ⟨kq, x2, x3, x4, x5, x6, x7, x8, x9, HA, J2, K1, K2, K3, K4, K5, K6, K7, K8, HB⟩ := hcut
    cases kq with
    | zero => exact absurd HA.out (by simp [spec_ValCmp.j1])
    | succ k2 =>
     have H := HA.out
     clear HA
     simp only [spec_ValCmp.j1] at H
     have C3 := am H
     clear H
     go_upto_region 9 with (fail)
     go_cut [62] (fun v2 wc => ∃ (kq : Nat) (x10 : Bool), v2 = .bool x10 ∧ Aside0 (spec_ValCmp.j2 kq x10 x2 x3 x4 x5 x6 x7 x8 x9 = some (r1, r2, r3, r4, r5, r6, r7, r8)) ∧ Aside0 (kq ≤ k2) ∧ Bx4 wc g1 a1_0 a1_1 a1_2 a1_3 24 ∧ Bx4 wc g2 a2_0 a2_1 a2_2 a2_3 24 ∧ Bx4 wc g3 0 0 0 0 24 ∧ Bx4 wc g4 0 0 0 0 24 ∧ Bx2 wc g5 t7 t8 33 ∧ Bx2 wc g6 t9 t10 33 ∧ Bx4 wc g7 x2 x3 x4 x5 24 ∧ Bx4 wc g8 x6 x7 x8 x9 24 ∧ Aside0 (Below w.heap.size w wc))
     case first =>
      have H := C3.out
      clear C3
      obtain ⟨⟨t23, t24, t25, t26⟩, A8, H⟩ := bd H
      try dsimp only at H
      by_cases c2 : (x2 == t23 && (x3 == t24 && (x4 == t25 && (x5 == t26)))) = true
      ·rw [if_pos c2] at H
       have d1 : (x2 == t23 && (x3 == t24 && (x4 == t25 && (x5 == t26)))) = true := c2
       (try (have d2 : decide (x2 = t23 && (x3 == t24 && (x4 == t25 && (x5 == t26)))) = true := by simpa using c2))
       (try (have d3 : (x2 == t23 && (x3 == t24 && (x4 == t25 && (x5 == t26)))) = true := by simpa using c2))
       clear c2
       (first | rw [d1] | (simp only [i64_w, i32_w]; rw [d1]) | skip)
       have H' := am H
       clear H
       try go_wp2
       obtain ⟨K1, K2, K3, K4, K5, K6, K7, K8, HB⟩ := dk8 K1 K2 K3 K4 K5 K6 K7 K8 HB
       refine start_ (n := 8) (S := fun w' => w'.cell? ⟨g7, 0, none⟩ = some (.int .i64 x2) ∧ w'.cell? ⟨g7, 1, none⟩ = some (.int .i64 x3) ∧ w'.cell? ⟨g7, 2, none⟩ = some (.int .i64 x4) ∧ w'.cell? ⟨g7, 3, none⟩ = some (.int .i64 x5)) (ds := []) (lb 8 0) (by kernel_rfl) rfl rfl ⟨bc K7 0, bc K7 1, bc K7 2, bc K7 3⟩ (fun hHeld => ?_); refine with_tabW spec_ValCmp.tab9 spec_ValCmp.bits9 (fun HT_ HW_ => ?_)
       generalize wc.drew = w14 at K1 K2 K3 K4 K5 K6 K7 K8 HB hHeld ⊢
       refine tk 0 55 1 hHeld ?_
       refine cl8 1 56 3 Try.func9 (spec_l10None.calls _ _ _ _ _ A8.out) K1 K2 K3 K4 K5 K6 K7 K8 HB fun w15 K1 K2 K3 K4 K5 K6 K7 K8 HB hHeld => ?_
       refine pk 2 57 7 ?_
       refine pk 3 58 15 ?_
       refine uk 4 59 31 ?_
       refine uk 5 60 63 ?_
       refine uk 6 61 127 ?_
       refine pk 7 62 255 ?_
       refine done_ (done_of HT_.out (by kernel_rfl)) ?_
       try go_wp2
       go_meet
       case rel => exact ⟨_, (true), ey, H', ⟨by have := J1.out; have := J2.out; first | omega | exact Nat.le_refl _⟩, ⟨Z K1⟩, ⟨Z K2⟩, ⟨Z K3⟩, ⟨Z K4⟩, ⟨Z K5⟩, ⟨Z K6⟩, ⟨Z K7⟩, ⟨Z K8⟩, ⟨YA HB⟩⟩
      rw [if_neg c2] at H
      have d1 : (x2 == t23 && (x3 == t24 && (x4 == t25 && (x5 == t26)))) = false := by simpa using c2
      (try (have d2 : decide (x2 = t23 && (x3 == t24 && (x4 == t25 && (x5 == t26)))) = false := by simpa using c2))
      (try (have d3 : (x2 == t23 && (x3 == t24 && (x4 == t25 && (x5 == t26)))) = false := by simpa using c2))
      (try (have d4 : ¬ (x2 = t23 && (x3 == t24 && (x4 == t25 && (x5 == t26)))) := by simpa using c2))
      clear c2
      (first | rw [d1] | (simp only [i64_w, i32_w]; rw [d1]) | skip)
      obtain ⟨⟨t27, t28, t29, t30⟩, A9, H⟩ := bd H
      try dsimp only at H
      have H' := am H
      clear H
      try go_wp2
      obtain ⟨K1, K2, K3, K4, K5, K6, K7, K8, HB⟩ := dk8 K1 K2 K3 K4 K5 K6 K7 K8 HB
      refine start_ (n := 8) (S := fun w' => w'.cell? ⟨g7, 0, none⟩ = some (.int .i64 x2) ∧ w'.cell? ⟨g7, 1, none⟩ = some (.int .i64 x3) ∧ w'.cell? ⟨g7, 2, none⟩ = some (.int .i64 x4) ∧ w'.cell? ⟨g7, 3, none⟩ = some (.int .i64 x5) ∧ w'.cell? ⟨g8, 0, none⟩ = some (.int .i64 x6) ∧ w'.cell? ⟨g8, 1, none⟩ = some (.int .i64 x7) ∧ w'.cell? ⟨g8, 2, none⟩ = some (.int .i64 x8) ∧ w'.cell? ⟨g8, 3, none⟩ = some (.int .i64 x9)) (ds := []) (lb 8 0) (by kernel_rfl) rfl rfl ⟨bc K7 0, bc K7 1, bc K7 2, bc K7 3, bc K8 0, bc K8 1, bc K8 2, bc K8 3⟩ (fun hHeld => ?_); refine with_tabW spec_ValCmp.tab9 spec_ValCmp.bits9 (fun HT_ HW_ => ?_)
      generalize wc.drew = w14 at K1 K2 K3 K4 K5 K6 K7 K8 HB hHeld ⊢
      refine tk 0 55 1 hHeld ?_
      refine cl8 1 56 3 Try.func9 (spec_l10None.calls _ _ _ _ _ A8.out) K1 K2 K3 K4 K5 K6 K7 K8 HB fun w15 K1 K2 K3 K4 K5 K6 K7 K8 HB hHeld => ?_
      refine pk 2 57 7 ?_
      refine pk 3 58 15 ?_
      refine tk 4 59 31 hHeld ?_
      refine cl8 5 60 63 Try.func9 (spec_l10None.calls _ _ _ _ _ A9.out) K1 K2 K3 K4 K5 K6 K7 K8 HB fun w16 K1 K2 K3 K4 K5 K6 K7 K8 HB hHeld => ?_
      refine pk 6 61 127 ?_
      refine pk 7 62 255 ?_
      refine done_ (done_of HT_.out (by kernel_rfl)) ?_
      try go_wp2
      go_meet
      case rel => exact ⟨_, ((x6 == t27 && (x7 == t28 && (x8 == t29 && (x9 == t30))))), ey, H', ⟨by have := J1.out; have := J2.out; first | omega | exact Nat.le_refl _⟩, ⟨Z K1⟩, ⟨Z K2⟩, ⟨Z K3⟩, ⟨Z K4⟩, ⟨Z K5⟩, ⟨Z K6⟩, ⟨Z K7⟩, ⟨Z K8⟩, ⟨YA HB⟩⟩
     case rest =>
      clear C3
      obtain ⟨kq, x10, rfl, HA, J3, K1, K2, K3, K4, K5, K6, K7, K8, HB⟩ := hcut
      cases kq with
      | zero => exact absurd HA.out (by simp [spec_ValCmp.j2])
      | succ k3 =>
       have H := HA.out
       clear HA
       simp only [spec_ValCmp.j2] at H
       by_cases c2 : x10 = true
       ·subst c2
        rw [if_pos rfl] at H
        obtain ⟨⟨t23, t24, t25, t26⟩, A8, H⟩ := bd H
        try dsimp only at H
        obtain ⟨⟨t27, t28, t29, t30⟩, A9, H⟩ := bd H
        try dsimp only at H
        simp only [Option.some.injEq, Prod.mk.injEq] at H
        obtain ⟨rfl, rfl, rfl, rfl, rfl, rfl, rfl, rfl⟩ := H
        go_wp2_with (first | ((with_reducible refine gate_callee (f := 9) rfl ?_); refine gL 63 Try.func9 (spec_l10None.calls _ _ _ _ _ A8.out) fun w14 hb => ?_; obtain ⟨K1, K2, K3, K4, K5, K6, K7, K8, HB⟩ := bk8 K1 K2 K3 K4 K5 K6 K7 K8 HB hb; (try clear hb)) | ((with_reducible refine gate_callee (f := 9) rfl ?_); refine gL 64 Try.func9 (spec_l10None.calls _ _ _ _ _ A9.out) fun w15 hb => ?_; obtain ⟨K1, K2, K3, K4, K5, K6, K7, K8, HB⟩ := bk8 K1 K2 K3 K4 K5 K6 K7 K8 HB hb; (try clear hb); have z_ := ns10 N4 N6 N11 N17 N27 N35 N47 N8 N10 N19; have z_ := ns3 N29 N37 N49; have z_ := cB4 K3; have z_ := cB4 K4))
        refine bodyPost_ret (results_cc rfl _ _ g3 g4 24 24 #[.int .i64 t23, .int .i64 t24, .int .i64 t25, .int .i64 t26] #[.int .i64 t27, .int .i64 t28, .int .i64 t29, .int .i64 t30] (0, 0) (0, 0) _ _ rfl (by refine fa N11 ?_; refine fa N11 ?_; refine fa N11 ?_; refine fa N11 ?_; refine pf ?_; refine blk_put (cs := #[.int .i64 t23, .int .i64 t24, .int .i64 t25, .int .i64 0]) ?_ 3 _ rfl; refine pf ?_; refine blk_put (cs := #[.int .i64 t23, .int .i64 t24, .int .i64 0, .int .i64 0]) ?_ 2 _ rfl; refine pf ?_; refine blk_put (cs := #[.int .i64 t23, .int .i64 0, .int .i64 0, .int .i64 0]) ?_ 1 _ rfl; refine pf ?_; refine blk_put (cs := #[.int .i64 0, .int .i64 0, .int .i64 0, .int .i64 0]) ?_ 0 _ rfl; exact Z K3) Try.underlying24 rfl (by kernel_rfl) rfl (by refine pf ?_; refine blk_put (cs := #[.int .i64 t27, .int .i64 t28, .int .i64 t29, .int .i64 0]) ?_ 3 _ rfl; refine pf ?_; refine blk_put (cs := #[.int .i64 t27, .int .i64 t28, .int .i64 0, .int .i64 0]) ?_ 2 _ rfl; refine pf ?_; refine blk_put (cs := #[.int .i64 t27, .int .i64 0, .int .i64 0, .int .i64 0]) ?_ 1 _ rfl; refine pf ?_; refine blk_put (cs := #[.int .i64 0, .int .i64 0, .int .i64 0, .int .i64 0]) ?_ 0 _ rfl; refine fa N12 ?_; refine fa N12 ?_; refine fa N12 ?_; refine fa N12 ?_; exact Z K4) Try.underlying24 rfl (by kernel_rfl)) rfl ?_
        exact ⟨ez, YA HB⟩
       replace c2 := Bool.eq_false_iff.mpr c2
       subst c2
       rw [if_neg ff] at H
       simp only [Option.some.injEq, Prod.mk.injEq] at H
       obtain ⟨rfl, rfl, rfl, rfl, rfl, rfl, rfl, rfl⟩ := H
       try go_wp2
       obtain ⟨K1, K2, K3, K4, K5, K6, K7, K8, HB⟩ := dk8 K1 K2 K3 K4 K5 K6 K7 K8 HB
       refine start_ (n := 4) (S := fun w' => w'.cell? ⟨g7, 0, none⟩ = some (.int .i64 x2) ∧ w'.cell? ⟨g7, 1, none⟩ = some (.int .i64 x3) ∧ w'.cell? ⟨g7, 2, none⟩ = some (.int .i64 x4) ∧ w'.cell? ⟨g7, 3, none⟩ = some (.int .i64 x5) ∧ w'.cell? ⟨g8, 0, none⟩ = some (.int .i64 x6) ∧ w'.cell? ⟨g8, 1, none⟩ = some (.int .i64 x7) ∧ w'.cell? ⟨g8, 2, none⟩ = some (.int .i64 x8) ∧ w'.cell? ⟨g8, 3, none⟩ = some (.int .i64 x9)) (ds := []) (lb 4 0) (by kernel_rfl) rfl rfl ⟨bc K7 0, bc K7 1, bc K7 2, bc K7 3, bc K8 0, bc K8 1, bc K8 2, bc K8 3⟩ (fun hHeld => ?_)
       generalize wc.drew = w14 at K1 K2 K3 K4 K5 K6 K7 K8 HB hHeld ⊢
       refine take_ (i := 0) (N := some 65) (v := ?_) (a' := ?_) (lb 4 1) rfl rfl (by kernel_rfl) (fun _ _ _ h => h) (Or.inl ⟨by rfl, ?_⟩) hHeld ?_ ?_
       rotate_left
       ·rintro w' ⟨s0, s1, s2, s3, s4, s5, s6, s7⟩
        go_simp
        with_reducible rfl
       rotate_left
       ·exact pz
       refine take_ (i := 1) (N := some 66) (v := ?_) (a' := ?_) (lb 4 3) rfl rfl (by kernel_rfl) (fun _ _ _ h => h) (Or.inl ⟨by rfl, ?_⟩) hHeld ?_ ?_
       rotate_left
       ·rintro w' ⟨s0, s1, s2, s3, s4, s5, s6, s7⟩
        go_simp
        with_reducible rfl
       rotate_left
       ·exact pz
       refine one_ (i := 2) (N := none) (lb 4 7) rfl rfl (by kernel_rfl) (by decide) (fun K hK => ?_)
       have s20 : w14.cell? ⟨g3, 0, none⟩ = some (.int .i64 0) := bc K3 0
       have hfs131 := blk_frozen K3.out 0
       have z_ := ns10 N3 N5 N12 N18 N28 N36 N48 N4 N6 N11
       have z_ := ns4 N17 N27 N35 N47
       have s21 : w14.cell? ⟨g3, 1, none⟩ = some (.int .i64 0) := bc K3 1
       have hfs132 := blk_frozen K3.out 1
       have z_ := ns10 N3 N5 N12 N18 N28 N36 N48 N4 N6 N11
       have z_ := ns4 N17 N27 N35 N47
       have s22 : w14.cell? ⟨g3, 2, none⟩ = some (.int .i64 0) := bc K3 2
       have hfs133 := blk_frozen K3.out 2
       have z_ := ns10 N3 N5 N12 N18 N28 N36 N48 N4 N6 N11
       have z_ := ns4 N17 N27 N35 N47
       have s23 : w14.cell? ⟨g3, 3, none⟩ = some (.int .i64 0) := bc K3 3
       have hfs134 := blk_frozen K3.out 3
       have z_ := ns10 N3 N5 N12 N18 N28 N36 N48 N4 N6 N11
       have z_ := ns4 N17 N27 N35 N47
       refine skip_ (w1 := ?_) (by rfl) rfl ?_ ?_
       rotate_left
       ·go_simp
        rfl
       refine hK.out _ _ ⟨(cf N36 ((cf N36 ((cf N36 ((cf N36 (hHeld.1)))))))), (cf N36 ((cf N36 ((cf N36 ((cf N36 (hHeld.2.1)))))))), (cf N36 ((cf N36 ((cf N36 ((cf N36 (hHeld.2.2.1)))))))), (cf N36 ((cf N36 ((cf N36 ((cf N36 (hHeld.2.2.2.1)))))))), (cf N48 ((cf N48 ((cf N48 ((cf N48 (hHeld.2.2.2.2.1)))))))), (cf N48 ((cf N48 ((cf N48 ((cf N48 (hHeld.2.2.2.2.2.1)))))))), (cf N48 ((cf N48 ((cf N48 ((cf N48 (hHeld.2.2.2.2.2.2.1)))))))), (cf N48 ((cf N48 ((cf N48 ((cf N48 (hHeld.2.2.2.2.2.2.2))))))))⟩ (fun hHeld => ?_)
       clear hK K
       refine one_ (i := 3) (N := none) (lb 4 15) rfl rfl (by kernel_rfl) (by decide) (fun K hK => ?_)
       have s24 : w14.cell? ⟨g4, 0, none⟩ = some (.int .i64 0) := bc K4 0
       have hfs135 := blk_frozen K4.out 0
       have z_ := ns10 N7 N9 N11 N20 N30 N38 N50 N8 N10 N12
       have z_ := ns4 N19 N29 N37 N49
       have s25 : w14.cell? ⟨g4, 1, none⟩ = some (.int .i64 0) := bc K4 1
       have hfs136 := blk_frozen K4.out 1
       have z_ := ns10 N7 N9 N11 N20 N30 N38 N50 N8 N10 N12
       have z_ := ns4 N19 N29 N37 N49
       have s26 : w14.cell? ⟨g4, 2, none⟩ = some (.int .i64 0) := bc K4 2
       have hfs137 := blk_frozen K4.out 2
       have z_ := ns10 N7 N9 N11 N20 N30 N38 N50 N8 N10 N12
       have z_ := ns4 N19 N29 N37 N49
       have s27 : w14.cell? ⟨g4, 3, none⟩ = some (.int .i64 0) := bc K4 3
       have hfs138 := blk_frozen K4.out 3
       have z_ := ns10 N7 N9 N11 N20 N30 N38 N50 N8 N10 N12
       have z_ := ns4 N19 N29 N37 N49
       refine skip_ (w1 := ?_) (by rfl) rfl ?_ ?_
       rotate_left
       ·go_simp
        rfl
       refine hK.out _ _ ⟨(cf N38 ((cf N38 ((cf N38 ((cf N38 (hHeld.1)))))))), (cf N38 ((cf N38 ((cf N38 ((cf N38 (hHeld.2.1)))))))), (cf N38 ((cf N38 ((cf N38 ((cf N38 (hHeld.2.2.1)))))))), (cf N38 ((cf N38 ((cf N38 ((cf N38 (hHeld.2.2.2.1)))))))), (cf N50 ((cf N50 ((cf N50 ((cf N50 (hHeld.2.2.2.2.1)))))))), (cf N50 ((cf N50 ((cf N50 ((cf N50 (hHeld.2.2.2.2.2.1)))))))), (cf N50 ((cf N50 ((cf N50 ((cf N50 (hHeld.2.2.2.2.2.2.1)))))))), (cf N50 ((cf N50 ((cf N50 ((cf N50 (hHeld.2.2.2.2.2.2.2))))))))⟩ (fun hHeld => ?_)
       clear hK K
       refine done_ (by kernel_rfl) ?_
       try go_wp2
       refine bodyPost_ret (results_cc rfl _ _ g3 g4 24 24 #[.int .i64 x2, .int .i64 x3, .int .i64 x4, .int .i64 x5] #[.int .i64 x6, .int .i64 x7, .int .i64 x8, .int .i64 x9] (0, 0) (0, 0) _ _ rfl (by refine fa N11 ?_; refine fa N11 ?_; refine fa N11 ?_; refine fa N11 ?_; refine pf ?_; refine blk_put (cs := #[.int .i64 x2, .int .i64 x3, .int .i64 x4, .int .i64 0]) ?_ 3 _ rfl; refine pf ?_; refine blk_put (cs := #[.int .i64 x2, .int .i64 x3, .int .i64 0, .int .i64 0]) ?_ 2 _ rfl; refine pf ?_; refine blk_put (cs := #[.int .i64 x2, .int .i64 0, .int .i64 0, .int .i64 0]) ?_ 1 _ rfl; refine pf ?_; refine blk_put (cs := #[.int .i64 0, .int .i64 0, .int .i64 0, .int .i64 0]) ?_ 0 _ rfl; exact Z K3) Try.underlying24 rfl (by kernel_rfl) rfl (by refine pf ?_; refine blk_put (cs := #[.int .i64 x6, .int .i64 x7, .int .i64 x8, .int .i64 0]) ?_ 3 _ rfl; refine pf ?_; refine blk_put (cs := #[.int .i64 x6, .int .i64 x7, .int .i64 0, .int .i64 0]) ?_ 2 _ rfl; refine pf ?_; refine blk_put (cs := #[.int .i64 x6, .int .i64 0, .int .i64 0, .int .i64 0]) ?_ 1 _ rfl; refine pf ?_; refine blk_put (cs := #[.int .i64 0, .int .i64 0, .int .i64 0, .int .i64 0]) ?_ 0 _ rfl; refine fa N12 ?_; refine fa N12 ?_; refine fa N12 ?_; refine fa N12 ?_; exact Z K4) Try.underlying24 rfl (by kernel_rfl)) rfl ?_
       exact ⟨ez, YA HB⟩
end
end Go.Proofs.Ytdmadlfdibiejaa.PFnExactValCmp
