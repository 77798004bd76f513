/- Written by this session's own driver (wip/dprint.py): the functions that the law FnRangeFaults reaches, as Lean functions, each with its contract. -/
import Derived.Test.YthbkakcchgnhpaaPFnRangeFaultsx0
import Derived.Test.YthbkakcchgnhpaaPFnRangeFaultsx1
import Derived.Test.YthbkakcchgnhpaaPFnRangeFaultsx2
import Derived.Test.YthbkakcchgnhpaaPFnRangeFaultsx3
import Derived.Test.YthbkakcchgnhpaaSv
namespace Go.Proofs.Ythbkakcchgnhpaa.PFnRangeFaults
open Go.RowKit Go.Proofs.YthbkakcchgnhpaaV.PrintWords Go.Proofs.YthbkakcchgnhpaaV.PrintLast Go.Proofs.YthbkakcchgnhpaaV.PrintMore Go.Proofs.YthbkakcchgnhpaaSv
attribute [local go_sem] max2_int min2_int max_two min_two max_three min_three max_four min_four   -- for this text's walks alone
set_option linter.unusedVariables false
set_option linter.unusedSimpArgs false

attribute [local go_sem high] eqA24
/-! ### spec_RangeMeet: function 41 -/
attribute [local go_sem] Go.Proofs.YthbkakcchgnhpaaSet.isSome_setCell
def spec_RangeMeet.j0 : Nat → Bool → Int → Int → Int → Int → Option (Int × Int)
 | 0, _, _, _, _, _ => none
 | k + 1, x22, x130000, x130001, x131000, x131001 => if x22 = true then ((spec_l8None.f).bind fun bt138 => (some (bt138.1, bt138.2))) else ((spec_l8Max.f x130000 x131000).bind fun t140 => ((spec_l8Min.f x130001 x131001).bind fun t141 => ((spec_l8Cut.f t140 t141).bind fun bt142 => (some (bt142.1, bt142.2)))))
def spec_RangeMeet.f (k : Nat) (a0_0 : Int) (a0_1 : Int) (a1_0 : Int) (a1_1 : Int) : Option (Int × Int) := (spec_RangeOk.f a0_0 a0_1).bind fun t132 => (if t132 = true then ((spec_RangeOk.f a1_0 a1_1).bind fun t133 => (if t133 = true then ((spec_l8None.f).bind fun bt134 => (if (a0_0 == bt134.1 && (a0_1 == bt134.2)) = true then (spec_RangeMeet.j0 k true a0_0 a0_1 a1_0 a1_1) else ((spec_l8None.f).bind fun bt136 => (spec_RangeMeet.j0 k (a1_0 == bt136.1 && (a1_1 == bt136.2)) a0_0 a0_1 a1_0 a1_1)))) else (spec_RangeMeet.j0 k true a0_0 a0_1 a1_0 a1_1))) else (spec_RangeMeet.j0 k true a0_0 a0_1 a1_0 a1_1))
theorem spec_RangeMeet.mono_l : ∀ k, (∀ y0 y1 y2 y3 y4, LeO (spec_RangeMeet.j0 k y0 y1 y2 y3 y4) (spec_RangeMeet.j0 (k + 1) y0 y1 y2 y3 y4))
 | 0 => fun _ _ _ _ _ r h => by simp [spec_RangeMeet.j0] at h
 | k + 1 => by
  have ih0 := spec_RangeMeet.mono_l k
  ·intro y0 y1 y2 y3 y4
   unfold spec_RangeMeet.j0
   repeat' first | (with_reducible first | apply ih0 | apply LeO.refl | apply LeO.none | refine LeO.ite ?_ ?_ | refine LeO.bind ?_ (fun _ => ?_)) | apply ih0 | apply LeO.none | refine LeO.ite ?_ ?_ | refine LeO.bind ?_ (fun _ => ?_)
theorem spec_RangeMeet.mono : ∀ a0 a1 a2 a3 k, LeO (spec_RangeMeet.f k a0 a1 a2 a3) (spec_RangeMeet.f (k + 1) a0 a1 a2 a3) := by
 intro a0 a1 a2 a3 k
 have ih0 := spec_RangeMeet.mono_l k
 unfold spec_RangeMeet.f
 repeat' first | (with_reducible first | apply ih0 | apply LeO.refl | apply LeO.none | refine LeO.ite ?_ ?_ | refine LeO.bind ?_ (fun _ => ?_)) | apply ih0 | apply LeO.none | refine LeO.ite ?_ ?_ | refine LeO.bind ?_ (fun _ => ?_)
def spec_RangeMeet.T1 : Bool × List (List Nat × List Nat) := (true, [([], []), ([0], [0]), ([1], [1]), ([2, 1], [2]), ([3], [3]), ([4, 3, 3], [3, 4]), ([5, 3], [3, 5]), ([3, 6], [3, 6]), ([7, 5], [7]), ([8], [8]), ([8, 8], [8]), ([9, 10, 8], [8, 9, 10]), ([8, 11], [8, 11]), ([12, 10], [12]), ([13], [13]), ([13, 13], [13]), ([14, 15, 13], [13, 14, 15]), ([13, 16], [13, 16])])
def spec_RangeMeet.B1 : List Nat := [0, 1, 3, 7, 15, 31, 63, 127, 255, 511, 511, 2047, 4095, 8191, 16383, 16383, 65535, 131071]
theorem spec_RangeMeet.tab1 : rtab .any (opsOf Try.f41 1) = spec_RangeMeet.T1 := by kernel_rfl
theorem spec_RangeMeet.bits1 : waitsOk spec_RangeMeet.T1.2 spec_RangeMeet.B1 = true := by kernel_rfl
def spec_RangeMeet.T3 : Bool × List (List Nat × List Nat) := (true, [([], []), ([0], [0]), ([], []), ([2], [2]), ([1, 3], [1, 3]), ([], []), ([5], [5]), ([], []), ([7], [7]), ([6, 8, 4], [6, 8]), ([4, 9, 9], [4, 9]), ([10, 10, 0, 1, 2, 3, 4, 5, 6, 7, 8, 9, 10], [10])])
def spec_RangeMeet.B3 : List Nat := [0, 1, 0, 4, 15, 0, 32, 0, 128, 511, 1023, 2047]
theorem spec_RangeMeet.tab3 : rtab .any (opsOf Try.f41 3) = spec_RangeMeet.T3 := by kernel_rfl
theorem spec_RangeMeet.bits3 : waitsOk spec_RangeMeet.T3.2 spec_RangeMeet.B3 = true := by kernel_rfl
set_option maxHeartbeats 8000000 in
set_option maxRecDepth 100000 in
theorem spec_RangeMeet.calls (k : Nat) (a0_0 : Int) (a0_1 : Int) (a1_0 : Int) (a1_1 : Int) (r1 : Int) (r2 : Int) (w : World) (h : spec_RangeMeet.f k a0_0 a0_1 a1_0 a1_1 = some (r1, r2)) :
  Calls Try.prog 41 #[.agg #[.int .i64 a0_0, .int .i64 a0_1], .agg #[.int .i64 a1_0, .int .i64 a1_1]] w fun e w' => e = .returned (.agg #[.int .i64 r1, .int .i64 r2]) ∧ Below w.heap.size w w' := by
 have hu24 := Try.underlying24
 have HB := am (Below.refl w.heap.size w)
 have H : ((spec_RangeOk.f a0_0 a0_1).bind fun t132 => (if t132 = true then ((spec_RangeOk.f a1_0 a1_1).bind fun t133 => (if t133 = true then ((spec_l8None.f).bind fun bt134 => (if (a0_0 == bt134.1 && (a0_1 == bt134.2)) = true then (spec_RangeMeet.j0 k true a0_0 a0_1 a1_0 a1_1) else ((spec_l8None.f).bind fun bt136 => (spec_RangeMeet.j0 k (a1_0 == bt136.1 && (a1_1 == bt136.2)) a0_0 a0_1 a1_0 a1_1)))) else (spec_RangeMeet.j0 k true a0_0 a0_1 a1_0 a1_1))) else (spec_RangeMeet.j0 k true a0_0 a0_1 a1_0 a1_1))) = some (r1, r2) := h
 clear h
 have HC3 := am H
 clear H
 go_enter Try.func41, Try.ntmps41
 go_upto_region 1 with (first | ((with_reducible refine gate_dst (N := 2) rfl ?_); refine bx 2 #[.int .i64 a0_0, .int .i64 a0_1] 24 ?_; intro gb129 hg w4 hbox hb; have BK129 := am (hbox); have GW129 := am (bs hg (YA HB)); have GE129 := GW129; replace HB := am (below_step (YA HB) hb); clear hb hbox hg) | ((with_reducible refine gate_dst (N := 3) rfl ?_); refine bx 3 #[.int .i64 a1_0, .int .i64 a1_1] 24 ?_; intro gb130 hg w5 hbox hb; have BK130 := am (hbox); have GW130 := am (bs hg (YA HB)); have GE130 := GW130; obtain ⟨NB129_130,NB130_129⟩ := ne_ hg BK129; obtain ⟨BK129, HB⟩ := bk1 BK129 HB hb; clear hb hbox hg) | ((with_reducible refine gate_dst (N := 4) rfl ?_); refine bx 4 #[.int .i64 0, .int .i64 0] 24 ?_; intro gb131 hg w6 hbox hb; have BK131 := am (hbox); have GW131 := am (bs hg (YA HB)); have GE131 := GW131; obtain ⟨NB129_131,NB131_129⟩ := ne_ hg BK129; obtain ⟨NB130_131,NB131_130⟩ := ne_ hg BK130; obtain ⟨BK129, BK130, HB⟩ := bk2 BK129 BK130 HB hb; clear hb hbox hg))
 (try simp only [Act.put, List.setIfInBounds_toArray, List.set_cons_zero, List.set_cons_succ])
 go_cut [22] (fun v22 wc => ∃ (kq : Nat) (x22_2 : Bool), v22 = .bool x22_2 ∧ Aside0 (spec_RangeMeet.j0 kq x22_2 a0_0 a0_1 a1_0 a1_1 = some (r1, r2)) ∧ Aside0 (kq ≤ k) ∧ Bx2 wc gb129 a0_0 a0_1 24 ∧ Bx2 wc gb130 a1_0 a1_1 24 ∧ Bx2 wc gb131 0 0 24 ∧ Aside0 (Below w.heap.size w wc))
 case first =>
  have H := HC3.out
  clear HC3
  obtain ⟨t132, A7, H⟩ := bd H
  try dsimp only at H
  by_cases c8 : t132 = true
  rotate_left
  ·replace c8 := Bool.eq_false_iff.mpr c8
   subst c8
   rw [if_neg ff] at H
   have H' := am H
   clear H
   try go_wp2
   obtain ⟨BK129, BK130, BK131, HB⟩ := dk3 BK129 BK130 BK131 HB
   refine start_ (n := 18) (S := fun w' => w'.cell? ⟨gb129, 0, none⟩ = some (.int .i64 a0_0) ∧ w'.cell? ⟨gb129, 1, none⟩ = some (.int .i64 a0_1)) (ds := []) (lb 18 0) (by kernel_rfl) rfl rfl ⟨bc BK129 0, bc BK129 1⟩ (fun hHeld => ?_); refine with_tabW spec_RangeMeet.tab1 spec_RangeMeet.bits1 (fun HT_ HW_ => ?_)
   generalize w6.drew = w26 at BK129 BK130 BK131 HB hHeld ⊢
   refine tk 0 5 1 hHeld ?_
   refine on 1 (some 6) 3 fun K hK => ?_
   refine gq Try.func24 (spec_RangeOk.calls _ _ _ _ A7.out) fun w27 hb => ?_
   obtain ⟨BK129, BK130, BK131, HB⟩ := bk3 BK129 BK130 BK131 HB hb
   clear hb
   refine kk hK ⟨bc BK129 0, bc BK129 1⟩ fun hHeld => ?_
   clear hK K
   refine pk 2 7 7 ?_
   refine pk 3 8 15 ?_
   refine uk 4 9 31 ?_
   refine uk 5 10 63 ?_
   refine uk 6 11 127 ?_
   refine pk 7 12 255 ?_
   refine pk 8 13 511 ?_
   refine uk 9 14 1023 ?_
   refine uk 10 15 2047 ?_
   refine uk 11 16 4095 ?_
   refine pk 12 17 8191 ?_
   refine pk 13 18 16383 ?_
   refine uk 14 19 32767 ?_
   refine uk 15 20 65535 ?_
   refine uk 16 21 131071 ?_
   refine pk 17 22 262143 ?_
   refine done_ (done_of HT_.out (by kernel_rfl)) ?_
   try go_wp2
   go_meet
   case rel => exact ⟨_, (true), ey, H', le0, ⟨Z BK129⟩, ⟨Z BK130⟩, ⟨Z BK131⟩, ⟨YA HB⟩⟩
  subst c8
  rw [if_pos rfl] at H
  obtain ⟨t133, A9, H⟩ := bd H
  try dsimp only at H
  by_cases c10 : t133 = true
  rotate_left
  ·replace c10 := Bool.eq_false_iff.mpr c10
   subst c10
   rw [if_neg ff] at H
   have H' := am H
   clear H
   try go_wp2
   obtain ⟨BK129, BK130, BK131, HB⟩ := dk3 BK129 BK130 BK131 HB
   refine start_ (n := 18) (S := fun w' => w'.cell? ⟨gb129, 0, none⟩ = some (.int .i64 a0_0) ∧ w'.cell? ⟨gb129, 1, none⟩ = some (.int .i64 a0_1) ∧ w'.cell? ⟨gb130, 0, none⟩ = some (.int .i64 a1_0) ∧ w'.cell? ⟨gb130, 1, none⟩ = some (.int .i64 a1_1)) (ds := []) (lb 18 0) (by kernel_rfl) rfl rfl ⟨bc BK129 0, bc BK129 1, bc BK130 0, bc BK130 1⟩ (fun hHeld => ?_); refine with_tabW spec_RangeMeet.tab1 spec_RangeMeet.bits1 (fun HT_ HW_ => ?_)
   generalize w6.drew = w23 at BK129 BK130 BK131 HB hHeld ⊢
   refine tk 0 5 1 hHeld ?_
   refine on 1 (some 6) 3 fun K hK => ?_
   refine gq Try.func24 (spec_RangeOk.calls _ _ _ _ A7.out) fun w24 hb => ?_
   obtain ⟨BK129, BK130, BK131, HB⟩ := bk3 BK129 BK130 BK131 HB hb
   clear hb
   refine kk hK ⟨bc BK129 0, bc BK129 1, bc BK130 0, bc BK130 1⟩ fun hHeld => ?_
   clear hK K
   refine pk 2 7 7 ?_
   refine pk 3 8 15 ?_
   refine tk 4 9 31 hHeld ?_
   refine on 5 (some 10) 63 fun K hK => ?_
   refine gq Try.func24 (spec_RangeOk.calls _ _ _ _ A9.out) fun w25 hb => ?_
   obtain ⟨BK129, BK130, BK131, HB⟩ := bk3 BK129 BK130 BK131 HB hb
   clear hb
   refine kk hK ⟨bc BK129 0, bc BK129 1, bc BK130 0, bc BK130 1⟩ fun hHeld => ?_
   clear hK K
   refine pk 6 11 127 ?_
   refine pk 7 12 255 ?_
   refine pk 8 13 511 ?_
   refine uk 9 14 1023 ?_
   refine uk 10 15 2047 ?_
   refine uk 11 16 4095 ?_
   refine pk 12 17 8191 ?_
   refine pk 13 18 16383 ?_
   refine uk 14 19 32767 ?_
   refine uk 15 20 65535 ?_
   refine uk 16 21 131071 ?_
   refine pk 17 22 262143 ?_
   refine done_ (done_of HT_.out (by kernel_rfl)) ?_
   try go_wp2
   go_meet
   case rel => exact ⟨_, (true), ey, H', le0, ⟨Z BK129⟩, ⟨Z BK130⟩, ⟨Z BK131⟩, ⟨YA HB⟩⟩
  subst c10
  rw [if_pos rfl] at H
  obtain ⟨⟨t134, t135⟩, A11, H⟩ := bd H
  try dsimp only at H
  by_cases c12 : (a0_0 == t134 && (a0_1 == t135)) = true
  ·rw [if_pos c12] at H
   have c12b0 : (a0_0 == t134 && (a0_1 == t135)) = true := c12
   (try (have c12b1 : decide (a0_0 = t134 && (a0_1 == t135)) = true := by simpa using c12))
   (try (have c12b2 : (a0_0 == t134 && (a0_1 == t135)) = true := by simpa using c12))
   clear c12
   (first | rw [c12b0] | (simp only [i64_w, i32_w]; rw [c12b0]) | skip)
   have H' := am H
   clear H
   try go_wp2
   obtain ⟨BK129, BK130, BK131, HB⟩ := dk3 BK129 BK130 BK131 HB
   refine start_ (n := 18) (S := fun w' => w'.cell? ⟨gb129, 0, none⟩ = some (.int .i64 a0_0) ∧ w'.cell? ⟨gb129, 1, none⟩ = some (.int .i64 a0_1) ∧ w'.cell? ⟨gb130, 0, none⟩ = some (.int .i64 a1_0) ∧ w'.cell? ⟨gb130, 1, none⟩ = some (.int .i64 a1_1)) (ds := []) (lb 18 0) (by kernel_rfl) rfl rfl ⟨bc BK129 0, bc BK129 1, bc BK130 0, bc BK130 1⟩ (fun hHeld => ?_); refine with_tabW spec_RangeMeet.tab1 spec_RangeMeet.bits1 (fun HT_ HW_ => ?_)
   generalize w6.drew = w13 at BK129 BK130 BK131 HB hHeld ⊢
   refine tk 0 5 1 hHeld ?_
   refine on 1 (some 6) 3 fun K hK => ?_
   refine gq Try.func24 (spec_RangeOk.calls _ _ _ _ A7.out) fun w14 hb => ?_
   obtain ⟨BK129, BK130, BK131, HB⟩ := bk3 BK129 BK130 BK131 HB hb
   clear hb
   refine kk hK ⟨bc BK129 0, bc BK129 1, bc BK130 0, bc BK130 1⟩ fun hHeld => ?_
   clear hK K
   refine pk 2 7 7 ?_
   refine pk 3 8 15 ?_
   refine tk 4 9 31 hHeld ?_
   refine on 5 (some 10) 63 fun K hK => ?_
   refine gq Try.func24 (spec_RangeOk.calls _ _ _ _ A9.out) fun w15 hb => ?_
   obtain ⟨BK129, BK130, BK131, HB⟩ := bk3 BK129 BK130 BK131 HB hb
   clear hb
   refine kk hK ⟨bc BK129 0, bc BK129 1, bc BK130 0, bc BK130 1⟩ fun hHeld => ?_
   clear hK K
   refine pk 6 11 127 ?_
   refine pk 7 12 255 ?_
   refine pk 8 13 511 ?_
   refine tk 9 14 1023 hHeld ?_
   refine on 10 (some 15) 2047 fun K hK => ?_
   refine gq Try.func38 (spec_l8None.calls _ _ _ A11.out) fun w16 hb => ?_
   obtain ⟨BK129, BK130, BK131, HB⟩ := bk3 BK129 BK130 BK131 HB hb
   clear hb
   refine kk hK ⟨bc BK129 0, bc BK129 1, bc BK130 0, bc BK130 1⟩ fun hHeld => ?_
   clear hK K
   refine pk 11 16 4095 ?_
   refine pk 12 17 8191 ?_
   refine pk 13 18 16383 ?_
   refine uk 14 19 32767 ?_
   refine uk 15 20 65535 ?_
   refine uk 16 21 131071 ?_
   refine pk 17 22 262143 ?_
   refine done_ (done_of HT_.out (by kernel_rfl)) ?_
   try go_wp2
   go_meet
   case rel => exact ⟨_, (true), ey, H', le0, ⟨Z BK129⟩, ⟨Z BK130⟩, ⟨Z BK131⟩, ⟨YA HB⟩⟩
  rw [if_neg c12] at H
  have c12b0 : (a0_0 == t134 && (a0_1 == t135)) = false := by simpa using c12
  (try (have c12b1 : decide (a0_0 = t134 && (a0_1 == t135)) = false := by simpa using c12))
  (try (have c12b2 : (a0_0 == t134 && (a0_1 == t135)) = false := by simpa using c12))
  (try (have c12b3 : ¬ (a0_0 = t134 && (a0_1 == t135)) := by simpa using c12))
  clear c12
  (first | rw [c12b0] | (simp only [i64_w, i32_w]; rw [c12b0]) | skip)
  obtain ⟨⟨t136, t137⟩, A17, H⟩ := bd H
  try dsimp only at H
  have H' := am H
  clear H
  try go_wp2
  obtain ⟨BK129, BK130, BK131, HB⟩ := dk3 BK129 BK130 BK131 HB
  refine start_ (n := 18) (S := fun w' => w'.cell? ⟨gb129, 0, none⟩ = some (.int .i64 a0_0) ∧ w'.cell? ⟨gb129, 1, none⟩ = some (.int .i64 a0_1) ∧ w'.cell? ⟨gb130, 0, none⟩ = some (.int .i64 a1_0) ∧ w'.cell? ⟨gb130, 1, none⟩ = some (.int .i64 a1_1)) (ds := []) (lb 18 0) (by kernel_rfl) rfl rfl ⟨bc BK129 0, bc BK129 1, bc BK130 0, bc BK130 1⟩ (fun hHeld => ?_); refine with_tabW spec_RangeMeet.tab1 spec_RangeMeet.bits1 (fun HT_ HW_ => ?_)
  generalize w6.drew = w18 at BK129 BK130 BK131 HB hHeld ⊢
  refine tk 0 5 1 hHeld ?_
  refine on 1 (some 6) 3 fun K hK => ?_
  refine gq Try.func24 (spec_RangeOk.calls _ _ _ _ A7.out) fun w19 hb => ?_
  obtain ⟨BK129, BK130, BK131, HB⟩ := bk3 BK129 BK130 BK131 HB hb
  clear hb
  refine kk hK ⟨bc BK129 0, bc BK129 1, bc BK130 0, bc BK130 1⟩ fun hHeld => ?_
  clear hK K
  refine pk 2 7 7 ?_
  refine pk 3 8 15 ?_
  refine tk 4 9 31 hHeld ?_
  refine on 5 (some 10) 63 fun K hK => ?_
  refine gq Try.func24 (spec_RangeOk.calls _ _ _ _ A9.out) fun w20 hb => ?_
  obtain ⟨BK129, BK130, BK131, HB⟩ := bk3 BK129 BK130 BK131 HB hb
  clear hb
  refine kk hK ⟨bc BK129 0, bc BK129 1, bc BK130 0, bc BK130 1⟩ fun hHeld => ?_
  clear hK K
  refine pk 6 11 127 ?_
  refine pk 7 12 255 ?_
  refine pk 8 13 511 ?_
  refine tk 9 14 1023 hHeld ?_
  refine on 10 (some 15) 2047 fun K hK => ?_
  refine gq Try.func38 (spec_l8None.calls _ _ _ A11.out) fun w21 hb => ?_
  obtain ⟨BK129, BK130, BK131, HB⟩ := bk3 BK129 BK130 BK131 HB hb
  clear hb
  refine kk hK ⟨bc BK129 0, bc BK129 1, bc BK130 0, bc BK130 1⟩ fun hHeld => ?_
  clear hK K
  refine pk 11 16 4095 ?_
  refine pk 12 17 8191 ?_
  refine pk 13 18 16383 ?_
  refine tk 14 19 32767 hHeld ?_
  refine on 15 (some 20) 65535 fun K hK => ?_
  refine gq Try.func38 (spec_l8None.calls _ _ _ A17.out) fun w22 hb => ?_
  obtain ⟨BK129, BK130, BK131, HB⟩ := bk3 BK129 BK130 BK131 HB hb
  clear hb
  refine kk hK ⟨bc BK129 0, bc BK129 1, bc BK130 0, bc BK130 1⟩ fun hHeld => ?_
  clear hK K
  refine pk 16 21 131071 ?_
  refine pk 17 22 262143 ?_
  refine done_ (done_of HT_.out (by kernel_rfl)) ?_
  try go_wp2
  go_meet
  case rel => exact ⟨_, ((a1_0 == t136 && (a1_1 == t137))), ey, H', le0, ⟨Z BK129⟩, ⟨Z BK130⟩, ⟨Z BK131⟩, ⟨YA HB⟩⟩
 case rest =>
  clear HC3
  obtain ⟨kq, x22_2, rfl, HA, HJ2, BK129, BK130, BK131, HB⟩ := hcut
  cases kq with
  | zero => exact absurd HA.out (by simp [spec_RangeMeet.j0])
  | succ kj2 =>
   have H := HA.out
   clear HA
   simp only [spec_RangeMeet.j0] at H
   by_cases c28 : x22_2 = true
   ·subst c28
    rw [if_pos rfl] at H
    obtain ⟨⟨t138, t139⟩, A29, H⟩ := bd H
    try dsimp only at H
    simp only [Option.some.injEq, Prod.mk.injEq] at H
    obtain ⟨rfl, rfl⟩ := H
    go_wp2_with (first | ((with_reducible refine gate_callee (f := 38) rfl ?_); refine gL 23 Try.func38 (spec_l8None.calls _ _ _ A29.out) fun w30 hb => ?_; obtain ⟨BK129, BK130, BK131, HB⟩ := bk3 BK129 BK130 BK131 HB hb; (try clear hb); obtain ⟨hnb31,hnc31⟩ := nn NB131_129; obtain ⟨hnb32,hnc32⟩ := nn NB131_130; obtain ⟨hcz33_0,hcz33_1,hfz33_0,hfz33_1⟩ := cB2 BK131))
    refine bodyPost_ret (results_cell_row rfl _ _ gb131 24 #[.int .i64 t138, .int .i64 t139] (0, 0) _ rfl (by refine pf ?_; refine blk_put (cs := #[.int .i64 t138, .int .i64 0]) ?_ 1 _ rfl; refine pf ?_; refine blk_put (cs := #[.int .i64 0, .int .i64 0]) ?_ 0 _ rfl; exact Z BK131) Try.underlying24 rfl (by kernel_rfl)) rfl ?_
    exact ⟨ez, YA HB⟩
   replace c28 := Bool.eq_false_iff.mpr c28
   subst c28
   rw [if_neg ff] at H
   obtain ⟨t140, A34, H⟩ := bd H
   try dsimp only at H
   obtain ⟨t141, A35, H⟩ := bd H
   try dsimp only at H
   obtain ⟨⟨t142, t143⟩, A36, H⟩ := bd H
   try dsimp only at H
   simp only [Option.some.injEq, Prod.mk.injEq] at H
   obtain ⟨rfl, rfl⟩ := H
   try go_wp2
   obtain ⟨BK129, BK130, BK131, HB⟩ := dk3 BK129 BK130 BK131 HB
   refine start_ (n := 12) (S := fun w' => w'.cell? ⟨gb129, 0, none⟩ = some (.int .i64 a0_0) ∧ w'.cell? ⟨gb129, 1, none⟩ = some (.int .i64 a0_1) ∧ w'.cell? ⟨gb130, 0, none⟩ = some (.int .i64 a1_0) ∧ w'.cell? ⟨gb130, 1, none⟩ = some (.int .i64 a1_1)) (ds := []) (lb 12 0) (by kernel_rfl) rfl rfl ⟨bc BK129 0, bc BK129 1, bc BK130 0, bc BK130 1⟩ (fun hHeld => ?_); refine with_tabW spec_RangeMeet.tab3 spec_RangeMeet.bits3 (fun HT_ HW_ => ?_)
   generalize wc.drew = w37 at BK129 BK130 BK131 HB hHeld ⊢
   refine pk 0 24 1 ?_
   refine pk 2 26 5 ?_
   refine pk 5 29 37 ?_
   refine pk 7 31 165 ?_
   refine tk 1 25 167 hHeld ?_
   refine tk 3 27 175 hHeld ?_
   refine tk 6 30 239 hHeld ?_
   refine tk 8 32 495 hHeld ?_
   refine on 4 (some 28) 511 fun K hK => ?_
   refine goes_ Try.func69 (by kernel_rfl) rfl #[.int .i64 a0_0, .int .i64 a1_0] (by rfl) rfl rfl mz ?_
   with_reducible refine (spec_l8Max.calls _ _ _ _ A34.out).mono ?_
   rintro e w' ⟨rfl, ⟨nd, rfl⟩⟩
   refine ⟨_, rfl, ?_⟩
   refine kk hK ⟨bc BK129 0, bc BK129 1, bc BK130 0, bc BK130 1⟩ fun hHeld => ?_
   clear hK K
   refine on 9 (some 33) 1023 fun K hK => ?_
   refine goes_ Try.func68 (by kernel_rfl) rfl #[.int .i64 a0_1, .int .i64 a1_1] (by rfl) rfl rfl mz ?_
   with_reducible refine (spec_l8Min.calls _ _ _ _ A35.out).mono ?_
   rintro e w' ⟨rfl, ⟨nd, rfl⟩⟩
   refine ⟨_, rfl, ?_⟩
   refine kk hK ⟨bc BK129 0, bc BK129 1, bc BK130 0, bc BK130 1⟩ fun hHeld => ?_
   clear hK K
   refine on 10 (some 34) 2047 fun K hK => ?_
   refine gq Try.func44 (spec_l8Cut.calls _ _ _ _ _ A36.out) fun w38 hb => ?_
   obtain ⟨BK129, BK130, BK131, HB⟩ := bk3 BK129 BK130 BK131 HB hb
   clear hb
   refine kk hK ⟨bc BK129 0, bc BK129 1, bc BK130 0, bc BK130 1⟩ fun hHeld => ?_
   clear hK K
   refine on 11 none 4095 fun K hK => ?_
   have hs39 : w38.cell? ⟨gb131, 0, none⟩ = some (.int .i64 0) := bc BK131 0
   have hfs39 := blk_frozen BK131.out 0
   have hns39_0 := NB129_131.out
   have hns39_1 := NB130_131.out
   have hms39_0 := NB131_129.out
   have hms39_1 := NB131_130.out
   have hs40 : w38.cell? ⟨gb131, 1, none⟩ = some (.int .i64 0) := bc BK131 1
   have hfs40 := blk_frozen BK131.out 1
   have hns40_0 := NB129_131.out
   have hns40_1 := NB130_131.out
   have hms40_0 := NB131_129.out
   have hms40_1 := NB131_130.out
   refine skip_ (w1 := ?_) (by rfl) rfl ?_ ?_
   rotate_left
   ·go_simp
    rfl
   refine hK.out _ _ ⟨((cell_far (p := ⟨gb131, _, none⟩) NB129_131.out _).trans (((cell_far (p := ⟨gb131, _, none⟩) NB129_131.out _).trans (hHeld.1)))), ((cell_far (p := ⟨gb131, _, none⟩) NB129_131.out _).trans (((cell_far (p := ⟨gb131, _, none⟩) NB129_131.out _).trans (hHeld.2.1)))), ((cell_far (p := ⟨gb131, _, none⟩) NB130_131.out _).trans (((cell_far (p := ⟨gb131, _, none⟩) NB130_131.out _).trans (hHeld.2.2.1)))), ((cell_far (p := ⟨gb131, _, none⟩) NB130_131.out _).trans (((cell_far (p := ⟨gb131, _, none⟩) NB130_131.out _).trans (hHeld.2.2.2))))⟩ (fun hHeld => ?_)
   clear hK K
   refine done_ (done_of HT_.out (by kernel_rfl)) ?_
   try go_wp2
   refine bodyPost_ret (results_cell_row rfl _ _ gb131 24 #[.int .i64 t142, .int .i64 t143] (0, 0) _ rfl (by refine pf ?_; refine blk_put (cs := #[.int .i64 t142, .int .i64 0]) ?_ 1 _ rfl; refine pf ?_; refine blk_put (cs := #[.int .i64 0, .int .i64 0]) ?_ 0 _ rfl; exact Z BK131) Try.underlying24 rfl (by kernel_rfl)) rfl ?_
   exact ⟨ez, YA HB⟩

end Go.Proofs.Ythbkakcchgnhpaa.PFnRangeFaults
