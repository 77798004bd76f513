/- Written by this session's own driver (wip/dprint.py): the functions that the law FnRangeFaults reaches, as Lean functions, each with its contract. -/
import Derived.Test.YthbkakcchgnhpaaPFnRangeFaultsx0
import Derived.Test.YthbkakcchgnhpaaPFnRangeFaultsx2
import Derived.Test.YthbkakcchgnhpaaPFnRangeFaultsx11
import Derived.Test.YthbkakcchgnhpaaPFnRangeFaultsx21
import Derived.Test.YthbkakcchgnhpaaPFnRangeFaultsx22
import Derived.Test.YthbkakcchgnhpaaPFnRangeFaultsx24
import Derived.Test.YthbkakcchgnhpaaSv
namespace Go.Proofs.Ythbkakcchgnhpaa.PFnRangeFaults
open Go.RowKit Go.Proofs.YthbkakcchgnhpaaV.PrintWords Go.Proofs.YthbkakcchgnhpaaV.PrintLast Go.Proofs.YthbkakcchgnhpaaV.PrintMore Go.Proofs.YthbkakcchgnhpaaSv
attribute [local go_sem] max2_int min2_int max_two min_two max_three min_three max_four min_four   -- for this text's walks alone
set_option linter.unusedVariables false
set_option linter.unusedSimpArgs false

/-! ### laws_FnRangeFaults: function 5 -/
attribute [local go_sem] Go.Proofs.YthbkakcchgnhpaaSet.isSome_setCell
mutual
def laws_FnRangeFaults.l0 : Nat → Int → List Int → List Int → List Int → Int → Int → Int → Int → Int → Option (Bool)
 | 0, _, _, _, _, _, _, _, _, _ => none
 | k + 1, x3, x7, x10, x11, x12, x603000, x603001, x604000, x604001 => if x12 < (x7.length : Int) then (laws_FnRangeFaults.l1 k x3 x7 x10 x11 x12 false 0 x603000 x603001 x604000 x604001) else (some true)
def laws_FnRangeFaults.l1 : Nat → Int → List Int → List Int → List Int → Int → Bool → Int → Int → Int → Int → Int → Option (Bool)
 | 0, _, _, _, _, _, _, _, _, _, _, _ => none
 | k + 1, x3, x7, x10, x11, x12, x13, x14, x603000, x603001, x604000, x604001 => if x14 < (x10.length : Int) then (laws_FnRangeFaults.l2 k x3 x7 x10 x11 x12 x13 x14 0 x603000 x603001 x604000 x604001) else (if x13 = true then (laws_FnRangeFaults.l0 k x3 x7 x10 x11 (wrap64 (x12 + 1)) x603000 x603001 x604000 x604001) else (none))
def laws_FnRangeFaults.l2 : Nat → Int → List Int → List Int → List Int → Int → Bool → Int → Int → Int → Int → Int → Int → Option (Bool)
 | 0, _, _, _, _, _, _, _, _, _, _, _, _ => none
 | k + 1, x3, x7, x10, x11, x12, x13, x14, x15, x603000, x603001, x604000, x604001 => if x15 < (x11.length : Int) then (if 0 ≤ x14 then (if x14 < (x10.length : Int) then ((spec_RangeHas.f x603000 x603001 (rd x10 x14)).bind fun t624 => (if t624 = true then (if 0 ≤ x15 then ((spec_RangeHas.f x604000 x604001 (rd x11 x15)).bind fun t626 => (if t626 = true then ((impl_NumDo.f k x3 (rd x10 x14) (rd x11 x15)).bind fun bt629 => (if x13 = true then (laws_FnRangeFaults.l2 k x3 x7 x10 x11 x12 true x14 (wrap64 (x15 + 1)) x603000 x603001 x604000 x604001) else (if 0 ≤ x12 then (if x12 < (x7.length : Int) then (laws_FnRangeFaults.l2 k x3 x7 x10 x11 x12 (bt629.2 == (rd x7 x12)) x14 (wrap64 (x15 + 1)) x603000 x603001 x604000 x604001) else (none)) else (none)))) else (laws_FnRangeFaults.l2 k x3 x7 x10 x11 x12 x13 x14 (wrap64 (x15 + 1)) x603000 x603001 x604000 x604001))) else (none)) else (laws_FnRangeFaults.l2 k x3 x7 x10 x11 x12 x13 x14 (wrap64 (x15 + 1)) x603000 x603001 x604000 x604001))) else (none)) else (none)) else (laws_FnRangeFaults.l1 k x3 x7 x10 x11 x12 x13 (wrap64 (x14 + 1)) x603000 x603001 x604000 x604001)
end
def laws_FnRangeFaults.f (k : Nat) (l0 : List Int) : Option (Bool) := if (l0.length : Int) > 1048576 then (some true) else ((spec_DrawRangeDo.f k l0).bind fun bt597 => ((impl_RangeDo.f k bt597.1 bt597.2.1 bt597.2.2.1 bt597.2.2.2.1 bt597.2.2.2.2).bind fun bt604 => ((spec_RangeDo.f k bt597.1 bt597.2.1 bt597.2.2.1 bt597.2.2.2.1 bt597.2.2.2.2).bind fun bt610 => ((laws_sameInts.f k bt604.2.2 bt610.2.2).bind fun t616 => (if t616 = true then (laws_FnRangeFaults.l0 k bt597.1 bt604.2.2 (([bt597.2.1, bt597.2.2.1] : List Int)) (([bt597.2.2.2.1, bt597.2.2.2.2, 0, (-1), 31] : List Int)) 0 bt597.2.1 bt597.2.2.1 bt597.2.2.2.1 bt597.2.2.2.2) else (none))))))
theorem laws_FnRangeFaults.mono_l : ∀ k, (∀ y0 y1 y2 y3 y4 y5 y6 y7 y8, LeO (laws_FnRangeFaults.l0 k y0 y1 y2 y3 y4 y5 y6 y7 y8) (laws_FnRangeFaults.l0 (k + 1) y0 y1 y2 y3 y4 y5 y6 y7 y8)) ∧ (∀ y0 y1 y2 y3 y4 y5 y6 y7 y8 y9 y10, LeO (laws_FnRangeFaults.l1 k y0 y1 y2 y3 y4 y5 y6 y7 y8 y9 y10) (laws_FnRangeFaults.l1 (k + 1) y0 y1 y2 y3 y4 y5 y6 y7 y8 y9 y10)) ∧ (∀ y0 y1 y2 y3 y4 y5 y6 y7 y8 y9 y10 y11, LeO (laws_FnRangeFaults.l2 k y0 y1 y2 y3 y4 y5 y6 y7 y8 y9 y10 y11) (laws_FnRangeFaults.l2 (k + 1) y0 y1 y2 y3 y4 y5 y6 y7 y8 y9 y10 y11))
 | 0 => ⟨fun _ _ _ _ _ _ _ _ _ r h => by simp [laws_FnRangeFaults.l0] at h, fun _ _ _ _ _ _ _ _ _ _ _ r h => by simp [laws_FnRangeFaults.l1] at h, fun _ _ _ _ _ _ _ _ _ _ _ _ r h => by simp [laws_FnRangeFaults.l2] at h⟩
 | k + 1 => by
  obtain ⟨ih0, ih1, ih2⟩ := laws_FnRangeFaults.mono_l k
  refine ⟨?_, ?_, ?_⟩ <;> (intros; (first | unfold laws_FnRangeFaults.l0 | unfold laws_FnRangeFaults.l1 | unfold laws_FnRangeFaults.l2); repeat' first | (with_reducible first | apply ih0 | apply ih1 | apply ih2 | apply impl_NumDo.mono | apply impl_RangeDo.mono | apply laws_sameInts.mono | apply spec_DrawRangeDo.mono | apply spec_RangeDo.mono | apply LeO.refl | apply LeO.none | refine LeO.ite ?_ ?_ | refine LeO.bind ?_ (fun _ => ?_)) | apply ih0 | apply ih1 | apply ih2 | apply impl_NumDo.mono | apply impl_RangeDo.mono | apply laws_sameInts.mono | apply spec_DrawRangeDo.mono | apply spec_RangeDo.mono | apply LeO.none | refine LeO.ite ?_ ?_ | refine LeO.bind ?_ (fun _ => ?_))
theorem laws_FnRangeFaults.mono : ∀ a0 k, LeO (laws_FnRangeFaults.f k a0) (laws_FnRangeFaults.f (k + 1) a0) := by
 intro a0 k
 obtain ⟨ih0, ih1, ih2⟩ := laws_FnRangeFaults.mono_l k
 unfold laws_FnRangeFaults.f
 repeat' first | (with_reducible first | apply ih0 | apply ih1 | apply ih2 | apply impl_NumDo.mono | apply impl_RangeDo.mono | apply laws_sameInts.mono | apply spec_DrawRangeDo.mono | apply spec_RangeDo.mono | apply LeO.refl | apply LeO.none | refine LeO.ite ?_ ?_ | refine LeO.bind ?_ (fun _ => ?_)) | apply ih0 | apply ih1 | apply ih2 | apply impl_NumDo.mono | apply impl_RangeDo.mono | apply laws_sameInts.mono | apply spec_DrawRangeDo.mono | apply spec_RangeDo.mono | apply LeO.none | refine LeO.ite ?_ ?_ | refine LeO.bind ?_ (fun _ => ?_)
def laws_FnRangeFaults.T20 : Bool × List (List Nat × List Nat) := (true, [([], []), ([], []), ([], []), ([1, 2], [1, 2]), ([3], [3]), ([0, 4], [0, 4]), ([5, 5], [5]), ([6], [6]), ([6], [6]), ([6], [6]), ([8, 9, 6], [6, 8, 9]), ([10, 6], [6, 10]), ([7, 11, 6, 6], [6, 7, 11]), ([6, 12], [6, 12])])
def laws_FnRangeFaults.B20 : List Nat := [0, 0, 0, 6, 14, 31, 63, 127, 127, 127, 895, 1919, 4095, 8191]
theorem laws_FnRangeFaults.tab20 : rtab .any (opsOf Try.f5 20) = laws_FnRangeFaults.T20 := by kernel_rfl
theorem laws_FnRangeFaults.bits20 : waitsOk laws_FnRangeFaults.T20.2 laws_FnRangeFaults.B20 = true := by kernel_rfl
def laws_FnRangeFaults.T21 : Bool × List (List Nat × List Nat) := (true, [([], []), ([], []), ([], []), ([1, 2], [1, 2]), ([3], [3]), ([], []), ([], []), ([5, 6], [5, 6]), ([7], [7]), ([0, 4, 8], [0, 4, 8]), ([9], [9]), ([10], [10]), ([10], [10]), ([11, 9, 0, 1, 2, 3, 4, 5, 6, 7, 8, 9, 10, 11], [11]), ([12, 13, 0, 1, 2, 3, 4, 5, 6, 7, 8, 9, 10, 11, 12, 13], [12])])
def laws_FnRangeFaults.B21 : List Nat := [0, 0, 0, 6, 14, 0, 0, 96, 224, 511, 1023, 2047, 2047, 4095, 16383]
theorem laws_FnRangeFaults.tab21 : rtab .any (opsOf Try.f5 21) = laws_FnRangeFaults.T21 := by kernel_rfl
theorem laws_FnRangeFaults.bits21 : waitsOk laws_FnRangeFaults.T21.2 laws_FnRangeFaults.B21 = true := by kernel_rfl
set_option maxHeartbeats 8000000 in
set_option maxRecDepth 100000 in
theorem laws_FnRangeFaults.calls (k : Nat) (A0 : Option Addr) (c0 : Nat) (l0 : List Int) (r : Bool) (w : World) (hr0 : Kd.C (Kd.int .u8) w A0 l0.length l0) (hc0 : l0.length ≤ c0) (h : laws_FnRangeFaults.f k l0 = some r) :
  Calls Try.prog 5 #[.slice A0 l0.length c0] w fun e w' => e = .returned (.bool r) ∧ Below w.heap.size w w' := by
 have hu24 := Try.underlying24
 have HR0 := am hr0
 have HC0 := am hc0
 clear hr0 hc0
 have HB := am (Below.refl w.heap.size w)
 have H : (if (l0.length : Int) > 1048576 then (some true) else ((spec_DrawRangeDo.f k l0).bind fun bt597 => ((impl_RangeDo.f k bt597.1 bt597.2.1 bt597.2.2.1 bt597.2.2.2.1 bt597.2.2.2.2).bind fun bt604 => ((spec_RangeDo.f k bt597.1 bt597.2.1 bt597.2.2.1 bt597.2.2.2.1 bt597.2.2.2.2).bind fun bt610 => ((laws_sameInts.f k bt604.2.2 bt610.2.2).bind fun t616 => (if t616 = true then (laws_FnRangeFaults.l0 k bt597.1 bt604.2.2 (([bt597.2.1, bt597.2.2.1] : List Int)) (([bt597.2.2.2.1, bt597.2.2.2.2, 0, (-1), 31] : List Int)) 0 bt597.2.1 bt597.2.2.1 bt597.2.2.2.1 bt597.2.2.2.2) else (none))))))) = some r := h
 clear h
 by_cases c2 : (l0.length : Int) > 1048576
 ·rw [if_pos c2] at H
  have c2b0 := dT c2
  have c2b1 : decide (1048576 < l0.length) = true := decide_eq_true (by omega)
  clear c2
  obtain rfl := Option.some.inj H
  go_enter Try.func5, Try.ntmps5
  go_wp2
  go_ret
  exact ⟨ez, YA HB⟩
 ·rw [if_neg c2] at H
  have c2b0 := dF c2
  have c2b1 : decide (1048576 < l0.length) = false := decide_eq_false (by omega)
  clear c2
  obtain ⟨⟨t597, t598, t599, t600, t601⟩, A3, H⟩ := bd H
  try dsimp only at H
  obtain ⟨⟨t604, t605, t606⟩, A4, H⟩ := bd H
  try dsimp only at H
  obtain ⟨⟨t610, t611, t612⟩, A5, H⟩ := bd H
  try dsimp only at H
  obtain ⟨t616, A6, H⟩ := bd H
  try dsimp only at H
  by_cases c7 : t616 = true
  rotate_left
  ·replace c7 := Bool.eq_false_iff.mpr c7
   subst c7
   rw [if_neg ff] at H
   exact absurd H (by simp)
  subst c7
  rw [if_pos rfl] at H
  obtain ⟨y617, hy617⟩ : ∃ y_ : List Int, y_ = (([t598, t599] : List Int)) := ⟨_, rfl⟩
  replace H : (laws_FnRangeFaults.l0 k t597 t606 y617 (([t600, t601, 0, (-1), 31] : List Int)) 0 t598 t599 t600 t601) = some r := by first | (rw [hy617]; with_reducible exact H) | (have H2_ := (Option.bind_some _ _).symm.trans H; rw [hy617]; with_reducible exact H2_) | (have H2_ := (Option.bind_some _ _).symm.trans H; with_reducible exact H2_) | with_reducible exact H | (rw [hy617]; exact H) | exact H
  have Ny617 := am hy617
  clear hy617
  obtain ⟨y620, hy620⟩ : ∃ y_ : List Int, y_ = (([t600, t601, 0, (-1), 31] : List Int)) := ⟨_, rfl⟩
  replace H : (laws_FnRangeFaults.l0 k t597 t606 y617 y620 0 t598 t599 t600 t601) = some r := by first | (rw [hy620]; with_reducible exact H) | (have H2_ := (Option.bind_some _ _).symm.trans H; rw [hy620]; with_reducible exact H2_) | (have H2_ := (Option.bind_some _ _).symm.trans H; with_reducible exact H2_) | with_reducible exact H | (rw [hy620]; exact H) | exact H
  have Ny620 := am hy620
  clear hy620
  have H' := am H
  clear H
  go_enter Try.func5, Try.ntmps5
  go_wp2_with (first | ((with_reducible refine gate_callee (f := 21) rfl ?_); refine goesL_ (some 23) rfl rfl Try.func21 (by kernel_rfl) rfl #[.slice A0 l0.length c0] rfl mz ?_; (with_reducible refine (spec_DrawRangeDo.calls k _ _ l0 t597 t598 t599 t600 t601 _ ?side1 ?side2 A3.out).mono ?_); (case side1 => repeat (first | exact HR0.out | (with_reducible refine Kd.C_alloc ?_ _) | (with_reducible refine Kd.C_drewN ?_ _) | (with_reducible refine Kd.C_drew ?_))); (case side2 => exact HC0.out); rintro e w8 ⟨rfl, hb⟩; refine ⟨_, rfl, ?_⟩; replace HB := am (below_step (YA HB) hb); (try clear hb)) | ((with_reducible refine gate_dst (N := 4) rfl ?_); refine bx 4 #[.int .i64 0, .int .i64 0] 24 ?_; intro gb602 hg w9 hbox hb; have BK602 := am (hbox); have GW602 := am (bs hg (YA HB)); have GE602 := GW602; replace HB := am (below_step (YA HB) hb); clear hb hbox hg) | ((with_reducible refine gate_dst (N := 5) rfl ?_); refine bx 5 #[.int .i64 0, .int .i64 0] 24 ?_; intro gb603 hg w10 hbox hb; have BK603 := am (hbox); have GW603 := am (bs hg (YA HB)); have GE603 := GW603; obtain ⟨NB602_603,NB603_602⟩ := ne_ hg BK602; obtain ⟨BK602, HB⟩ := bk1 BK602 HB hb; clear hb hbox hg; obtain ⟨hnb11,hnc11⟩ := nn NB602_603; obtain ⟨hcz12_0,hcz12_1,hfz12_0,hfz12_1⟩ := cB2 BK602; obtain ⟨hcz13_0,hcz13_1,hfz13_0,hfz13_1⟩ := cB2 BK603) | ((with_reducible refine gate_callee (f := 11) rfl ?_); refine goesL_ (some 31) rfl rfl Try.func11 (by kernel_rfl) rfl #[.int .i64 t597, .agg #[.int .i64 t598, .int .i64 t599], .agg #[.int .i64 t600, .int .i64 t601]] rfl mz ?_; (with_reducible refine (impl_RangeDo.calls _ _ _ _ _ _ _ _ _ _ A4.out).mono ?_); rintro e w14 ⟨v607, rfl, ho0, hb⟩; refine ⟨_, rfl, ?_⟩; have HO608 := am (Kd.R_lower ho0 (below_size (YA HB))); replace BK602 := am (blk_below (g := gb602) (o := b2 t598 t599 24) (by refine fa NB602_603 ?_; refine fa NB602_603 ?_; refine pf ?_; refine blk_put (cs := #[.int .i64 t598, .int .i64 0]) ?_ 1 _ rfl; refine pf ?_; refine blk_put (cs := #[.int .i64 0, .int .i64 0]) ?_ 0 _ rfl; exact Z BK602) hb); replace BK603 := am (blk_below (g := gb603) (o := b2 t600 t601 24) (by refine pf ?_; refine blk_put (cs := #[.int .i64 t600, .int .i64 0]) ?_ 1 _ rfl; refine pf ?_; refine blk_put (cs := #[.int .i64 0, .int .i64 0]) ?_ 0 _ rfl; refine fa NB603_602 ?_; refine fa NB603_602 ?_; exact Z BK603) hb); replace HB := am (below_step (YA HB) hb); (try clear hb); (try clear ho0)) | ((with_reducible refine gate_dst (N := 6) rfl ?_); refine bx 6 #[.int .i64 0, .int .i64 0] 24 ?_; intro gb609 hg w15 hbox hb; have BK609 := am (hbox); have GW609 := am (bs hg (YA HB)); have GE609 := GW609; obtain ⟨NB602_609,NB609_602⟩ := ne_ hg BK602; obtain ⟨NB603_609,NB609_603⟩ := ne_ hg BK603; replace HO608 := am (Kd.R_below (RZ HO608) hb); obtain ⟨BK602, BK603, HB⟩ := bk2 BK602 BK603 HB hb; clear hb hbox hg; obtain ⟨hnb16,hnc16⟩ := nn NB609_602; obtain ⟨hnb17,hnc17⟩ := nn NB609_603; obtain ⟨hcz18_0,hcz18_1,hfz18_0,hfz18_1⟩ := cB2 BK609; obtain ⟨hcz19_0,hcz19_1,hfz19_0,hfz19_1⟩ := cB2 BK602; obtain ⟨hcz20_0,hcz20_1,hfz20_0,hfz20_1⟩ := cB2 BK603) | ((with_reducible refine gate_callee (f := 9) rfl ?_); refine goesL_ (some 38) rfl rfl Try.func9 (by kernel_rfl) rfl #[.int .i64 t597, .agg #[.int .i64 t598, .int .i64 t599], .agg #[.int .i64 t600, .int .i64 t601]] rfl mz ?_; (with_reducible refine (spec_RangeDo.calls _ _ _ _ _ _ _ _ _ _ A5.out).mono ?_); rintro e w21 ⟨v613, rfl, ho0, hb⟩; refine ⟨_, rfl, ?_⟩; have HO614 := am (Kd.R_lower (Kd.R_new' ho0 (Kd.R_lt (by (with_reducible repeat (first | apply Kd.R_alloc | apply Kd.R_drewN | apply Kd.R_drew)); exact (Kd.R_mono (Kd.R_far (p := ⟨gb609, 1, none⟩) (Kd.R_far (p := ⟨gb609, 0, none⟩) (Kd.R_types HO608.out BK609.out (by decide)) (fun _ hk => hk.2) (.int .i64 t604)) (fun _ hk => hk.2) (.int .i64 t605)) (fun _ h_ => h_.1))))) (below_size (YA HB))); replace HO608 := am (Kd.R_elder' (by (with_reducible repeat (first | apply Kd.R_alloc | apply Kd.R_drewN | apply Kd.R_drew)); exact (Kd.R_mono (Kd.R_far (p := ⟨gb609, 1, none⟩) (Kd.R_far (p := ⟨gb609, 0, none⟩) (Kd.R_types HO608.out BK609.out (by decide)) (fun _ hk => hk.2) (.int .i64 t604)) (fun _ hk => hk.2) (.int .i64 t605)) (fun _ h_ => h_.1))) (Kd.R_base ho0) hb); replace BK602 := am (blk_below (g := gb602) (o := b2 t598 t599 24) (by refine fa NB602_609 ?_; refine fa NB602_609 ?_; exact Z BK602) hb); replace BK603 := am (blk_below (g := gb603) (o := b2 t600 t601 24) (by refine fa NB603_609 ?_; refine fa NB603_609 ?_; exact Z BK603) hb); replace BK609 := am (blk_below (g := gb609) (o := b2 t604 t605 24) (by refine pf ?_; refine blk_put (cs := #[.int .i64 t604, .int .i64 0]) ?_ 1 _ rfl; refine pf ?_; refine blk_put (cs := #[.int .i64 0, .int .i64 0]) ?_ 0 _ rfl; exact Z BK609) hb); replace HB := am (below_step (YA HB) hb); (try clear hb); (try clear ho0)) | ((with_reducible refine gate_dst (N := 8) rfl ?_); refine bx 8 #[.int .i64 0, .int .i64 0] 24 ?_; intro gb615 hg w22 hbox hb; have BK615 := am (hbox); have GW615 := am (bs hg (YA HB)); have GE615 := GW615; obtain ⟨NB602_615,NB615_602⟩ := ne_ hg BK602; obtain ⟨NB603_615,NB615_603⟩ := ne_ hg BK603; obtain ⟨NB609_615,NB615_609⟩ := ne_ hg BK609; replace HO608 := am (Kd.R_below (RZ HO608) hb); replace HO614 := am (Kd.R_below (RZ HO614) hb); obtain ⟨BK602, BK603, BK609, HB⟩ := bk3 BK602 BK603 BK609 HB hb; clear hb hbox hg; obtain ⟨hnb23,hnc23⟩ := nn NB615_602; obtain ⟨hnb24,hnc24⟩ := nn NB615_603; obtain ⟨hnb25,hnc25⟩ := nn NB615_609; obtain ⟨hcz26_0,hcz26_1,hfz26_0,hfz26_1⟩ := cB2 BK615; obtain ⟨Ao27, co27, eo27⟩ := Kd.R_slice HO608.out; subst eo27; obtain ⟨Ao28, co28, eo28⟩ := Kd.R_slice HO614.out; subst eo28) | ((with_reducible refine gate_callee (f := 20) rfl ?_); refine goesL_ (some 43) rfl rfl Try.func20 (by kernel_rfl) rfl #[.slice Ao27 t606.length co27, .slice Ao28 t612.length co28] rfl mz ?_; (with_reducible refine (laws_sameInts.calls k _ _ t606 _ _ t612 true _ ?side1 ?side2 ?side3 ?side4 A6.out).mono ?_); (case side1 => refine (Kd.R_reads' (e := 3) (base := w.heap.size) (ok := fun k_ => (True ∧ some k_ ≠ (.slice Ao28 t612.length co28 : Value).ownBlock)) (n := t606.length) (c := co27) ?_).2.2; exact (by (with_reducible repeat (first | apply Kd.R_alloc | apply Kd.R_drewN | apply Kd.R_drew)); exact (Kd.R_mono (Kd.R_far (p := ⟨gb615, 1, none⟩) (Kd.R_far (p := ⟨gb615, 0, none⟩) (Kd.R_types HO608.out BK615.out (by decide)) (fun _ hk => hk.2) (.int .i64 t610)) (fun _ hk => hk.2) (.int .i64 t611)) (fun _ h_ => h_.1)))); (case side2 => exact (Kd.R_reads' HO608.out).2.1); (case side3 => refine (Kd.R_reads' (e := 3) (base := w.heap.size) (ok := fun k_ => (True ∧ some k_ ≠ (.slice Ao27 t606.length co27 : Value).ownBlock)) (n := t612.length) (c := co28) ?_).2.2; exact (by (with_reducible repeat (first | apply Kd.R_alloc | apply Kd.R_drewN | apply Kd.R_drew)); exact (Kd.R_mono (Kd.R_far (p := ⟨gb615, 1, none⟩) (Kd.R_far (p := ⟨gb615, 0, none⟩) (Kd.R_types HO614.out BK615.out (by decide)) (fun _ hk => hk.2) (.int .i64 t610)) (fun _ hk => hk.2) (.int .i64 t611)) (fun _ h_ => h_.1)))); (case side4 => exact (Kd.R_reads' HO614.out).2.1); rintro e w' ⟨rfl, ⟨nd, rfl⟩⟩; refine ⟨_, rfl, ?_⟩; obtain ⟨hcz29_0,hcz29_1,hfz29_0,hfz29_1⟩ := cB2 BK602) | ((with_reducible refine gate_dst (N := 49) rfl ?_); refine Kd.R_lit (Kd.int .i64) _ 3 ?hg (N := 49) ?hd (xs := ([t598, t599] : List Int)) (inner := [.int .i64 t598, .int .i64 t599]) (ok := fun _ => True) (okp := fun _ => True) ?hr ?hp (fun _ hk => hk) trivial (Below.refl _ _) (Nat.le_refl _) (by simp) ?_; (case hd => rfl); (case hg => rfl); (case hr => first | (go_simp; done) | (go_simp; rfl)); (case hp => exact (Reps.one (show Kd.M (Kd.int .i64) _ _ _ t598 [.int .i64 t598] from rfl) (Reps.one (show Kd.M (Kd.int .i64) _ _ _ t599 [.int .i64 t599] from rfl) (Reps.none _ _)))); intro v618 w30 ho31 hb hg_ hnew_; clear hg_ hnew_; (first | rw [← Ny617.out] at ho31 | (simp only [Int.reduceToNat] at ho31; rw [← Ny617.out] at ho31)); have HO619 := am (Kd.R_lower (Kd.R_new' (Kd.R_new' ho31 (Kd.R_lt (by (with_reducible repeat (first | apply Kd.R_alloc | apply Kd.R_drewN | apply Kd.R_drew)); exact (Kd.R_mono (Kd.R_far (p := ⟨gb615, 1, none⟩) (Kd.R_far (p := ⟨gb615, 0, none⟩) (Kd.R_types HO608.out BK615.out (by decide)) (fun _ hk => hk.2) (.int .i64 t610)) (fun _ hk => hk.2) (.int .i64 t611)) (fun _ h_ => h_.1))))) (Kd.R_lt (by (with_reducible repeat (first | apply Kd.R_alloc | apply Kd.R_drewN | apply Kd.R_drew)); exact (Kd.R_mono (Kd.R_far (p := ⟨gb615, 1, none⟩) (Kd.R_far (p := ⟨gb615, 0, none⟩) (Kd.R_types HO614.out BK615.out (by decide)) (fun _ hk => hk.2) (.int .i64 t610)) (fun _ hk => hk.2) (.int .i64 t611)) (fun _ h_ => h_.1))))) (below_size (YA HB))); replace HO608 := am (Kd.R_elder' (by (with_reducible repeat (first | apply Kd.R_alloc | apply Kd.R_drewN | apply Kd.R_drew)); exact (Kd.R_mono (Kd.R_far (p := ⟨gb615, 1, none⟩) (Kd.R_far (p := ⟨gb615, 0, none⟩) (Kd.R_types HO608.out BK615.out (by decide)) (fun _ hk => hk.2) (.int .i64 t610)) (fun _ hk => hk.2) (.int .i64 t611)) (fun _ h_ => h_.1))) (Kd.R_base ho31) hb); replace HO614 := am (Kd.R_elder' (by (with_reducible repeat (first | apply Kd.R_alloc | apply Kd.R_drewN | apply Kd.R_drew)); exact (Kd.R_mono (Kd.R_far (p := ⟨gb615, 1, none⟩) (Kd.R_far (p := ⟨gb615, 0, none⟩) (Kd.R_types HO614.out BK615.out (by decide)) (fun _ hk => hk.2) (.int .i64 t610)) (fun _ hk => hk.2) (.int .i64 t611)) (fun _ h_ => h_.1))) (Kd.R_base ho31) hb); replace BK602 := am (blk_below (g := gb602) (o := b2 t598 t599 24) (by refine fa NB602_615 ?_; refine fa NB602_615 ?_; exact Z BK602) hb); replace BK603 := am (blk_below (g := gb603) (o := b2 t600 t601 24) (by refine fa NB603_615 ?_; refine fa NB603_615 ?_; exact Z BK603) hb); replace BK609 := am (blk_below (g := gb609) (o := b2 t604 t605 24) (by refine fa NB609_615 ?_; refine fa NB609_615 ?_; exact Z BK609) hb); replace BK615 := am (blk_below (g := gb615) (o := b2 t610 t611 24) (by refine pf ?_; refine blk_put (cs := #[.int .i64 t610, .int .i64 0]) ?_ 1 _ rfl; refine pf ?_; refine blk_put (cs := #[.int .i64 0, .int .i64 0]) ?_ 0 _ rfl; exact Z BK615) hb); replace HB := am (below_step (YA HB) hb); clear hb ho31; obtain ⟨hcz32_0,hcz32_1,hfz32_0,hfz32_1⟩ := cB2 BK603) | ((with_reducible refine gate_dst (N := 54) rfl ?_); refine Kd.R_lit (Kd.int .i64) _ 3 ?hg (N := 54) ?hd (xs := ([t600, t601, 0, (-1), 31] : List Int)) (inner := [.int .i64 t600, .int .i64 t601, .int .i64 0, .int .i64 (-1), .int .i64 31]) (ok := fun _ => True) (okp := fun _ => True) ?hr ?hp (fun _ hk => hk) trivial (Below.refl _ _) (Nat.le_refl _) (by simp) ?_; (case hd => rfl); (case hg => rfl); (case hr => first | (go_simp; done) | (go_simp; rfl)); (case hp => exact (Reps.one (show Kd.M (Kd.int .i64) _ _ _ t600 [.int .i64 t600] from rfl) (Reps.one (show Kd.M (Kd.int .i64) _ _ _ t601 [.int .i64 t601] from rfl) (Reps.one (show Kd.M (Kd.int .i64) _ _ _ 0 [.int .i64 0] from rfl) (Reps.one (show Kd.M (Kd.int .i64) _ _ _ (-1) [.int .i64 (-1)] from rfl) (Reps.one (show Kd.M (Kd.int .i64) _ _ _ 31 [.int .i64 31] from rfl) (Reps.none _ _))))))); intro v621 w33 ho34 hb hg_ hnew_; clear hg_ hnew_; (first | rw [← Ny620.out] at ho34 | (simp only [Int.reduceToNat] at ho34; rw [← Ny620.out] at ho34)); have HO622 := am (Kd.R_lower (Kd.R_new' (Kd.R_new' (Kd.R_new' ho34 (Kd.R_lt (RZ HO608))) (Kd.R_lt (RZ HO614))) (Kd.R_lt (RZ HO619))) (below_size (YA HB))); replace HO608 := am (Kd.R_elder' (RZ HO608) (Kd.R_base ho34) hb); replace HO614 := am (Kd.R_elder' (RZ HO614) (Kd.R_base ho34) hb); replace HO619 := am (Kd.R_elder' (RZ HO619) (Kd.R_base ho34) hb); obtain ⟨BK602, BK603, BK609, BK615, HB⟩ := bk4 BK602 BK603 BK609 BK615 HB hb; clear hb ho34))
  go_loopg [12] k (fun kq v12 w' => ∃ (x12_1 : Int), v12 = .int .i64 x12_1 ∧ Aside0 (laws_FnRangeFaults.l0 kq t597 t606 y617 y620 x12_1 t598 t599 t600 t601 = some r) ∧ Aside0 (kq ≤ k) ∧ Aside0 (Kd.R (Kd.int .i64) 3 w' w.heap.size (fun k_ => some k_ ≠ (v618 : Value).ownBlock ∧ some k_ ≠ (v621 : Value).ownBlock) (.slice Ao27 t606.length co27) t606) ∧ Aside0 (Kd.R (Kd.int .i64) 3 w' w.heap.size (fun k_ => some k_ ≠ ((.slice Ao27 t606.length co27) : Value).ownBlock ∧ some k_ ≠ (v621 : Value).ownBlock) v618 y617) ∧ Aside0 (Kd.R (Kd.int .i64) 3 w' w.heap.size (fun k_ => some k_ ≠ ((.slice Ao27 t606.length co27) : Value).ownBlock ∧ some k_ ≠ (v618 : Value).ownBlock) v621 y620) ∧ Aside0 (w'.heap[gb602]? = some (.cells #[.int .i64 t598, .int .i64 t599] 24 (0, 0))) ∧ Aside0 (w'.heap[gb603]? = some (.cells #[.int .i64 t600, .int .i64 t601] 24 (0, 0))) ∧ Aside0 (w'.heap[gb609]? = some (.cells #[.int .i64 t604, .int .i64 t605] 24 (0, 0))) ∧ Aside0 (w'.heap[gb615]? = some (.cells #[.int .i64 t610, .int .i64 t611] 24 (0, 0))) ∧ Aside0 (Below w.heap.size w w'))
  case atStart => exact ⟨(0), ey, H', ⟨Nat.le_refl _⟩, ⟨by (with_reducible repeat (first | apply Kd.R_alloc | apply Kd.R_drewN | apply Kd.R_drew)); exact Kd.R_mono HO608.out (fun _ hk => ⟨hk.1.2, hk.2⟩)⟩, ⟨by (with_reducible repeat (first | apply Kd.R_alloc | apply Kd.R_drewN | apply Kd.R_drew)); exact Kd.R_mono HO619.out (fun _ hk => ⟨hk.1.1.2, hk.2⟩)⟩, ⟨by (with_reducible repeat (first | apply Kd.R_alloc | apply Kd.R_drewN | apply Kd.R_drew)); exact Kd.R_mono HO622.out (fun _ hk => ⟨hk.1.1.2, hk.2⟩)⟩, ⟨Z BK602⟩, ⟨Z BK603⟩, ⟨Z BK609⟩, ⟨Z BK615⟩, ⟨YA HB⟩⟩
  case round =>
   clear H'
   (try clear c2b0);(try clear c2b1);(try clear c7);(try clear hcz12_0);(try clear hcz12_1);(try clear hcz13_0);(try clear hcz13_1);(try clear hcz18_0);(try clear hcz18_1);(try clear hcz19_0);(try clear hcz19_1);(try clear hcz20_0);(try clear hcz20_1);(try clear hcz26_0);(try clear hcz26_1);(try clear hcz29_0);(try clear hcz29_1);(try clear hcz32_0);(try clear hcz32_1);(try clear hfz12_0);(try clear hfz12_1);(try clear hfz13_0);(try clear hfz13_1);(try clear hfz18_0);(try clear hfz18_1);(try clear hfz19_0);(try clear hfz19_1);(try clear hfz20_0);(try clear hfz20_1);(try clear hfz26_0);(try clear hfz26_1);(try clear hfz29_0);(try clear hfz29_1);(try clear hfz32_0);(try clear hfz32_1)
   obtain ⟨x12_1, rfl, HA, HK1, HO_7, HO_10, HO_11, BK602, BK603, BK609, BK615, HB⟩ := hrel
   cases gk with
   | zero => exact absurd HA.out (by simp [laws_FnRangeFaults.l0])
   | succ k1 =>
    have H := HA.out
    clear HA
    simp only [laws_FnRangeFaults.l0] at H
    by_cases c35 : x12_1 < (t606.length : Int)
    rotate_left
    ·rw [if_neg c35] at H
     have c35b0 := dF c35
     clear c35
     obtain rfl := Option.some.inj H
     go_wp2
     go_ret
     exact ⟨ez, YA HB⟩
    rw [if_pos c35] at H
    have c35b0 := dT c35
    clear c35
    have H' := am H
    clear H
    go_wp2
    go_loopg [13, 14] k1 (fun kq v13 v14 w' => ∃ (x13_2 : Bool) (x14_2 : Int), v13 = .bool x13_2 ∧ v14 = .int .i64 x14_2 ∧ Aside0 (laws_FnRangeFaults.l1 kq t597 t606 y617 y620 x12_1 x13_2 x14_2 t598 t599 t600 t601 = some r) ∧ Aside0 (kq ≤ k1) ∧ Aside0 (Kd.R (Kd.int .i64) 3 w' w.heap.size (fun k_ => some k_ ≠ (v618 : Value).ownBlock ∧ some k_ ≠ (v621 : Value).ownBlock) (.slice Ao27 t606.length co27) t606) ∧ Aside0 (Kd.R (Kd.int .i64) 3 w' w.heap.size (fun k_ => some k_ ≠ ((.slice Ao27 t606.length co27) : Value).ownBlock ∧ some k_ ≠ (v621 : Value).ownBlock) v618 y617) ∧ Aside0 (Kd.R (Kd.int .i64) 3 w' w.heap.size (fun k_ => some k_ ≠ ((.slice Ao27 t606.length co27) : Value).ownBlock ∧ some k_ ≠ (v618 : Value).ownBlock) v621 y620) ∧ Aside0 (w'.heap[gb602]? = some (.cells #[.int .i64 t598, .int .i64 t599] 24 (0, 0))) ∧ Aside0 (w'.heap[gb603]? = some (.cells #[.int .i64 t600, .int .i64 t601] 24 (0, 0))) ∧ Aside0 (w'.heap[gb609]? = some (.cells #[.int .i64 t604, .int .i64 t605] 24 (0, 0))) ∧ Aside0 (w'.heap[gb615]? = some (.cells #[.int .i64 t610, .int .i64 t611] 24 (0, 0))) ∧ Aside0 (Below w.heap.size w w'))
    case atStart => exact ⟨(false), (0), ey, ey, H', ⟨Nat.le_refl _⟩, ⟨by exact RZ HO_7⟩, ⟨by exact RZ HO_10⟩, ⟨by exact RZ HO_11⟩, ⟨Z BK602⟩, ⟨Z BK603⟩, ⟨Z BK609⟩, ⟨Z BK615⟩, ⟨YA HB⟩⟩
    case round =>
     clear H'
     try clear c35b0
     obtain ⟨x13_2, x14_2, rfl, rfl, HA, HK2, HO_7, HO_10, HO_11, BK602, BK603, BK609, BK615, HB⟩ := hrel
     cases gk with
     | zero => exact absurd HA.out (by simp [laws_FnRangeFaults.l1])
     | succ k2 =>
      have H := HA.out
      clear HA
      simp only [laws_FnRangeFaults.l1] at H
      by_cases c36 : x14_2 < (y617.length : Int)
      rotate_left
      ·rw [if_neg c36] at H
       have c36b0 := dF c36
       clear c36
       by_cases c68 : x13_2 = true
       rotate_left
       ·replace c68 := Bool.eq_false_iff.mpr c68
        subst c68
        rw [if_neg ff] at H
        exact absurd H (by simp)
       subst c68
       rw [if_pos rfl] at H
       have H' := am H
       clear H
       obtain ⟨Ao69, co69, eo69⟩ := Kd.R_slice HO_10.out
       subst eo69
       go_wp2
       go_roundg k2
       case measure => have := HK1.out; have := HK2.out; omega
       case rel => exact ⟨(wrap64 (x12_1 + 1)), ey, H', ⟨by have := HK1.out; have := HK2.out; omega⟩, ⟨by exact RZ HO_7⟩, ⟨by exact RZ HO_10⟩, ⟨by exact RZ HO_11⟩, ⟨Z BK602⟩, ⟨Z BK603⟩, ⟨Z BK609⟩, ⟨Z BK615⟩, ⟨YA HB⟩⟩
      rw [if_pos c36] at H
      have c36b0 := dT c36
      clear c36
      have H' := am H
      clear H
      obtain ⟨Ao37, co37, eo37⟩ := Kd.R_slice HO_10.out
      subst eo37
      go_wp2
      go_loopg [13, 15] k2 (fun kq v13 v15 w' => ∃ (x13_3 : Bool) (x15_3 : Int), v13 = .bool x13_3 ∧ v15 = .int .i64 x15_3 ∧ Aside0 (laws_FnRangeFaults.l2 kq t597 t606 y617 y620 x12_1 x13_3 x14_2 x15_3 t598 t599 t600 t601 = some r) ∧ Aside0 (kq ≤ k2) ∧ Aside0 (Kd.R (Kd.int .i64) 3 w' w.heap.size (fun k_ => some k_ ≠ ((.slice Ao37 y617.length co37) : Value).ownBlock ∧ some k_ ≠ (v621 : Value).ownBlock) (.slice Ao27 t606.length co27) t606) ∧ Aside0 (Kd.R (Kd.int .i64) 3 w' w.heap.size (fun k_ => some k_ ≠ ((.slice Ao27 t606.length co27) : Value).ownBlock ∧ some k_ ≠ (v621 : Value).ownBlock) (.slice Ao37 y617.length co37) y617) ∧ Aside0 (Kd.R (Kd.int .i64) 3 w' w.heap.size (fun k_ => some k_ ≠ ((.slice Ao27 t606.length co27) : Value).ownBlock ∧ some k_ ≠ ((.slice Ao37 y617.length co37) : Value).ownBlock) v621 y620) ∧ Aside0 (w'.heap[gb602]? = some (.cells #[.int .i64 t598, .int .i64 t599] 24 (0, 0))) ∧ Aside0 (w'.heap[gb603]? = some (.cells #[.int .i64 t600, .int .i64 t601] 24 (0, 0))) ∧ Aside0 (w'.heap[gb609]? = some (.cells #[.int .i64 t604, .int .i64 t605] 24 (0, 0))) ∧ Aside0 (w'.heap[gb615]? = some (.cells #[.int .i64 t610, .int .i64 t611] 24 (0, 0))) ∧ Aside0 (Below w.heap.size w w'))
      case atStart => exact ⟨(x13_2), (0), ey, ey, H', ⟨Nat.le_refl _⟩, ⟨by exact RZ HO_7⟩, ⟨by exact RZ HO_10⟩, ⟨by exact RZ HO_11⟩, ⟨Z BK602⟩, ⟨Z BK603⟩, ⟨Z BK609⟩, ⟨Z BK615⟩, ⟨YA HB⟩⟩
      case round =>
       clear H'
       try clear c36b0
       obtain ⟨x13_3, x15_3, rfl, rfl, HA, HK3, HO_7, HO_10, HO_11, BK602, BK603, BK609, BK615, HB⟩ := hrel
       cases gk with
       | zero => exact absurd HA.out (by simp [laws_FnRangeFaults.l2])
       | succ k3 =>
        have H := HA.out
        clear HA
        simp only [laws_FnRangeFaults.l2] at H
        by_cases c38 : x15_3 < (y620.length : Int)
        rotate_left
        ·rw [if_neg c38] at H
         have c38b0 := dF c38
         clear c38
         have H' := am H
         clear H
         obtain ⟨Ao67, co67, eo67⟩ := Kd.R_slice HO_11.out
         subst eo67
         go_wp2
         go_roundg k3
         case measure => have := HK1.out; have := HK2.out; have := HK3.out; omega
         case rel => exact ⟨(x13_3), (wrap64 (x14_2 + 1)), ey, ey, H', ⟨by have := HK1.out; have := HK2.out; have := HK3.out; omega⟩, ⟨by exact RZ HO_7⟩, ⟨by exact RZ HO_10⟩, ⟨by exact RZ HO_11⟩, ⟨Z BK602⟩, ⟨Z BK603⟩, ⟨Z BK609⟩, ⟨Z BK615⟩, ⟨YA HB⟩⟩
        rw [if_pos c38] at H
        have c38b0 := dT c38
        clear c38
        by_cases c39 : 0 ≤ x14_2
        rotate_left
        ·rw [if_neg c39] at H
         exact absurd H (by simp)
        rw [if_pos c39] at H
        have c39b0 := dT c39
        clear c39
        by_cases c40 : x14_2 < (y617.length : Int)
        rotate_left
        ·rw [if_neg c40] at H
         exact absurd H (by simp)
        rw [if_pos c40] at H
        have c40b0 := dT c40
        clear c40
        obtain ⟨t624, A41, H⟩ := bd H
        try dsimp only at H
        by_cases c42 : t624 = true
        rotate_left
        ·replace c42 := Bool.eq_false_iff.mpr c42
         subst c42
         rw [if_neg ff] at H
         have H' := am H
         clear H
         obtain ⟨Ao64, co64, eo64⟩ := Kd.R_slice HO_11.out
         subst eo64
         try go_wp2
         replace HO_7 := am (Kd.R_drew HO_7.out)
         replace HO_10 := am (Kd.R_drew HO_10.out)
         replace HO_11 := am (Kd.R_drew HO_11.out)
         obtain ⟨BK602, BK603, BK609, BK615, HB⟩ := dk4 BK602 BK603 BK609 BK615 HB
         have p623 : 0 ≤ (x14_2 : Int) := oz
         have q623 : x14_2 < (y617.length : Int) := oz
         obtain ⟨ad623, e623, hx623_0⟩ := Kd.at_int (Kd.R_reads' HO_10.out).2.2 x14_2 p623 q623
         cases e623
         replace p623 := eq_true p623
         replace q623 := eq_true q623
         refine start_ (n := 14) (S := fun w' => w'.cell? ⟨gb602, 0, none⟩ = some (.int .i64 t598) ∧ w'.cell? ⟨gb602, 1, none⟩ = some (.int .i64 t599) ∧ w'.cell? (ad623.add (x14_2).toNat) = some (.int .i64 (rd y617 x14_2))) (ds := []) (lb 14 0) (by kernel_rfl) rfl rfl ⟨bc BK602 0, bc BK602 1, hx623_0⟩ (fun hHeld => ?_); refine with_tabW laws_FnRangeFaults.tab20 laws_FnRangeFaults.bits20 (fun HT_ HW_ => ?_)
         generalize wr.drew = w65 at HO_7 HO_10 HO_11 BK602 BK603 BK609 BK615 HB hx623_0 hHeld ⊢
         refine pk 1 74 2 ?_
         refine pk 2 75 6 ?_
         refine pk 3 76 14 ?_
         refine tk 0 73 15 hHeld ?_
         refine tk 4 77 31 hHeld ?_
         refine on 5 (some 78) 63 fun K hK => ?_
         refine goes_ Try.func22 (by kernel_rfl) rfl #[.agg #[.int .i64 t598, .int .i64 t599], .int .i64 (rd y617 x14_2)] (by rfl) rfl rfl mz ?_
         with_reducible refine (spec_RangeHas.calls _ _ _ _ _ A41.out).mono ?_
         rintro e w66 ⟨rfl, hb⟩
         have HS2_ := (hb.cell (World.block_lt_of_cell? _ _ (hHeld.2.2))).trans (hHeld.2.2)
         refine ⟨_, rfl, ?_⟩
         replace HO_7 := am (Kd.R_below (RZ HO_7) hb)
         replace HO_10 := am (Kd.R_below (RZ HO_10) hb)
         replace HO_11 := am (Kd.R_below (RZ HO_11) hb)
         obtain ⟨BK602, BK603, BK609, BK615, HB⟩ := bk4 BK602 BK603 BK609 BK615 HB hb
         clear hb
         refine kk hK ⟨bc BK602 0, bc BK602 1, HS2_⟩ fun hHeld => ?_
         clear hK K
         refine pk 6 79 127 ?_
         refine uk 7 80 255 ?_
         refine uk 8 81 511 ?_
         refine uk 9 82 1023 ?_
         refine uk 10 83 2047 ?_
         refine uk 11 84 4095 ?_
         refine uk 12 85 8191 ?_
         refine pk 13 86 16383 ?_
         refine done_ (done_of HT_.out (by kernel_rfl)) ?_
         try go_wp2
         go_roundg k3
         case measure => have := HK1.out; have := HK2.out; have := HK3.out; omega
         case rel => exact ⟨(x13_3), (wrap64 (x15_3 + 1)), ey, ey, H', ⟨by have := HK1.out; have := HK2.out; have := HK3.out; omega⟩, ⟨by exact RZ HO_7⟩, ⟨by exact RZ HO_10⟩, ⟨by exact RZ HO_11⟩, ⟨Z BK602⟩, ⟨Z BK603⟩, ⟨Z BK609⟩, ⟨Z BK615⟩, ⟨YA HB⟩⟩
        subst c42
        rw [if_pos rfl] at H
        by_cases c43 : 0 ≤ x15_3
        rotate_left
        ·rw [if_neg c43] at H
         exact absurd H (by simp)
        rw [if_pos c43] at H
        have c43b0 := dT c43
        clear c43
        obtain ⟨t626, A44, H⟩ := bd H
        try dsimp only at H
        by_cases c45 : t626 = true
        rotate_left
        ·replace c45 := Bool.eq_false_iff.mpr c45
         subst c45
         rw [if_neg ff] at H
         have H' := am H
         clear H
         obtain ⟨Ao60, co60, eo60⟩ := Kd.R_slice HO_11.out
         subst eo60
         try go_wp2
         replace HO_7 := am (Kd.R_drew HO_7.out)
         replace HO_10 := am (Kd.R_drew HO_10.out)
         replace HO_11 := am (Kd.R_drew HO_11.out)
         obtain ⟨BK602, BK603, BK609, BK615, HB⟩ := dk4 BK602 BK603 BK609 BK615 HB
         have p623 : 0 ≤ (x14_2 : Int) := oz
         have q623 : x14_2 < (y617.length : Int) := oz
         obtain ⟨ad623, e623, hx623_0⟩ := Kd.at_int (Kd.R_reads' HO_10.out).2.2 x14_2 p623 q623
         cases e623
         replace p623 := eq_true p623
         replace q623 := eq_true q623
         have p625 : 0 ≤ (x15_3 : Int) := oz
         have q625 : x15_3 < (y620.length : Int) := oz
         obtain ⟨ad625, e625, hx625_0⟩ := Kd.at_int (Kd.R_reads' HO_11.out).2.2 x15_3 p625 q625
         cases e625
         replace p625 := eq_true p625
         replace q625 := eq_true q625
         refine start_ (n := 14) (S := fun w' => w'.cell? ⟨gb602, 0, none⟩ = some (.int .i64 t598) ∧ w'.cell? ⟨gb602, 1, none⟩ = some (.int .i64 t599) ∧ w'.cell? ⟨gb603, 0, none⟩ = some (.int .i64 t600) ∧ w'.cell? ⟨gb603, 1, none⟩ = some (.int .i64 t601) ∧ w'.cell? (ad623.add (x14_2).toNat) = some (.int .i64 (rd y617 x14_2)) ∧ w'.cell? (ad625.add (x15_3).toNat) = some (.int .i64 (rd y620 x15_3))) (ds := []) (lb 14 0) (by kernel_rfl) rfl rfl ⟨bc BK602 0, bc BK602 1, bc BK603 0, bc BK603 1, hx623_0, hx625_0⟩ (fun hHeld => ?_); refine with_tabW laws_FnRangeFaults.tab20 laws_FnRangeFaults.bits20 (fun HT_ HW_ => ?_)
         generalize wr.drew = w61 at HO_7 HO_10 HO_11 BK602 BK603 BK609 BK615 HB hx623_0 hx625_0 hHeld ⊢
         refine pk 1 74 2 ?_
         refine pk 2 75 6 ?_
         refine pk 3 76 14 ?_
         refine tk 0 73 15 hHeld ?_
         refine tk 4 77 31 hHeld ?_
         refine on 5 (some 78) 63 fun K hK => ?_
         refine goes_ Try.func22 (by kernel_rfl) rfl #[.agg #[.int .i64 t598, .int .i64 t599], .int .i64 (rd y617 x14_2)] (by rfl) rfl rfl mz ?_
         with_reducible refine (spec_RangeHas.calls _ _ _ _ _ A41.out).mono ?_
         rintro e w62 ⟨rfl, hb⟩
         have HS4_ := (hb.cell (World.block_lt_of_cell? _ _ (hHeld.2.2.2.2.1))).trans (hHeld.2.2.2.2.1)
         have HS5_ := (hb.cell (World.block_lt_of_cell? _ _ (hHeld.2.2.2.2.2))).trans (hHeld.2.2.2.2.2)
         refine ⟨_, rfl, ?_⟩
         replace HO_7 := am (Kd.R_below (RZ HO_7) hb)
         replace HO_10 := am (Kd.R_below (RZ HO_10) hb)
         replace HO_11 := am (Kd.R_below (RZ HO_11) hb)
         obtain ⟨BK602, BK603, BK609, BK615, HB⟩ := bk4 BK602 BK603 BK609 BK615 HB hb
         clear hb
         refine kk hK ⟨bc BK602 0, bc BK602 1, bc BK603 0, bc BK603 1, HS4_, HS5_⟩ fun hHeld => ?_
         clear hK K
         refine pk 6 79 127 ?_
         refine pk 8 81 383 ?_
         refine pk 9 82 895 ?_
         refine pk 10 83 1919 ?_
         refine tk 7 80 2047 hHeld ?_
         refine tk 11 84 4095 hHeld ?_
         refine on 12 (some 85) 8191 fun K hK => ?_
         refine goes_ Try.func22 (by kernel_rfl) rfl #[.agg #[.int .i64 t600, .int .i64 t601], .int .i64 (rd y620 x15_3)] (by rfl) rfl rfl mz ?_
         with_reducible refine (spec_RangeHas.calls _ _ _ _ _ A44.out).mono ?_
         rintro e w63 ⟨rfl, hb⟩
         have HS4_ := (hb.cell (World.block_lt_of_cell? _ _ (hHeld.2.2.2.2.1))).trans (hHeld.2.2.2.2.1)
         have HS5_ := (hb.cell (World.block_lt_of_cell? _ _ (hHeld.2.2.2.2.2))).trans (hHeld.2.2.2.2.2)
         refine ⟨_, rfl, ?_⟩
         replace HO_7 := am (Kd.R_below (RZ HO_7) hb)
         replace HO_10 := am (Kd.R_below (RZ HO_10) hb)
         replace HO_11 := am (Kd.R_below (RZ HO_11) hb)
         obtain ⟨BK602, BK603, BK609, BK615, HB⟩ := bk4 BK602 BK603 BK609 BK615 HB hb
         clear hb
         refine kk hK ⟨bc BK602 0, bc BK602 1, bc BK603 0, bc BK603 1, HS4_, HS5_⟩ fun hHeld => ?_
         clear hK K
         refine pk 13 86 16383 ?_
         refine done_ (done_of HT_.out (by kernel_rfl)) ?_
         try go_wp2
         go_roundg k3
         case measure => have := HK1.out; have := HK2.out; have := HK3.out; omega
         case rel => exact ⟨(x13_3), (wrap64 (x15_3 + 1)), ey, ey, H', ⟨by have := HK1.out; have := HK2.out; have := HK3.out; omega⟩, ⟨by exact RZ HO_7⟩, ⟨by exact RZ HO_10⟩, ⟨by exact RZ HO_11⟩, ⟨Z BK602⟩, ⟨Z BK603⟩, ⟨Z BK609⟩, ⟨Z BK615⟩, ⟨YA HB⟩⟩
        subst c45
        rw [if_pos rfl] at H
        obtain ⟨⟨t629, t630⟩, A46, H⟩ := bd H
        try dsimp only at H
        by_cases c47 : x13_3 = true
        ·subst c47
         rw [if_pos rfl] at H
         have H' := am H
         clear H
         obtain ⟨Ao48, co48, eo48⟩ := Kd.R_slice HO_11.out
         subst eo48
         try go_wp2
         replace HO_7 := am (Kd.R_drew HO_7.out)
         replace HO_10 := am (Kd.R_drew HO_10.out)
         replace HO_11 := am (Kd.R_drew HO_11.out)
         obtain ⟨BK602, BK603, BK609, BK615, HB⟩ := dk4 BK602 BK603 BK609 BK615 HB
         have p623 : 0 ≤ (x14_2 : Int) := oz
         have q623 : x14_2 < (y617.length : Int) := oz
         obtain ⟨ad623, e623, hx623_0⟩ := Kd.at_int (Kd.R_reads' HO_10.out).2.2 x14_2 p623 q623
         cases e623
         replace p623 := eq_true p623
         replace q623 := eq_true q623
         have p625 : 0 ≤ (x15_3 : Int) := oz
         have q625 : x15_3 < (y620.length : Int) := oz
         obtain ⟨ad625, e625, hx625_0⟩ := Kd.at_int (Kd.R_reads' HO_11.out).2.2 x15_3 p625 q625
         cases e625
         replace p625 := eq_true p625
         replace q625 := eq_true q625
         refine start_ (n := 14) (S := fun w' => w'.cell? ⟨gb602, 0, none⟩ = some (.int .i64 t598) ∧ w'.cell? ⟨gb602, 1, none⟩ = some (.int .i64 t599) ∧ w'.cell? ⟨gb603, 0, none⟩ = some (.int .i64 t600) ∧ w'.cell? ⟨gb603, 1, none⟩ = some (.int .i64 t601) ∧ w'.cell? (ad623.add (x14_2).toNat) = some (.int .i64 (rd y617 x14_2)) ∧ w'.cell? (ad625.add (x15_3).toNat) = some (.int .i64 (rd y620 x15_3))) (ds := []) (lb 14 0) (by kernel_rfl) rfl rfl ⟨bc BK602 0, bc BK602 1, bc BK603 0, bc BK603 1, hx623_0, hx625_0⟩ (fun hHeld => ?_); refine with_tabW laws_FnRangeFaults.tab20 laws_FnRangeFaults.bits20 (fun HT_ HW_ => ?_)
         generalize wr.drew = w49 at HO_7 HO_10 HO_11 BK602 BK603 BK609 BK615 HB hx623_0 hx625_0 hHeld ⊢
         refine pk 1 74 2 ?_
         refine pk 2 75 6 ?_
         refine pk 3 76 14 ?_
         refine tk 0 73 15 hHeld ?_
         refine tk 4 77 31 hHeld ?_
         refine on 5 (some 78) 63 fun K hK => ?_
         refine goes_ Try.func22 (by kernel_rfl) rfl #[.agg #[.int .i64 t598, .int .i64 t599], .int .i64 (rd y617 x14_2)] (by rfl) rfl rfl mz ?_
         with_reducible refine (spec_RangeHas.calls _ _ _ _ _ A41.out).mono ?_
         rintro e w50 ⟨rfl, hb⟩
         have HS4_ := (hb.cell (World.block_lt_of_cell? _ _ (hHeld.2.2.2.2.1))).trans (hHeld.2.2.2.2.1)
         have HS5_ := (hb.cell (World.block_lt_of_cell? _ _ (hHeld.2.2.2.2.2))).trans (hHeld.2.2.2.2.2)
         refine ⟨_, rfl, ?_⟩
         replace HO_7 := am (Kd.R_below (RZ HO_7) hb)
         replace HO_10 := am (Kd.R_below (RZ HO_10) hb)
         replace HO_11 := am (Kd.R_below (RZ HO_11) hb)
         obtain ⟨BK602, BK603, BK609, BK615, HB⟩ := bk4 BK602 BK603 BK609 BK615 HB hb
         clear hb
         refine kk hK ⟨bc BK602 0, bc BK602 1, bc BK603 0, bc BK603 1, HS4_, HS5_⟩ fun hHeld => ?_
         clear hK K
         refine pk 6 79 127 ?_
         refine pk 8 81 383 ?_
         refine pk 9 82 895 ?_
         refine pk 10 83 1919 ?_
         refine tk 7 80 2047 hHeld ?_
         refine tk 11 84 4095 hHeld ?_
         refine on 12 (some 85) 8191 fun K hK => ?_
         refine goes_ Try.func22 (by kernel_rfl) rfl #[.agg #[.int .i64 t600, .int .i64 t601], .int .i64 (rd y620 x15_3)] (by rfl) rfl rfl mz ?_
         with_reducible refine (spec_RangeHas.calls _ _ _ _ _ A44.out).mono ?_
         rintro e w51 ⟨rfl, hb⟩
         have HS4_ := (hb.cell (World.block_lt_of_cell? _ _ (hHeld.2.2.2.2.1))).trans (hHeld.2.2.2.2.1)
         have HS5_ := (hb.cell (World.block_lt_of_cell? _ _ (hHeld.2.2.2.2.2))).trans (hHeld.2.2.2.2.2)
         refine ⟨_, rfl, ?_⟩
         replace HO_7 := am (Kd.R_below (RZ HO_7) hb)
         replace HO_10 := am (Kd.R_below (RZ HO_10) hb)
         replace HO_11 := am (Kd.R_below (RZ HO_11) hb)
         obtain ⟨BK602, BK603, BK609, BK615, HB⟩ := bk4 BK602 BK603 BK609 BK615 HB hb
         clear hb
         refine kk hK ⟨bc BK602 0, bc BK602 1, bc BK603 0, bc BK603 1, HS4_, HS5_⟩ fun hHeld => ?_
         clear hK K
         refine pk 13 86 16383 ?_
         refine done_ (done_of HT_.out (by kernel_rfl)) ?_
         try go_wp2
         replace HO_7 := am (Kd.R_drew HO_7.out)
         replace HO_10 := am (Kd.R_drew HO_10.out)
         replace HO_11 := am (Kd.R_drew HO_11.out)
         obtain ⟨BK602, BK603, BK609, BK615, HB⟩ := dk4 BK602 BK603 BK609 BK615 HB
         have p627 : 0 ≤ (x14_2 : Int) := oz
         have q627 : x14_2 < (y617.length : Int) := oz
         obtain ⟨ad627, e627, hx627_0⟩ := Kd.at_int (Kd.R_reads' HO_10.out).2.2 x14_2 p627 q627
         obtain rfl : ad623 = ad627 := (by injection e627)
         replace p627 := eq_true p627
         replace q627 := eq_true q627
         have p628 : 0 ≤ (x15_3 : Int) := oz
         have q628 : x15_3 < (y620.length : Int) := oz
         obtain ⟨ad628, e628, hx628_0⟩ := Kd.at_int (Kd.R_reads' HO_11.out).2.2 x15_3 p628 q628
         obtain rfl : ad625 = ad628 := (by injection e628)
         replace p628 := eq_true p628
         replace q628 := eq_true q628
         refine start_ (n := 15) (S := fun w' => w'.cell? (ad623.add (x14_2).toNat) = some (.int .i64 (rd y617 x14_2)) ∧ w'.cell? (ad625.add (x15_3).toNat) = some (.int .i64 (rd y620 x15_3))) (ds := []) (lb 15 0) (by kernel_rfl) rfl rfl ⟨hx627_0, hx628_0⟩ (fun hHeld => ?_); refine with_tabW laws_FnRangeFaults.tab21 laws_FnRangeFaults.bits21 (fun HT_ HW_ => ?_)
         generalize w51.drew = w52 at HO_7 HO_10 HO_11 BK602 BK603 BK609 BK615 HB hx627_0 hx628_0 hHeld ⊢
         refine pk 0 88 1 ?_
         refine pk 1 89 3 ?_
         refine pk 2 90 7 ?_
         refine pk 3 91 15 ?_
         refine pk 5 93 47 ?_
         refine pk 6 94 111 ?_
         refine pk 7 95 239 ?_
         refine tk 4 92 255 hHeld ?_
         refine tk 8 96 511 hHeld ?_
         refine on 9 (some 97) 1023 fun K hK => ?_
         refine goes_ Try.func17 (by kernel_rfl) rfl #[.int .i64 t597, .int .i64 (rd y617 x14_2), .int .i64 (rd y620 x15_3)] (by rfl) rfl rfl mz ?_
         with_reducible refine (impl_NumDo.calls _ _ _ _ _ _ _ A46.out).mono ?_
         rintro e w' ⟨rfl, ⟨nd, rfl⟩⟩
         refine ⟨_, rfl, ?_⟩
         refine kk hK ⟨hHeld.1, hHeld.2⟩ fun hHeld => ?_
         clear hK K
         refine pk 10 87 2047 ?_
         refine pk 11 98 4095 ?_
         refine pk 12 99 8191 ?_
         refine pk 13 16 16383 ?_
         refine pk 14 17 32767 ?_
         refine done_ (done_of HT_.out (by kernel_rfl)) ?_
         try go_wp2
         go_roundg k3
         case measure => have := HK1.out; have := HK2.out; have := HK3.out; omega
         case rel => exact ⟨(true), (wrap64 (x15_3 + 1)), ey, ey, H', ⟨by have := HK1.out; have := HK2.out; have := HK3.out; omega⟩, ⟨by exact RZ HO_7⟩, ⟨by exact RZ HO_10⟩, ⟨by exact RZ HO_11⟩, ⟨Z BK602⟩, ⟨Z BK603⟩, ⟨Z BK609⟩, ⟨Z BK615⟩, ⟨YA HB⟩⟩
        replace c47 := Bool.eq_false_iff.mpr c47
        subst c47
        rw [if_neg ff] at H
        by_cases c53 : 0 ≤ x12_1
        rotate_left
        ·rw [if_neg c53] at H
         exact absurd H (by simp)
        rw [if_pos c53] at H
        have c53b0 := dT c53
        clear c53
        by_cases c54 : x12_1 < (t606.length : Int)
        rotate_left
        ·rw [if_neg c54] at H
         exact absurd H (by simp)
        rw [if_pos c54] at H
        have c54b0 := dT c54
        clear c54
        have H' := am H
        clear H
        obtain ⟨Ao55, co55, eo55⟩ := Kd.R_slice HO_11.out
        subst eo55
        try go_wp2
        replace HO_7 := am (Kd.R_drew HO_7.out)
        replace HO_10 := am (Kd.R_drew HO_10.out)
        replace HO_11 := am (Kd.R_drew HO_11.out)
        obtain ⟨BK602, BK603, BK609, BK615, HB⟩ := dk4 BK602 BK603 BK609 BK615 HB
        have p623 : 0 ≤ (x14_2 : Int) := oz
        have q623 : x14_2 < (y617.length : Int) := oz
        obtain ⟨ad623, e623, hx623_0⟩ := Kd.at_int (Kd.R_reads' HO_10.out).2.2 x14_2 p623 q623
        cases e623
        replace p623 := eq_true p623
        replace q623 := eq_true q623
        have p625 : 0 ≤ (x15_3 : Int) := oz
        have q625 : x15_3 < (y620.length : Int) := oz
        obtain ⟨ad625, e625, hx625_0⟩ := Kd.at_int (Kd.R_reads' HO_11.out).2.2 x15_3 p625 q625
        cases e625
        replace p625 := eq_true p625
        replace q625 := eq_true q625
        refine start_ (n := 14) (S := fun w' => w'.cell? ⟨gb602, 0, none⟩ = some (.int .i64 t598) ∧ w'.cell? ⟨gb602, 1, none⟩ = some (.int .i64 t599) ∧ w'.cell? ⟨gb603, 0, none⟩ = some (.int .i64 t600) ∧ w'.cell? ⟨gb603, 1, none⟩ = some (.int .i64 t601) ∧ w'.cell? (ad623.add (x14_2).toNat) = some (.int .i64 (rd y617 x14_2)) ∧ w'.cell? (ad625.add (x15_3).toNat) = some (.int .i64 (rd y620 x15_3))) (ds := []) (lb 14 0) (by kernel_rfl) rfl rfl ⟨bc BK602 0, bc BK602 1, bc BK603 0, bc BK603 1, hx623_0, hx625_0⟩ (fun hHeld => ?_); refine with_tabW laws_FnRangeFaults.tab20 laws_FnRangeFaults.bits20 (fun HT_ HW_ => ?_)
        generalize wr.drew = w56 at HO_7 HO_10 HO_11 BK602 BK603 BK609 BK615 HB hx623_0 hx625_0 hHeld ⊢
        refine pk 1 74 2 ?_
        refine pk 2 75 6 ?_
        refine pk 3 76 14 ?_
        refine tk 0 73 15 hHeld ?_
        refine tk 4 77 31 hHeld ?_
        refine on 5 (some 78) 63 fun K hK => ?_
        refine goes_ Try.func22 (by kernel_rfl) rfl #[.agg #[.int .i64 t598, .int .i64 t599], .int .i64 (rd y617 x14_2)] (by rfl) rfl rfl mz ?_
        with_reducible refine (spec_RangeHas.calls _ _ _ _ _ A41.out).mono ?_
        rintro e w57 ⟨rfl, hb⟩
        have HS4_ := (hb.cell (World.block_lt_of_cell? _ _ (hHeld.2.2.2.2.1))).trans (hHeld.2.2.2.2.1)
        have HS5_ := (hb.cell (World.block_lt_of_cell? _ _ (hHeld.2.2.2.2.2))).trans (hHeld.2.2.2.2.2)
        refine ⟨_, rfl, ?_⟩
        replace HO_7 := am (Kd.R_below (RZ HO_7) hb)
        replace HO_10 := am (Kd.R_below (RZ HO_10) hb)
        replace HO_11 := am (Kd.R_below (RZ HO_11) hb)
        obtain ⟨BK602, BK603, BK609, BK615, HB⟩ := bk4 BK602 BK603 BK609 BK615 HB hb
        clear hb
        refine kk hK ⟨bc BK602 0, bc BK602 1, bc BK603 0, bc BK603 1, HS4_, HS5_⟩ fun hHeld => ?_
        clear hK K
        refine pk 6 79 127 ?_
        refine pk 8 81 383 ?_
        refine pk 9 82 895 ?_
        refine pk 10 83 1919 ?_
        refine tk 7 80 2047 hHeld ?_
        refine tk 11 84 4095 hHeld ?_
        refine on 12 (some 85) 8191 fun K hK => ?_
        refine goes_ Try.func22 (by kernel_rfl) rfl #[.agg #[.int .i64 t600, .int .i64 t601], .int .i64 (rd y620 x15_3)] (by rfl) rfl rfl mz ?_
        with_reducible refine (spec_RangeHas.calls _ _ _ _ _ A44.out).mono ?_
        rintro e w58 ⟨rfl, hb⟩
        have HS4_ := (hb.cell (World.block_lt_of_cell? _ _ (hHeld.2.2.2.2.1))).trans (hHeld.2.2.2.2.1)
        have HS5_ := (hb.cell (World.block_lt_of_cell? _ _ (hHeld.2.2.2.2.2))).trans (hHeld.2.2.2.2.2)
        refine ⟨_, rfl, ?_⟩
        replace HO_7 := am (Kd.R_below (RZ HO_7) hb)
        replace HO_10 := am (Kd.R_below (RZ HO_10) hb)
        replace HO_11 := am (Kd.R_below (RZ HO_11) hb)
        obtain ⟨BK602, BK603, BK609, BK615, HB⟩ := bk4 BK602 BK603 BK609 BK615 HB hb
        clear hb
        refine kk hK ⟨bc BK602 0, bc BK602 1, bc BK603 0, bc BK603 1, HS4_, HS5_⟩ fun hHeld => ?_
        clear hK K
        refine pk 13 86 16383 ?_
        refine done_ (done_of HT_.out (by kernel_rfl)) ?_
        try go_wp2
        replace HO_7 := am (Kd.R_drew HO_7.out)
        replace HO_10 := am (Kd.R_drew HO_10.out)
        replace HO_11 := am (Kd.R_drew HO_11.out)
        obtain ⟨BK602, BK603, BK609, BK615, HB⟩ := dk4 BK602 BK603 BK609 BK615 HB
        have p627 : 0 ≤ (x14_2 : Int) := oz
        have q627 : x14_2 < (y617.length : Int) := oz
        obtain ⟨ad627, e627, hx627_0⟩ := Kd.at_int (Kd.R_reads' HO_10.out).2.2 x14_2 p627 q627
        obtain rfl : ad623 = ad627 := (by injection e627)
        replace p627 := eq_true p627
        replace q627 := eq_true q627
        have p628 : 0 ≤ (x15_3 : Int) := oz
        have q628 : x15_3 < (y620.length : Int) := oz
        obtain ⟨ad628, e628, hx628_0⟩ := Kd.at_int (Kd.R_reads' HO_11.out).2.2 x15_3 p628 q628
        obtain rfl : ad625 = ad628 := (by injection e628)
        replace p628 := eq_true p628
        replace q628 := eq_true q628
        refine start_ (n := 15) (S := fun w' => w'.cell? (ad623.add (x14_2).toNat) = some (.int .i64 (rd y617 x14_2)) ∧ w'.cell? (ad625.add (x15_3).toNat) = some (.int .i64 (rd y620 x15_3))) (ds := []) (lb 15 0) (by kernel_rfl) rfl rfl ⟨hx627_0, hx628_0⟩ (fun hHeld => ?_); refine with_tabW laws_FnRangeFaults.tab21 laws_FnRangeFaults.bits21 (fun HT_ HW_ => ?_)
        generalize w58.drew = w59 at HO_7 HO_10 HO_11 BK602 BK603 BK609 BK615 HB hx627_0 hx628_0 hHeld ⊢
        refine pk 0 88 1 ?_
        refine pk 1 89 3 ?_
        refine pk 2 90 7 ?_
        refine pk 3 91 15 ?_
        refine pk 5 93 47 ?_
        refine pk 6 94 111 ?_
        refine pk 7 95 239 ?_
        refine tk 4 92 255 hHeld ?_
        refine tk 8 96 511 hHeld ?_
        refine on 9 (some 97) 1023 fun K hK => ?_
        refine goes_ Try.func17 (by kernel_rfl) rfl #[.int .i64 t597, .int .i64 (rd y617 x14_2), .int .i64 (rd y620 x15_3)] (by rfl) rfl rfl mz ?_
        with_reducible refine (impl_NumDo.calls _ _ _ _ _ _ _ A46.out).mono ?_
        rintro e w' ⟨rfl, ⟨nd, rfl⟩⟩
        refine ⟨_, rfl, ?_⟩
        refine kk hK ⟨hHeld.1, hHeld.2⟩ fun hHeld => ?_
        clear hK K
        refine pk 10 87 2047 ?_
        refine pk 11 98 4095 ?_
        refine pk 12 99 8191 ?_
        refine pk 13 16 16383 ?_
        refine pk 14 17 32767 ?_
        refine done_ (done_of HT_.out (by kernel_rfl)) ?_
        have p631 : 0 ≤ (x12_1 : Int) := oz
        have q631 : x12_1 < (t606.length : Int) := oz
        obtain ⟨ad631, e631, hx631_0⟩ := Kd.at_int (Kd.R_reads' HO_7.out).2.2 x12_1 p631 q631
        cases e631
        replace p631 := eq_true p631
        replace q631 := eq_true q631
        try go_wp2
        go_roundg k3
        case measure => have := HK1.out; have := HK2.out; have := HK3.out; omega
        case rel => exact ⟨((t630 == (rd t606 x12_1))), (wrap64 (x15_3 + 1)), ey, ey, H', ⟨by have := HK1.out; have := HK2.out; have := HK3.out; omega⟩, ⟨by exact RZ HO_7⟩, ⟨by exact RZ HO_10⟩, ⟨by exact RZ HO_11⟩, ⟨Z BK602⟩, ⟨Z BK603⟩, ⟨Z BK609⟩, ⟨Z BK615⟩, ⟨YA HB⟩⟩
 -- THE ONE PURE STATEMENT of laws_FnRangeFaults: yours. -/
def laws_FnRangeFaults.Pure : Prop := ∀ (l0 : List Int), l0.length ≤ maxLen → l0.length * 1 ≤ 140737488351232 → (∀ x ∈ l0, (Lit.int .u8 x).wf = true) → ∃ k, laws_FnRangeFaults.f k l0 = some true
theorem laws_FnRangeFaults.walk (P : laws_FnRangeFaults.Pure) (a0 : Option Addr) (len0 cap0 : Nat) (z0 : List Int) (w : World) (w0 : (a0 = none ∧ len0 = 0 ∧ cap0 = 0 ∧ z0 = []) ∨ ∃ x, a0 = some x ∧ len0 ≤ cap0 ∧ cap0 ≤ maxLen ∧ z0.length = cap0 ∧ (∀ i, i < z0.length → w.cell? (x.add i) = some (.int .u8 (z0.getD i 0))) ∧ ∀ n ∈ z0, (Lit.int .u8 n).wf = true) (y0 : len0 * 1 ≤ 140737488351232) :
  Calls Try.prog 5 #[.slice a0 len0 cap0] w fun e w' => e = .returned (.bool true) ∧ Below w.heap.size w w' := by
 obtain ⟨l0, rfl, hr0, hm0, hw0, hc0⟩ := ReadsInt.ofRowC w0
 obtain ⟨k, h⟩ := P l0 hm0 y0 hw0
 refine (laws_FnRangeFaults.calls k _ _ l0 true w (Kd.C_of_reads (d := (0 : Int)) (h1 := fun _ => rfl) hr0) hc0 h).mono ?_
 rintro e w' ⟨rfl, hd⟩
 exact ⟨rfl, hd⟩

end Go.Proofs.Ythbkakcchgnhpaa.PFnRangeFaults
