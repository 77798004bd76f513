/- Written by this session's own driver (wip/dprint.py): the functions that the law FnRangeFaults reaches, as Lean functions, each with its contract. -/
import Derived.Test.YthbkakcchgnhpaaPFnRangeFaultsx0
import Derived.Test.YthbkakcchgnhpaaPFnRangeFaultsx3
import Derived.Test.YthbkakcchgnhpaaPFnRangeFaultsx22
import Derived.Test.YthbkakcchgnhpaaPFnRangeFaultsx23
import Derived.Test.YthbkakcchgnhpaaSv
namespace Go.Proofs.Ythbkakcchgnhpaa.PFnRangeFaults
open Go.RowKit Go.Proofs.YthbkakcchgnhpaaV.PrintWords Go.Proofs.YthbkakcchgnhpaaV.PrintLast Go.Proofs.YthbkakcchgnhpaaV.PrintMore Go.Proofs.YthbkakcchgnhpaaSv
attribute [local go_sem] max2_int min2_int max_two min_two max_three min_three max_four min_four   -- for this text's walks alone
set_option linter.unusedVariables false
set_option linter.unusedSimpArgs false

/-! ### spec_l8Shift: function 66 -/
attribute [local go_sem] Go.Proofs.YthbkakcchgnhpaaSet.isSome_setCell
def spec_l8Shift.j0 : Nat → Bool → List Int → Int → Option (Int × Int × Int)
 | 0, _, _, _ => none
 | k + 1, x11, x1000, x1001 => if x11 = true then ((spec_l1Rd_pick.f k x1000 x1001 36).bind fun bt563 => ((spec_l1Rd_pick.f k x1000 bt563.2 6).bind fun bt565 => ((spec_l8Cut.f (wrap64 (bt563.1 - 2)) (wrap64 ((wrap64 (bt563.1 - 2)) + bt565.1))).bind fun bt567 => (some (bt567.1, bt567.2, bt565.2))))) else ((spec_l8Range.f k x1000 x1001).bind fun bt569 => (some (bt569.1, bt569.2.1, bt569.2.2)))
def spec_l8Shift.f (k : Nat) (s0_0 : List Int) (s0_1 : Int) (a1 : Int) : Option (Int × Int × Int) := if a1 = 9 then (spec_l8Shift.j0 k true s0_0 s0_1) else (spec_l8Shift.j0 k (a1 == 10) s0_0 s0_1)
theorem spec_l8Shift.mono_l : ∀ k, (∀ y0 y1 y2, LeO (spec_l8Shift.j0 k y0 y1 y2) (spec_l8Shift.j0 (k + 1) y0 y1 y2))
 | 0 => fun _ _ _ r h => by simp [spec_l8Shift.j0] at h
 | k + 1 => by
  have ih0 := spec_l8Shift.mono_l k
  ·intro y0 y1 y2
   unfold spec_l8Shift.j0
   repeat' first | (with_reducible first | apply ih0 | apply spec_l1Rd_pick.mono | apply spec_l8Range.mono | apply LeO.refl | apply LeO.none | refine LeO.ite ?_ ?_ | refine LeO.bind ?_ (fun _ => ?_)) | apply ih0 | apply spec_l1Rd_pick.mono | apply spec_l8Range.mono | apply LeO.none | refine LeO.ite ?_ ?_ | refine LeO.bind ?_ (fun _ => ?_)
theorem spec_l8Shift.mono : ∀ a0 a1 a2 k, LeO (spec_l8Shift.f k a0 a1 a2) (spec_l8Shift.f (k + 1) a0 a1 a2) := by
 intro a0 a1 a2 k
 have ih0 := spec_l8Shift.mono_l k
 unfold spec_l8Shift.f
 repeat' first | (with_reducible first | apply ih0 | apply spec_l1Rd_pick.mono | apply spec_l8Range.mono | apply LeO.refl | apply LeO.none | refine LeO.ite ?_ ?_ | refine LeO.bind ?_ (fun _ => ?_)) | apply ih0 | apply spec_l1Rd_pick.mono | apply spec_l8Range.mono | apply LeO.none | refine LeO.ite ?_ ?_ | refine LeO.bind ?_ (fun _ => ?_)
set_option maxHeartbeats 8000000 in
set_option maxRecDepth 100000 in
theorem spec_l8Shift.calls (k : Nat) (g : Nat) (s0_0 : List Int) (s0_1 : Int) (a1 : Int) (r1 : Int) (r2 : Int) (r3 : Int) (w0 w : World) (hI : IsS99 w0 w g s0_0 s0_1) (hB : Below w0.heap.size w0 w) (h : spec_l8Shift.f k s0_0 s0_1 a1 = some (r1, r2, r3)) :
  Calls Try.prog 66 #[.pointer (some ⟨g, 0, none⟩), .int .i64 a1] w fun e w' => e = .returned (.agg #[.int .i64 r1, .int .i64 r2]) ∧ IsS99 w0 w' g s0_0 r3 ∧ Below w0.heap.size w0 w' ∧ KeepBut w w' g none := by
 have hu24 := Try.underlying24
 have HI0 := am hI
 have HK := am (KeepBut.refl w g none)
 have HL := am hB.size
 clear hI
 have HW0 := am hB.size
 have HB := am hB
 clear hB
 have H : (if a1 = 9 then (spec_l8Shift.j0 k true s0_0 s0_1) else (spec_l8Shift.j0 k (a1 == 10) s0_0 s0_1)) = some (r1, r2, r3) := h
 clear h
 have HC3 := am H
 clear H
 go_enter Try.func66, Try.ntmps66
 go_upto_region 1 with (first | ((with_reducible refine gate_dst (N := 4) rfl ?_); refine bx 4 #[.int .i64 0, .int .i64 0] 24 ?_; intro gb562 hg w4 hbox hb; have BK562 := am (hbox); have GW562 := am ((by rw [hg]; exact (keep_size (w := w) (g := g) (row := none) (by repeat (first | (with_reducible first | exact HK.out | apply KeepBut.set_ | apply keep_drewN | apply keep_drew | apply keep_alloc) | exact HK.out))) : w.heap.size ≤ gb562)); have GE562 := am ((Nat.le_trans HW0.out (by rw [hg]; exact (keep_size (w := w) (g := g) (row := none) (by repeat (first | (with_reducible first | exact HK.out | apply KeepBut.set_ | apply keep_drewN | apply keep_drew | apply keep_alloc) | exact HK.out))) : w.heap.size ≤ gb562) : w0.heap.size ≤ gb562)); have NB0_562 := am ((by rw [hg]; exact Nat.ne_of_lt (IsS99.lt (show IsS99 w0 _ g s0_0 s0_1 from by repeat (first | (with_reducible first | exact HI0.out | apply IsS99.alloc | apply IsS99.drewN | apply IsS99.drew | apply IsS99.set_1) | exact HI0.out))) : g ≠ gb562)); have NB562_0 := am ((by rw [hg]; exact Nat.ne_of_gt (IsS99.lt (show IsS99 w0 _ g s0_0 s0_1 from by repeat (first | (with_reducible first | exact HI0.out | apply IsS99.alloc | apply IsS99.drewN | apply IsS99.drew | apply IsS99.set_1) | exact HI0.out))) : gb562 ≠ g)); replace HK := am (KeepBut.trans (by repeat (first | (with_reducible first | exact HK.out | apply KeepBut.set_ | apply keep_drewN | apply keep_drew | apply keep_alloc) | exact HK.out)) (KeepBut.of_below hb g none) (.inl rfl)); replace HB := am (below_step (by repeat (first | (with_reducible first | exact HB.out | apply below_alloc | apply pw_below_drewN | apply below_drew1 | refine below_set ?_ (IsS99.ge HI0.out)) | exact HB.out)) hb); replace HI0 := am (IsS99.below (by repeat (first | (with_reducible first | exact HI0.out | apply IsS99.alloc | apply IsS99.drewN | apply IsS99.drew | apply IsS99.set_1) | exact HI0.out)) hb); clear hb hbox hg))
 (try simp only [Act.put, List.setIfInBounds_toArray, List.set_cons_zero, List.set_cons_succ])
 go_cut [11] (fun v11 wc => ∃ (kq : Nat) (x11_2 : Bool), v11 = .bool x11_2 ∧ Aside0 (spec_l8Shift.j0 kq x11_2 s0_0 s0_1 = some (r1, r2, r3)) ∧ Aside0 (kq ≤ k) ∧ Bx2 wc gb562 0 0 24 ∧ Aside0 (IsS99 w0 wc g s0_0 s0_1) ∧ Aside0 (KeepBut w wc g none) ∧ Aside0 (Below w0.heap.size w0 wc))
 case first =>
  have H := HC3.out
  clear HC3
  by_cases c5 : a1 = 9
  rotate_left
  ·rw [if_neg c5] at H
   have c5b0 := eF c5
   have c5b1 := nT c5
   (first | rw [c5b0] | (simp only [i64_w, i32_w]; rw [c5b0]) | skip)
   have H' := am H
   clear H
   go_wp2
   go_meet
   case rel => exact ⟨_, ((a1 == 10)), ey, H', le0, ⟨Z BK562⟩, ⟨by repeat (first | (with_reducible first | exact HI0.out | apply IsS99.alloc | apply IsS99.drewN | apply IsS99.drew | apply IsS99.set_1 | refine IsS99.far ?_ NB0_562.out _) | exact HI0.out)⟩, ⟨by repeat (first | (with_reducible first | exact HK.out | apply KeepBut.set_ | apply keep_drewN | apply keep_drew | apply keep_alloc | refine keep_far ?_ GW562.out _) | exact HK.out)⟩, ⟨by repeat (first | (with_reducible first | exact HB.out | apply below_alloc | apply pw_below_drewN | apply below_drew1 | refine below_set ?_ (IsS99.ge HI0.out) | refine below_set ?_ GE562.out) | exact HB.out)⟩⟩
  rw [if_pos c5] at H
  have c5b0 := eT c5
  have c5b1 := nF c5
  clear c5
  (first | rw [c5b0] | (simp only [i64_w, i32_w]; rw [c5b0]) | skip)
  have H' := am H
  clear H
  go_wp2
  go_meet
  case rel => exact ⟨_, (true), ey, H', le0, ⟨Z BK562⟩, ⟨by repeat (first | (with_reducible first | exact HI0.out | apply IsS99.alloc | apply IsS99.drewN | apply IsS99.drew | apply IsS99.set_1 | refine IsS99.far ?_ NB0_562.out _) | exact HI0.out)⟩, ⟨by repeat (first | (with_reducible first | exact HK.out | apply KeepBut.set_ | apply keep_drewN | apply keep_drew | apply keep_alloc | refine keep_far ?_ GW562.out _) | exact HK.out)⟩, ⟨by repeat (first | (with_reducible first | exact HB.out | apply below_alloc | apply pw_below_drewN | apply below_drew1 | refine below_set ?_ (IsS99.ge HI0.out) | refine below_set ?_ GE562.out) | exact HB.out)⟩⟩
 case rest =>
  clear HC3
  obtain ⟨kq, x11_2, rfl, HA, HJ2, BK562, HI0, HK, HB⟩ := hcut
  cases kq with
  | zero => exact absurd HA.out (by simp [spec_l8Shift.j0])
  | succ kj2 =>
   have H := HA.out
   clear HA
   simp only [spec_l8Shift.j0] at H
   by_cases c6 : x11_2 = true
   rotate_left
   ·replace c6 := Bool.eq_false_iff.mpr c6
    subst c6
    rw [if_neg ff] at H
    obtain ⟨⟨t569, t570, t571⟩, A15, H⟩ := bd H
    try dsimp only at H
    simp only [Option.some.injEq, Prod.mk.injEq] at H
    obtain ⟨rfl, rfl, rfl⟩ := H
    go_wp2_with (first | ((with_reducible refine gate_callee (f := 101) rfl ?_); refine goesL_ (some 22) rfl rfl Try.func101 (by kernel_rfl) rfl #[.pointer (some ⟨g, 0, none⟩)] rfl mz ?_; (with_reducible refine (spec_l8Range.calls kj2 g s0_0 s0_1 t569 t570 t571 w0 _ ?side1 ?side2 A15.out).mono ?_); (case side1 => repeat (first | (with_reducible first | exact HI0.out | apply IsS99.alloc | apply IsS99.drewN | apply IsS99.drew | apply IsS99.set_1 | refine IsS99.far ?_ NB0_562.out _) | exact HI0.out)); (case side2 => repeat (first | (with_reducible first | exact HB.out | apply below_alloc | apply pw_below_drewN | apply below_drew1 | refine below_set ?_ (IsS99.ge HI0.out) | refine below_set ?_ GE562.out) | exact HB.out)); rintro e w16 ⟨rfl, hi, hb, hk⟩; refine ⟨_, rfl, ?_⟩; replace BK562 := am (KeepBut.blk hk (g' := gb562) (o := b2 0 0 24) (Z BK562) NB562_0.out (by simp)); replace HK := am (KeepBut.trans (by repeat (first | (with_reducible first | exact HK.out | apply KeepBut.set_ | apply keep_drewN | apply keep_drew | apply keep_alloc | refine keep_far ?_ GW562.out _) | exact HK.out)) hk (.inl rfl)); replace HB := am (hb); replace HI0 := am (hi); (try clear hb); obtain ⟨hnb17,hnc17⟩ := nn NB562_0; obtain ⟨hcz18_0,hcz18_1,hfz18_0,hfz18_1⟩ := cB2 BK562))
    refine bodyPost_ret (results_cell_row rfl _ _ gb562 24 #[.int .i64 t569, .int .i64 t570] (0, 0) _ rfl (by refine pf ?_; refine blk_put (cs := #[.int .i64 t569, .int .i64 0]) ?_ 1 _ rfl; refine pf ?_; refine blk_put (cs := #[.int .i64 0, .int .i64 0]) ?_ 0 _ rfl; exact Z BK562) Try.underlying24 rfl (by kernel_rfl)) rfl ?_
    exact ⟨ez, by repeat (first | (with_reducible first | exact HI0.out | apply IsS99.alloc | apply IsS99.drewN | apply IsS99.drew | apply IsS99.set_1 | refine IsS99.far ?_ NB0_562.out _) | exact HI0.out), by repeat (first | (with_reducible first | exact HB.out | apply below_alloc | apply pw_below_drewN | apply below_drew1 | refine below_set ?_ (IsS99.ge HI0.out) | refine below_set ?_ GE562.out) | exact HB.out), by repeat (first | (with_reducible first | exact HK.out | apply KeepBut.set_ | apply keep_drewN | apply keep_drew | apply keep_alloc | refine keep_far ?_ GW562.out _) | exact HK.out)⟩
   subst c6
   rw [if_pos rfl] at H
   obtain ⟨⟨t563, t564⟩, A7, H⟩ := bd H
   try dsimp only at H
   obtain ⟨⟨t565, t566⟩, A8, H⟩ := bd H
   try dsimp only at H
   obtain ⟨⟨t567, t568⟩, A9, H⟩ := bd H
   try dsimp only at H
   simp only [Option.some.injEq, Prod.mk.injEq] at H
   obtain ⟨rfl, rfl, rfl⟩ := H
   go_wp2_with (first | ((with_reducible refine gate_callee (f := 57) rfl ?_); refine goesL_ (some 13) rfl rfl Try.func57 (by kernel_rfl) rfl #[.pointer (some ⟨g, 0, none⟩), .int .i64 36] rfl mz ?_; (with_reducible refine (spec_l1Rd_pick.calls kj2 g s0_0 s0_1 36 t563 t564 w0 _ ?side1 ?side2 A7.out).mono ?_); (case side1 => repeat (first | (with_reducible first | exact HI0.out | apply IsS99.alloc | apply IsS99.drewN | apply IsS99.drew | apply IsS99.set_1 | refine IsS99.far ?_ NB0_562.out _) | exact HI0.out)); (case side2 => repeat (first | (with_reducible first | exact HB.out | apply below_alloc | apply pw_below_drewN | apply below_drew1 | refine below_set ?_ (IsS99.ge HI0.out) | refine below_set ?_ GE562.out) | exact HB.out)); rintro e w10 ⟨rfl, hi, hb, hk⟩; refine ⟨_, rfl, ?_⟩; replace BK562 := am (KeepBut.blk hk (g' := gb562) (o := b2 0 0 24) (Z BK562) NB562_0.out (by simp)); replace HK := am (KeepBut.trans (by repeat (first | (with_reducible first | exact HK.out | apply KeepBut.set_ | apply keep_drewN | apply keep_drew | apply keep_alloc | refine keep_far ?_ GW562.out _) | exact HK.out)) hk (.inl rfl)); replace HB := am (hb); replace HI0 := am (hi); (try clear hb)) | ((with_reducible refine gate_callee (f := 57) rfl ?_); refine goesL_ (some 18) rfl rfl Try.func57 (by kernel_rfl) rfl #[.pointer (some ⟨g, 0, none⟩), .int .i64 6] rfl mz ?_; (with_reducible refine (spec_l1Rd_pick.calls kj2 g s0_0 t564 6 t565 t566 w0 _ ?side1 ?side2 A8.out).mono ?_); (case side1 => repeat (first | (with_reducible first | exact HI0.out | apply IsS99.alloc | apply IsS99.drewN | apply IsS99.drew | apply IsS99.set_1 | refine IsS99.far ?_ NB0_562.out _) | exact HI0.out)); (case side2 => repeat (first | (with_reducible first | exact HB.out | apply below_alloc | apply pw_below_drewN | apply below_drew1 | refine below_set ?_ (IsS99.ge HI0.out) | refine below_set ?_ GE562.out) | exact HB.out)); rintro e w11 ⟨rfl, hi, hb, hk⟩; refine ⟨_, rfl, ?_⟩; replace BK562 := am (KeepBut.blk hk (g' := gb562) (o := b2 0 0 24) (Z BK562) NB562_0.out (by simp)); replace HK := am (KeepBut.trans (by repeat (first | (with_reducible first | exact HK.out | apply KeepBut.set_ | apply keep_drewN | apply keep_drew | apply keep_alloc | refine keep_far ?_ GW562.out _) | exact HK.out)) hk (.inl rfl)); replace HB := am (hb); replace HI0 := am (hi); (try clear hb)) | ((with_reducible refine gate_callee (f := 44) rfl ?_); refine gL 20 Try.func44 (spec_l8Cut.calls _ _ _ _ _ A9.out) fun w12 hb => ?_; replace BK562 := bb BK562 hb; replace HK := am (KeepBut.trans (by repeat (first | (with_reducible first | exact HK.out | apply KeepBut.set_ | apply keep_drewN | apply keep_drew | apply keep_alloc | refine keep_far ?_ GW562.out _) | exact HK.out)) (KeepBut.of_below hb g none) (.inl rfl)); replace HB := am (below_step (by repeat (first | (with_reducible first | exact HB.out | apply below_alloc | apply pw_below_drewN | apply below_drew1 | refine below_set ?_ (IsS99.ge HI0.out) | refine below_set ?_ GE562.out) | exact HB.out)) hb); replace HI0 := am (IsS99.below (by repeat (first | (with_reducible first | exact HI0.out | apply IsS99.alloc | apply IsS99.drewN | apply IsS99.drew | apply IsS99.set_1 | refine IsS99.far ?_ NB0_562.out _) | exact HI0.out)) hb); (try clear hb); obtain ⟨hnb13,hnc13⟩ := nn NB562_0; obtain ⟨hcz14_0,hcz14_1,hfz14_0,hfz14_1⟩ := cB2 BK562))
   refine bodyPost_ret (results_cell_row rfl _ _ gb562 24 #[.int .i64 t567, .int .i64 t568] (0, 0) _ rfl (by refine pf ?_; refine blk_put (cs := #[.int .i64 t567, .int .i64 0]) ?_ 1 _ rfl; refine pf ?_; refine blk_put (cs := #[.int .i64 0, .int .i64 0]) ?_ 0 _ rfl; exact Z BK562) Try.underlying24 rfl (by kernel_rfl)) rfl ?_
   exact ⟨ez, by repeat (first | (with_reducible first | exact HI0.out | apply IsS99.alloc | apply IsS99.drewN | apply IsS99.drew | apply IsS99.set_1 | refine IsS99.far ?_ NB0_562.out _) | exact HI0.out), by repeat (first | (with_reducible first | exact HB.out | apply below_alloc | apply pw_below_drewN | apply below_drew1 | refine below_set ?_ (IsS99.ge HI0.out) | refine below_set ?_ GE562.out) | exact HB.out), by repeat (first | (with_reducible first | exact HK.out | apply KeepBut.set_ | apply keep_drewN | apply keep_drew | apply keep_alloc | refine keep_far ?_ GW562.out _) | exact HK.out)⟩

/-! ### spec_DrawRangeDo: function 21 -/
attribute [local go_sem] Go.Proofs.YthbkakcchgnhpaaSet.isSome_setCell
def spec_DrawRangeDo.f (k : Nat) (l0 : List Int) : Option (Int × Int × Int × Int × Int) := (spec_l1Open.f l0).bind fun bt574 => ((spec_l1Rd_pick.f k bt574.1 bt574.2 13).bind fun bt577 => ((spec_l1Rd_pick.f k bt574.1 bt577.2 30).bind fun bt579 => (if bt579.1 = 0 then ((spec_l1Rd_pick.f k bt574.1 bt579.2 16).bind fun bt581 => ((spec_l8Wild.f k bt574.1 bt581.2).bind fun bt583 => ((spec_l8Shift.f k bt574.1 bt583.2.2 (wrap64 (bt581.1 - 1))).bind fun bt587 => (some (wrap64 (bt581.1 - 1), bt583.1, bt583.2.1, bt587.1, bt587.2.1))))) else ((spec_l8Wild.f k bt574.1 bt579.2).bind fun bt590 => ((spec_l8Shift.f k bt574.1 bt590.2.2 (wrap64 (1 + bt577.1))).bind fun bt594 => (some (wrap64 (1 + bt577.1), bt590.1, bt590.2.1, bt594.1, bt594.2.1)))))))
theorem spec_DrawRangeDo.mono : ∀ a0 k, LeO (spec_DrawRangeDo.f k a0) (spec_DrawRangeDo.f (k + 1) a0) := by
 intro a0 k
 unfold spec_DrawRangeDo.f
 repeat' first | (with_reducible first | apply spec_l1Rd_pick.mono | apply spec_l8Shift.mono | apply spec_l8Wild.mono | apply LeO.refl | apply LeO.none | refine LeO.ite ?_ ?_ | refine LeO.bind ?_ (fun _ => ?_)) | apply spec_l1Rd_pick.mono | apply spec_l8Shift.mono | apply spec_l8Wild.mono | apply LeO.none | refine LeO.ite ?_ ?_ | refine LeO.bind ?_ (fun _ => ?_)
def spec_DrawRangeDo.T6 : Bool × List (List Nat × List Nat) := (true, [([], []), ([], []), ([], []), ([], []), ([2, 3], [2, 3]), ([0, 4, 0], [0]), ([1, 5, 0, 1, 5], [1]), ([4, 6, 0, 1, 2, 3, 4, 5, 6], [4])])
def spec_DrawRangeDo.B6 : List Nat := [0, 0, 0, 0, 12, 29, 63, 127]
theorem spec_DrawRangeDo.tab6 : rtab .any (opsOf Try.f21 6) = spec_DrawRangeDo.T6 := by kernel_rfl
theorem spec_DrawRangeDo.bits6 : waitsOk spec_DrawRangeDo.T6.2 spec_DrawRangeDo.B6 = true := by kernel_rfl
set_option maxHeartbeats 8000000 in
set_option maxRecDepth 100000 in
theorem spec_DrawRangeDo.calls (k : Nat) (A0 : Option Addr) (c0 : Nat) (l0 : List Int) (r1 : Int) (r2 : Int) (r3 : Int) (r4 : Int) (r5 : Int) (w : World) (hr0 : Kd.C (Kd.int .u8) w A0 l0.length l0) (hc0 : l0.length ≤ c0) (h : spec_DrawRangeDo.f k l0 = some (r1, r2, r3, r4, r5)) :
  Calls Try.prog 21 #[.slice A0 l0.length c0] w fun e w' => e = .returned (.tuple #[.int .i64 r1, .agg #[.int .i64 r2, .int .i64 r3], .agg #[.int .i64 r4, .int .i64 r5]]) ∧ Below w.heap.size w w' := by
 have hu24 := Try.underlying24
 have HR0 := am hr0
 have HC0 := am hc0
 clear hr0 hc0
 have HB := am (Below.refl w.heap.size w)
 have H : ((spec_l1Open.f l0).bind fun bt574 => ((spec_l1Rd_pick.f k bt574.1 bt574.2 13).bind fun bt577 => ((spec_l1Rd_pick.f k bt574.1 bt577.2 30).bind fun bt579 => (if bt579.1 = 0 then ((spec_l1Rd_pick.f k bt574.1 bt579.2 16).bind fun bt581 => ((spec_l8Wild.f k bt574.1 bt581.2).bind fun bt583 => ((spec_l8Shift.f k bt574.1 bt583.2.2 (wrap64 (bt581.1 - 1))).bind fun bt587 => (some (wrap64 (bt581.1 - 1), bt583.1, bt583.2.1, bt587.1, bt587.2.1))))) else ((spec_l8Wild.f k bt574.1 bt579.2).bind fun bt590 => ((spec_l8Shift.f k bt574.1 bt590.2.2 (wrap64 (1 + bt577.1))).bind fun bt594 => (some (wrap64 (1 + bt577.1), bt590.1, bt590.2.1, bt594.1, bt594.2.1)))))))) = some (r1, r2, r3, r4, r5) := h
 clear h
 obtain ⟨⟨t574, t575⟩, A2, H⟩ := bd H
 try dsimp only at H
 obtain ⟨⟨t577, t578⟩, A3, H⟩ := bd H
 try dsimp only at H
 obtain ⟨⟨t579, t580⟩, A4, H⟩ := bd H
 try dsimp only at H
 by_cases c5 : t579 = 0
 rotate_left
 ·rw [if_neg c5] at H
  have c5b0 := eF c5
  have c5b1 := nT c5
  obtain ⟨⟨t590, t591, t592⟩, A28, H⟩ := bd H
  try dsimp only at H
  obtain ⟨⟨t594, t595, t596⟩, A29, H⟩ := bd H
  try dsimp only at H
  simp only [Option.some.injEq, Prod.mk.injEq] at H
  obtain ⟨rfl, rfl, rfl, rfl, rfl⟩ := H
  go_enter Try.func21, Try.ntmps21
  try go_wp2_with (first | ((with_reducible refine gate_dst (N := 3) rfl ?_); refine bx 3 #[.int .i64 0, .int .i64 0] 24 ?_; intro gb572 hg w30 hbox hb; have BK572 := am (hbox); have GW572 := am (bs hg (YA HB)); have GE572 := GW572; replace HB := am (below_step (YA HB) hb); clear hb hbox hg) | ((with_reducible refine gate_dst (N := 4) rfl ?_); refine bx 4 #[.int .i64 0, .int .i64 0] 24 ?_; intro gb573 hg w31 hbox hb; have BK573 := am (hbox); have GW573 := am (bs hg (YA HB)); have GE573 := GW573; obtain ⟨NB572_573,NB573_572⟩ := ne_ hg BK572; obtain ⟨BK572, HB⟩ := bk1 BK572 HB hb; clear hb hbox hg) | ((with_reducible refine gate_callee (f := 56) rfl ?_); refine goesL_ (some 9) rfl rfl Try.func56 (by kernel_rfl) rfl #[.slice A0 l0.length c0] rfl mz ?_; (with_reducible refine (spec_l1Open.calls _ _ l0 t574 t575 w _ ?side1 ?side2 ?side3 A2.out).mono ?_); (case side1 => repeat (first | (with_reducible first | exact HB.out | apply below_alloc | apply pw_below_drewN | apply below_drew1 | refine below_set ?_ GE572.out | refine below_set ?_ GE573.out) | exact HB.out)); (case side2 => exact HR0.out); (case side3 => exact HC0.out); rintro e w32 ⟨g576, rfl, hi, hb, hb2⟩; refine ⟨_, rfl, ?_⟩; have HI576 := am (hi); have NB576_572 := am (IsS99.ne_blk hi (blk_below (g := gb572) (o := b2 0 0 24) (Z BK572) hb2) (by decide)); have NB572_576 := am (Ne.symm (IsS99.ne_blk hi (blk_below (g := gb572) (o := b2 0 0 24) (Z BK572) hb2) (by decide))); have NB576_573 := am (IsS99.ne_blk hi (blk_below (g := gb573) (o := b2 0 0 24) (Z BK573) hb2) (by decide)); have NB573_576 := am (Ne.symm (IsS99.ne_blk hi (blk_below (g := gb573) (o := b2 0 0 24) (Z BK573) hb2) (by decide))); replace BK572 := am (blk_below (g := gb572) (o := b2 0 0 24) (Z BK572) hb2); replace BK573 := am (blk_below (g := gb573) (o := b2 0 0 24) (Z BK573) hb2); replace HB := am (hb); (try clear hb)) | ((with_reducible refine gate_callee (f := 57) rfl ?_); refine goesL_ (some 11) rfl rfl Try.func57 (by kernel_rfl) rfl #[.pointer (some ⟨g576, 0, none⟩), .int .i64 13] rfl mz ?_; (with_reducible refine (spec_l1Rd_pick.calls k g576 t574 t575 13 t577 t578 w _ ?side1 ?side2 A3.out).mono ?_); (case side1 => repeat (first | (with_reducible first | exact HI576.out | apply IsS99.alloc | apply IsS99.drewN | apply IsS99.drew | apply IsS99.set_1 | refine IsS99.far ?_ NB576_572.out _ | refine IsS99.far ?_ NB576_573.out _) | exact HI576.out)); (case side2 => repeat (first | (with_reducible first | exact HB.out | apply below_alloc | apply pw_below_drewN | apply below_drew1 | refine below_set ?_ (IsS99.ge HI576.out) | refine below_set ?_ GE572.out | refine below_set ?_ GE573.out) | exact HB.out)); rintro e w33 ⟨rfl, hi, hb, hk⟩; refine ⟨_, rfl, ?_⟩; replace BK572 := am (KeepBut.blk hk (g' := gb572) (o := b2 0 0 24) (Z BK572) NB572_576.out (by simp)); replace BK573 := am (KeepBut.blk hk (g' := gb573) (o := b2 0 0 24) (Z BK573) NB573_576.out (by simp)); replace HB := am (hb); replace HI576 := am (hi); (try clear hb)) | ((with_reducible refine gate_callee (f := 57) rfl ?_); refine goesL_ (some 14) rfl rfl Try.func57 (by kernel_rfl) rfl #[.pointer (some ⟨g576, 0, none⟩), .int .i64 30] rfl mz ?_; (with_reducible refine (spec_l1Rd_pick.calls k g576 t574 t578 30 t579 t580 w _ ?side1 ?side2 A4.out).mono ?_); (case side1 => repeat (first | (with_reducible first | exact HI576.out | apply IsS99.alloc | apply IsS99.drewN | apply IsS99.drew | apply IsS99.set_1 | refine IsS99.far ?_ NB576_572.out _ | refine IsS99.far ?_ NB576_573.out _) | exact HI576.out)); (case side2 => repeat (first | (with_reducible first | exact HB.out | apply below_alloc | apply pw_below_drewN | apply below_drew1 | refine below_set ?_ (IsS99.ge HI576.out) | refine below_set ?_ GE572.out | refine below_set ?_ GE573.out) | exact HB.out)); rintro e w34 ⟨rfl, hi, hb, hk⟩; refine ⟨_, rfl, ?_⟩; replace BK572 := am (KeepBut.blk hk (g' := gb572) (o := b2 0 0 24) (Z BK572) NB572_576.out (by simp)); replace BK573 := am (KeepBut.blk hk (g' := gb573) (o := b2 0 0 24) (Z BK573) NB573_576.out (by simp)); replace HB := am (hb); replace HI576 := am (hi); (try clear hb)) | ((with_reducible refine gate_callee (f := 65) rfl ?_); refine goesL_ (some 20) rfl rfl Try.func65 (by kernel_rfl) rfl #[.pointer (some ⟨g576, 0, none⟩)] rfl mz ?_; (with_reducible refine (spec_l8Wild.calls k g576 t574 t580 t590 t591 t592 w _ ?side1 ?side2 A28.out).mono ?_); (case side1 => repeat (first | (with_reducible first | exact HI576.out | apply IsS99.alloc | apply IsS99.drewN | apply IsS99.drew | apply IsS99.set_1 | refine IsS99.far ?_ NB576_572.out _ | refine IsS99.far ?_ NB576_573.out _) | exact HI576.out)); (case side2 => repeat (first | (with_reducible first | exact HB.out | apply below_alloc | apply pw_below_drewN | apply below_drew1 | refine below_set ?_ (IsS99.ge HI576.out) | refine below_set ?_ GE572.out | refine below_set ?_ GE573.out) | exact HB.out)); rintro e w35 ⟨rfl, hi, hb, hk⟩; refine ⟨_, rfl, ?_⟩; replace BK572 := am (KeepBut.blk hk (g' := gb572) (o := b2 0 0 24) (Z BK572) NB572_576.out (by simp)); replace BK573 := am (KeepBut.blk hk (g' := gb573) (o := b2 0 0 24) (Z BK573) NB573_576.out (by simp)); replace HB := am (hb); replace HI576 := am (hi); (try clear hb)) | ((with_reducible refine gate_dst (N := 7) rfl ?_); refine bx 7 #[.int .i64 0, .int .i64 0] 24 ?_; intro gb593 hg w36 hbox hb; have BK593 := am (hbox); have GW593 := am ((by rw [hg]; exact (below_size (by repeat (first | (with_reducible first | exact HB.out | apply below_alloc | apply pw_below_drewN | apply below_drew1 | refine below_set ?_ (IsS99.ge HI576.out) | refine below_set ?_ GE572.out | refine below_set ?_ GE573.out) | exact HB.out))) : w.heap.size ≤ gb593)); have GE593 := am ((by rw [hg]; exact (below_size (by repeat (first | (with_reducible first | exact HB.out | apply below_alloc | apply pw_below_drewN | apply below_drew1 | refine below_set ?_ (IsS99.ge HI576.out) | refine below_set ?_ GE572.out | refine below_set ?_ GE573.out) | exact HB.out))) : w.heap.size ≤ gb593)); obtain ⟨NB572_593,NB593_572⟩ := ne_ hg BK572; obtain ⟨NB573_593,NB593_573⟩ := ne_ hg BK573; have NB576_593 := am ((by rw [hg]; exact Nat.ne_of_lt (IsS99.lt (show IsS99 w _ g576 t574 t592 from by repeat (first | (with_reducible first | exact HI576.out | apply IsS99.alloc | apply IsS99.drewN | apply IsS99.drew | apply IsS99.set_1 | refine IsS99.far ?_ NB576_572.out _ | refine IsS99.far ?_ NB576_573.out _) | exact HI576.out))) : g576 ≠ gb593)); have NB593_576 := am ((by rw [hg]; exact Nat.ne_of_gt (IsS99.lt (show IsS99 w _ g576 t574 t592 from by repeat (first | (with_reducible first | exact HI576.out | apply IsS99.alloc | apply IsS99.drewN | apply IsS99.drew | apply IsS99.set_1 | refine IsS99.far ?_ NB576_572.out _ | refine IsS99.far ?_ NB576_573.out _) | exact HI576.out))) : gb593 ≠ g576)); replace BK572 := bb BK572 hb; replace BK573 := bb BK573 hb; replace HB := am (below_step (by repeat (first | (with_reducible first | exact HB.out | apply below_alloc | apply pw_below_drewN | apply below_drew1 | refine below_set ?_ (IsS99.ge HI576.out) | refine below_set ?_ GE572.out | refine below_set ?_ GE573.out) | exact HB.out)) hb); replace HI576 := am (IsS99.below (by repeat (first | (with_reducible first | exact HI576.out | apply IsS99.alloc | apply IsS99.drewN | apply IsS99.drew | apply IsS99.set_1 | refine IsS99.far ?_ NB576_572.out _ | refine IsS99.far ?_ NB576_573.out _) | exact HI576.out)) hb); clear hb hbox hg; obtain ⟨hnb37,hnc37⟩ := nn NB593_572; obtain ⟨hnb38,hnc38⟩ := nn NB593_573; obtain ⟨hnb39,hnc39⟩ := nn NB593_576; obtain ⟨hcz40_0,hcz40_1,hfz40_0,hfz40_1⟩ := cB2 BK593))
  have n0_ : Aside0 (((w36.setCell ⟨gb593, 0, none⟩ (.int .i64 t590)).setCell ⟨gb593, 1, none⟩ (.int .i64 t591)).heap[gb572]? = some (.cells #[.int .i64 0, .int .i64 0] 24 (0, 0))) := ⟨by refine fa NB572_593 ?_; refine fa NB572_593 ?_; exact Z BK572⟩
  have n1_ : Aside0 (((w36.setCell ⟨gb593, 0, none⟩ (.int .i64 t590)).setCell ⟨gb593, 1, none⟩ (.int .i64 t591)).heap[gb573]? = some (.cells #[.int .i64 0, .int .i64 0] 24 (0, 0))) := ⟨by refine fa NB573_593 ?_; refine fa NB573_593 ?_; exact Z BK573⟩
  have n2_ : Aside0 (((w36.setCell ⟨gb593, 0, none⟩ (.int .i64 t590)).setCell ⟨gb593, 1, none⟩ (.int .i64 t591)).heap[gb593]? = some (.cells #[.int .i64 t590, .int .i64 t591] 24 (0, 0))) := ⟨by refine pf ?_; refine blk_put (cs := #[.int .i64 t590, .int .i64 0]) ?_ 1 _ rfl; refine pf ?_; refine blk_put (cs := #[.int .i64 0, .int .i64 0]) ?_ 0 _ rfl; exact Z BK593⟩
  have n3_ : Aside0 (IsS99 w ((w36.setCell ⟨gb593, 0, none⟩ (.int .i64 t590)).setCell ⟨gb593, 1, none⟩ (.int .i64 t591)) g576 t574 t592) := ⟨by repeat (first | (with_reducible first | exact HI576.out | apply IsS99.alloc | apply IsS99.drewN | apply IsS99.drew | apply IsS99.set_1 | refine IsS99.far ?_ NB576_572.out _ | refine IsS99.far ?_ NB576_573.out _ | refine IsS99.far ?_ NB576_593.out _) | exact HI576.out)⟩
  have n4_ : Aside0 (Below w.heap.size w ((w36.setCell ⟨gb593, 0, none⟩ (.int .i64 t590)).setCell ⟨gb593, 1, none⟩ (.int .i64 t591))) := ⟨by repeat (first | (with_reducible first | exact HB.out | apply below_alloc | apply pw_below_drewN | apply below_drew1 | refine below_set ?_ (IsS99.ge HI576.out) | refine below_set ?_ GE572.out | refine below_set ?_ GE573.out | refine below_set ?_ GE593.out) | exact HB.out)⟩
  (try clear BK572)
  (try clear BK573)
  (try clear BK593)
  (try clear HI576)
  (try clear HB)
  generalize ((w36.setCell ⟨gb593, 0, none⟩ (.int .i64 t590)).setCell ⟨gb593, 1, none⟩ (.int .i64 t591)) = w41 at n0_ n1_ n2_ n3_ n4_ ⊢
  have BK572 := n0_
  have BK573 := n1_
  have BK593 := n2_
  have HI576 := n3_
  have HB := n4_
  clear n0_ n1_ n2_ n3_ n4_
  replace BK572 := am (blk_drew BK572.out)
  replace BK573 := am (blk_drew BK573.out)
  replace BK593 := am (blk_drew BK593.out)
  replace HI576 := am (IsS99.drew HI576.out)
  replace HB := am (below_drew1 HB.out)
  refine start_ (n := 8) (S := fun w' => w'.cell? ⟨gb593, 0, none⟩ = some (.int .i64 t590) ∧ w'.cell? ⟨gb593, 1, none⟩ = some (.int .i64 t591)) (ds := []) (lb 8 0) (by kernel_rfl) rfl rfl ⟨bc BK593 0, bc BK593 1⟩ (fun hHeld => ?_); refine with_tabW spec_DrawRangeDo.tab6 spec_DrawRangeDo.bits6 (fun HT_ HW_ => ?_)
  generalize w41.drew = w42 at BK572 BK573 BK593 HI576 HB hHeld ⊢
  refine pk 0 21 1 ?_
  refine pk 2 23 5 ?_
  refine pk 3 24 13 ?_
  refine tk 1 22 15 hHeld ?_
  refine on 4 (some 25) 31 fun K hK => ?_
  refine goes_ Try.func66 (by kernel_rfl) rfl #[.pointer (some ⟨g576, 0, none⟩), .int .i64 (wrap64 (1 + t577))] (by rfl) rfl rfl mz ?_
  with_reducible refine (spec_l8Shift.calls k g576 t574 t592 (wrap64 (1 + t577)) t594 t595 t596 w _ ?side1 ?side2 A29.out).mono ?_
  (case side1 => repeat (first | (with_reducible first | exact HI576.out | apply IsS99.alloc | apply IsS99.drewN | apply IsS99.drew | apply IsS99.set_1 | refine IsS99.far ?_ NB576_572.out _ | refine IsS99.far ?_ NB576_573.out _ | refine IsS99.far ?_ NB576_593.out _) | exact HI576.out))
  (case side2 => repeat (first | (with_reducible first | exact HB.out | apply below_alloc | apply pw_below_drewN | apply below_drew1 | refine below_set ?_ (IsS99.ge HI576.out) | refine below_set ?_ GE572.out | refine below_set ?_ GE573.out | refine below_set ?_ GE593.out) | exact HB.out))
  rintro e w43 ⟨rfl, hi, hb, hk⟩
  refine ⟨_, rfl, ?_⟩
  replace BK572 := am (KeepBut.blk hk (g' := gb572) (o := b2 0 0 24) (Z BK572) NB572_576.out (by simp))
  replace BK573 := am (KeepBut.blk hk (g' := gb573) (o := b2 0 0 24) (Z BK573) NB573_576.out (by simp))
  replace BK593 := am (KeepBut.blk hk (g' := gb593) (o := b2 t590 t591 24) (Z BK593) NB593_576.out (by simp))
  replace HB := am (hb)
  replace HI576 := am (hi)
  (try clear hb)
  (try clear hb2)
  (try clear hk)
  (try clear hi)
  refine kk hK ⟨bc BK593 0, bc BK593 1⟩ fun hHeld => ?_
  clear hK K
  refine pk 5 2 63 ?_
  refine on 6 none 127 fun K hK => ?_
  have hs44 : w43.cell? ⟨gb572, 0, none⟩ = some (.int .i64 0) := bc BK572 0
  have hfs44 := blk_frozen BK572.out 0
  have hns44_1 := NB573_572.out
  have hns44_2 := NB593_572.out
  have hms44_1 := NB572_573.out
  have hms44_2 := NB572_593.out
  have hs45 : w43.cell? ⟨gb572, 1, none⟩ = some (.int .i64 0) := bc BK572 1
  have hfs45 := blk_frozen BK572.out 1
  have hns45_1 := NB573_572.out
  have hns45_2 := NB593_572.out
  have hms45_1 := NB572_573.out
  have hms45_2 := NB572_593.out
  refine skip_ (w1 := ?_) (by rfl) rfl ?_ ?_
  rotate_left
  ·go_simp
   rfl
  refine hK.out _ _ ⟨((cell_far (p := ⟨gb572, _, none⟩) NB593_572.out _).trans (((cell_far (p := ⟨gb572, _, none⟩) NB593_572.out _).trans (hHeld.1)))), ((cell_far (p := ⟨gb572, _, none⟩) NB593_572.out _).trans (((cell_far (p := ⟨gb572, _, none⟩) NB593_572.out _).trans (hHeld.2))))⟩ (fun hHeld => ?_)
  clear hK K
  refine on 7 none 255 fun K hK => ?_
  have hs46 : w43.cell? ⟨gb573, 0, none⟩ = some (.int .i64 0) := bc BK573 0
  have hfs46 := blk_frozen BK573.out 0
  have hns46_0 := NB572_573.out
  have hns46_2 := NB593_573.out
  have hms46_0 := NB573_572.out
  have hms46_2 := NB573_593.out
  have hs47 : w43.cell? ⟨gb573, 1, none⟩ = some (.int .i64 0) := bc BK573 1
  have hfs47 := blk_frozen BK573.out 1
  have hns47_0 := NB572_573.out
  have hns47_2 := NB593_573.out
  have hms47_0 := NB573_572.out
  have hms47_2 := NB573_593.out
  refine skip_ (w1 := ?_) (by rfl) rfl ?_ ?_
  rotate_left
  ·go_simp
   rfl
  refine hK.out _ _ ⟨((cell_far (p := ⟨gb573, _, none⟩) NB593_573.out _).trans (((cell_far (p := ⟨gb573, _, none⟩) NB593_573.out _).trans (hHeld.1)))), ((cell_far (p := ⟨gb573, _, none⟩) NB593_573.out _).trans (((cell_far (p := ⟨gb573, _, none⟩) NB593_573.out _).trans (hHeld.2))))⟩ (fun hHeld => ?_)
  clear hK K
  refine done_ (done_of HT_.out (by kernel_rfl)) ?_
  try go_wp2
  refine bodyPost_ret (results_list (rs := [.tmp 2, .cell 3 24, .cell 4 24]) rfl (by simp) (.tmp (.cell gb572 24 #[.int .i64 t590, .int .i64 t591] (0, 0) _ rfl (by refine fa NB572_573 ?_; refine fa NB572_573 ?_; refine pf ?_; refine blk_put (cs := #[.int .i64 t590, .int .i64 0]) ?_ 1 _ rfl; refine pf ?_; refine blk_put (cs := #[.int .i64 0, .int .i64 0]) ?_ 0 _ rfl; exact Z BK572) Try.underlying24 rfl (by kernel_rfl) (.cell gb573 24 #[.int .i64 t594, .int .i64 t595] (0, 0) _ rfl (by refine pf ?_; refine blk_put (cs := #[.int .i64 t594, .int .i64 0]) ?_ 1 _ rfl; refine pf ?_; refine blk_put (cs := #[.int .i64 0, .int .i64 0]) ?_ 0 _ rfl; refine fa NB573_572 ?_; refine fa NB573_572 ?_; exact Z BK573) Try.underlying24 rfl (by kernel_rfl) .nil)))) rfl ?_
  exact ⟨ez, by repeat (first | (with_reducible first | exact HB.out | apply below_alloc | apply pw_below_drewN | apply below_drew1 | refine below_set ?_ (IsS99.ge HI576.out) | refine below_set ?_ GE572.out | refine below_set ?_ GE573.out | refine below_set ?_ GE593.out) | exact HB.out)⟩
 rw [if_pos c5] at H
 have c5b0 := eT c5
 have c5b1 := nF c5
 clear c5
 obtain ⟨⟨t581, t582⟩, A6, H⟩ := bd H
 try dsimp only at H
 obtain ⟨⟨t583, t584, t585⟩, A7, H⟩ := bd H
 try dsimp only at H
 obtain ⟨⟨t587, t588, t589⟩, A8, H⟩ := bd H
 try dsimp only at H
 simp only [Option.some.injEq, Prod.mk.injEq] at H
 obtain ⟨rfl, rfl, rfl, rfl, rfl⟩ := H
 go_enter Try.func21, Try.ntmps21
 try go_wp2_with (first | ((with_reducible refine gate_dst (N := 3) rfl ?_); refine bx 3 #[.int .i64 0, .int .i64 0] 24 ?_; intro gb572 hg w9 hbox hb; have BK572 := am (hbox); have GW572 := am (bs hg (YA HB)); have GE572 := GW572; replace HB := am (below_step (YA HB) hb); clear hb hbox hg) | ((with_reducible refine gate_dst (N := 4) rfl ?_); refine bx 4 #[.int .i64 0, .int .i64 0] 24 ?_; intro gb573 hg w10 hbox hb; have BK573 := am (hbox); have GW573 := am (bs hg (YA HB)); have GE573 := GW573; obtain ⟨NB572_573,NB573_572⟩ := ne_ hg BK572; obtain ⟨BK572, HB⟩ := bk1 BK572 HB hb; clear hb hbox hg) | ((with_reducible refine gate_callee (f := 56) rfl ?_); refine goesL_ (some 9) rfl rfl Try.func56 (by kernel_rfl) rfl #[.slice A0 l0.length c0] rfl mz ?_; (with_reducible refine (spec_l1Open.calls _ _ l0 t574 t575 w _ ?side1 ?side2 ?side3 A2.out).mono ?_); (case side1 => repeat (first | (with_reducible first | exact HB.out | apply below_alloc | apply pw_below_drewN | apply below_drew1 | refine below_set ?_ GE572.out | refine below_set ?_ GE573.out) | exact HB.out)); (case side2 => exact HR0.out); (case side3 => exact HC0.out); rintro e w11 ⟨g576, rfl, hi, hb, hb2⟩; refine ⟨_, rfl, ?_⟩; have HI576 := am (hi); have NB576_572 := am (IsS99.ne_blk hi (blk_below (g := gb572) (o := b2 0 0 24) (Z BK572) hb2) (by decide)); have NB572_576 := am (Ne.symm (IsS99.ne_blk hi (blk_below (g := gb572) (o := b2 0 0 24) (Z BK572) hb2) (by decide))); have NB576_573 := am (IsS99.ne_blk hi (blk_below (g := gb573) (o := b2 0 0 24) (Z BK573) hb2) (by decide)); have NB573_576 := am (Ne.symm (IsS99.ne_blk hi (blk_below (g := gb573) (o := b2 0 0 24) (Z BK573) hb2) (by decide))); replace BK572 := am (blk_below (g := gb572) (o := b2 0 0 24) (Z BK572) hb2); replace BK573 := am (blk_below (g := gb573) (o := b2 0 0 24) (Z BK573) hb2); replace HB := am (hb); (try clear hb)) | ((with_reducible refine gate_callee (f := 57) rfl ?_); refine goesL_ (some 11) rfl rfl Try.func57 (by kernel_rfl) rfl #[.pointer (some ⟨g576, 0, none⟩), .int .i64 13] rfl mz ?_; (with_reducible refine (spec_l1Rd_pick.calls k g576 t574 t575 13 t577 t578 w _ ?side1 ?side2 A3.out).mono ?_); (case side1 => repeat (first | (with_reducible first | exact HI576.out | apply IsS99.alloc | apply IsS99.drewN | apply IsS99.drew | apply IsS99.set_1 | refine IsS99.far ?_ NB576_572.out _ | refine IsS99.far ?_ NB576_573.out _) | exact HI576.out)); (case side2 => repeat (first | (with_reducible first | exact HB.out | apply below_alloc | apply pw_below_drewN | apply below_drew1 | refine below_set ?_ (IsS99.ge HI576.out) | refine below_set ?_ GE572.out | refine below_set ?_ GE573.out) | exact HB.out)); rintro e w12 ⟨rfl, hi, hb, hk⟩; refine ⟨_, rfl, ?_⟩; replace BK572 := am (KeepBut.blk hk (g' := gb572) (o := b2 0 0 24) (Z BK572) NB572_576.out (by simp)); replace BK573 := am (KeepBut.blk hk (g' := gb573) (o := b2 0 0 24) (Z BK573) NB573_576.out (by simp)); replace HB := am (hb); replace HI576 := am (hi); (try clear hb)) | ((with_reducible refine gate_callee (f := 57) rfl ?_); refine goesL_ (some 14) rfl rfl Try.func57 (by kernel_rfl) rfl #[.pointer (some ⟨g576, 0, none⟩), .int .i64 30] rfl mz ?_; (with_reducible refine (spec_l1Rd_pick.calls k g576 t574 t578 30 t579 t580 w _ ?side1 ?side2 A4.out).mono ?_); (case side1 => repeat (first | (with_reducible first | exact HI576.out | apply IsS99.alloc | apply IsS99.drewN | apply IsS99.drew | apply IsS99.set_1 | refine IsS99.far ?_ NB576_572.out _ | refine IsS99.far ?_ NB576_573.out _) | exact HI576.out)); (case side2 => repeat (first | (with_reducible first | exact HB.out | apply below_alloc | apply pw_below_drewN | apply below_drew1 | refine below_set ?_ (IsS99.ge HI576.out) | refine below_set ?_ GE572.out | refine below_set ?_ GE573.out) | exact HB.out)); rintro e w13 ⟨rfl, hi, hb, hk⟩; refine ⟨_, rfl, ?_⟩; replace BK572 := am (KeepBut.blk hk (g' := gb572) (o := b2 0 0 24) (Z BK572) NB572_576.out (by simp)); replace BK573 := am (KeepBut.blk hk (g' := gb573) (o := b2 0 0 24) (Z BK573) NB573_576.out (by simp)); replace HB := am (hb); replace HI576 := am (hi); (try clear hb)) | ((with_reducible refine gate_callee (f := 57) rfl ?_); refine goesL_ (some 17) rfl rfl Try.func57 (by kernel_rfl) rfl #[.pointer (some ⟨g576, 0, none⟩), .int .i64 16] rfl mz ?_; (with_reducible refine (spec_l1Rd_pick.calls k g576 t574 t580 16 t581 t582 w _ ?side1 ?side2 A6.out).mono ?_); (case side1 => repeat (first | (with_reducible first | exact HI576.out | apply IsS99.alloc | apply IsS99.drewN | apply IsS99.drew | apply IsS99.set_1 | refine IsS99.far ?_ NB576_572.out _ | refine IsS99.far ?_ NB576_573.out _) | exact HI576.out)); (case side2 => repeat (first | (with_reducible first | exact HB.out | apply below_alloc | apply pw_below_drewN | apply below_drew1 | refine below_set ?_ (IsS99.ge HI576.out) | refine below_set ?_ GE572.out | refine below_set ?_ GE573.out) | exact HB.out)); rintro e w14 ⟨rfl, hi, hb, hk⟩; refine ⟨_, rfl, ?_⟩; replace BK572 := am (KeepBut.blk hk (g' := gb572) (o := b2 0 0 24) (Z BK572) NB572_576.out (by simp)); replace BK573 := am (KeepBut.blk hk (g' := gb573) (o := b2 0 0 24) (Z BK573) NB573_576.out (by simp)); replace HB := am (hb); replace HI576 := am (hi); (try clear hb)) | ((with_reducible refine gate_callee (f := 65) rfl ?_); refine goesL_ (some 20) rfl rfl Try.func65 (by kernel_rfl) rfl #[.pointer (some ⟨g576, 0, none⟩)] rfl mz ?_; (with_reducible refine (spec_l8Wild.calls k g576 t574 t582 t583 t584 t585 w _ ?side1 ?side2 A7.out).mono ?_); (case side1 => repeat (first | (with_reducible first | exact HI576.out | apply IsS99.alloc | apply IsS99.drewN | apply IsS99.drew | apply IsS99.set_1 | refine IsS99.far ?_ NB576_572.out _ | refine IsS99.far ?_ NB576_573.out _) | exact HI576.out)); (case side2 => repeat (first | (with_reducible first | exact HB.out | apply below_alloc | apply pw_below_drewN | apply below_drew1 | refine below_set ?_ (IsS99.ge HI576.out) | refine below_set ?_ GE572.out | refine below_set ?_ GE573.out) | exact HB.out)); rintro e w15 ⟨rfl, hi, hb, hk⟩; refine ⟨_, rfl, ?_⟩; replace BK572 := am (KeepBut.blk hk (g' := gb572) (o := b2 0 0 24) (Z BK572) NB572_576.out (by simp)); replace BK573 := am (KeepBut.blk hk (g' := gb573) (o := b2 0 0 24) (Z BK573) NB573_576.out (by simp)); replace HB := am (hb); replace HI576 := am (hi); (try clear hb)) | ((with_reducible refine gate_dst (N := 7) rfl ?_); refine bx 7 #[.int .i64 0, .int .i64 0] 24 ?_; intro gb586 hg w16 hbox hb; have BK586 := am (hbox); have GW586 := am ((by rw [hg]; exact (below_size (by repeat (first | (with_reducible first | exact HB.out | apply below_alloc | apply pw_below_drewN | apply below_drew1 | refine below_set ?_ (IsS99.ge HI576.out) | refine below_set ?_ GE572.out | refine below_set ?_ GE573.out) | exact HB.out))) : w.heap.size ≤ gb586)); have GE586 := am ((by rw [hg]; exact (below_size (by repeat (first | (with_reducible first | exact HB.out | apply below_alloc | apply pw_below_drewN | apply below_drew1 | refine below_set ?_ (IsS99.ge HI576.out) | refine below_set ?_ GE572.out | refine below_set ?_ GE573.out) | exact HB.out))) : w.heap.size ≤ gb586)); obtain ⟨NB572_586,NB586_572⟩ := ne_ hg BK572; obtain ⟨NB573_586,NB586_573⟩ := ne_ hg BK573; have NB576_586 := am ((by rw [hg]; exact Nat.ne_of_lt (IsS99.lt (show IsS99 w _ g576 t574 t585 from by repeat (first | (with_reducible first | exact HI576.out | apply IsS99.alloc | apply IsS99.drewN | apply IsS99.drew | apply IsS99.set_1 | refine IsS99.far ?_ NB576_572.out _ | refine IsS99.far ?_ NB576_573.out _) | exact HI576.out))) : g576 ≠ gb586)); have NB586_576 := am ((by rw [hg]; exact Nat.ne_of_gt (IsS99.lt (show IsS99 w _ g576 t574 t585 from by repeat (first | (with_reducible first | exact HI576.out | apply IsS99.alloc | apply IsS99.drewN | apply IsS99.drew | apply IsS99.set_1 | refine IsS99.far ?_ NB576_572.out _ | refine IsS99.far ?_ NB576_573.out _) | exact HI576.out))) : gb586 ≠ g576)); replace BK572 := bb BK572 hb; replace BK573 := bb BK573 hb; replace HB := am (below_step (by repeat (first | (with_reducible first | exact HB.out | apply below_alloc | apply pw_below_drewN | apply below_drew1 | refine below_set ?_ (IsS99.ge HI576.out) | refine below_set ?_ GE572.out | refine below_set ?_ GE573.out) | exact HB.out)) hb); replace HI576 := am (IsS99.below (by repeat (first | (with_reducible first | exact HI576.out | apply IsS99.alloc | apply IsS99.drewN | apply IsS99.drew | apply IsS99.set_1 | refine IsS99.far ?_ NB576_572.out _ | refine IsS99.far ?_ NB576_573.out _) | exact HI576.out)) hb); clear hb hbox hg; obtain ⟨hnb17,hnc17⟩ := nn NB586_572; obtain ⟨hnb18,hnc18⟩ := nn NB586_573; obtain ⟨hnb19,hnc19⟩ := nn NB586_576; obtain ⟨hcz20_0,hcz20_1,hfz20_0,hfz20_1⟩ := cB2 BK586))
 have n0_ : Aside0 (((w16.setCell ⟨gb586, 0, none⟩ (.int .i64 t583)).setCell ⟨gb586, 1, none⟩ (.int .i64 t584)).heap[gb572]? = some (.cells #[.int .i64 0, .int .i64 0] 24 (0, 0))) := ⟨by refine fa NB572_586 ?_; refine fa NB572_586 ?_; exact Z BK572⟩
 have n1_ : Aside0 (((w16.setCell ⟨gb586, 0, none⟩ (.int .i64 t583)).setCell ⟨gb586, 1, none⟩ (.int .i64 t584)).heap[gb573]? = some (.cells #[.int .i64 0, .int .i64 0] 24 (0, 0))) := ⟨by refine fa NB573_586 ?_; refine fa NB573_586 ?_; exact Z BK573⟩
 have n2_ : Aside0 (((w16.setCell ⟨gb586, 0, none⟩ (.int .i64 t583)).setCell ⟨gb586, 1, none⟩ (.int .i64 t584)).heap[gb586]? = some (.cells #[.int .i64 t583, .int .i64 t584] 24 (0, 0))) := ⟨by refine pf ?_; refine blk_put (cs := #[.int .i64 t583, .int .i64 0]) ?_ 1 _ rfl; refine pf ?_; refine blk_put (cs := #[.int .i64 0, .int .i64 0]) ?_ 0 _ rfl; exact Z BK586⟩
 have n3_ : Aside0 (IsS99 w ((w16.setCell ⟨gb586, 0, none⟩ (.int .i64 t583)).setCell ⟨gb586, 1, none⟩ (.int .i64 t584)) g576 t574 t585) := ⟨by repeat (first | (with_reducible first | exact HI576.out | apply IsS99.alloc | apply IsS99.drewN | apply IsS99.drew | apply IsS99.set_1 | refine IsS99.far ?_ NB576_572.out _ | refine IsS99.far ?_ NB576_573.out _ | refine IsS99.far ?_ NB576_586.out _) | exact HI576.out)⟩
 have n4_ : Aside0 (Below w.heap.size w ((w16.setCell ⟨gb586, 0, none⟩ (.int .i64 t583)).setCell ⟨gb586, 1, none⟩ (.int .i64 t584))) := ⟨by repeat (first | (with_reducible first | exact HB.out | apply below_alloc | apply pw_below_drewN | apply below_drew1 | refine below_set ?_ (IsS99.ge HI576.out) | refine below_set ?_ GE572.out | refine below_set ?_ GE573.out | refine below_set ?_ GE586.out) | exact HB.out)⟩
 (try clear BK572)
 (try clear BK573)
 (try clear BK586)
 (try clear HI576)
 (try clear HB)
 generalize ((w16.setCell ⟨gb586, 0, none⟩ (.int .i64 t583)).setCell ⟨gb586, 1, none⟩ (.int .i64 t584)) = w21 at n0_ n1_ n2_ n3_ n4_ ⊢
 have BK572 := n0_
 have BK573 := n1_
 have BK586 := n2_
 have HI576 := n3_
 have HB := n4_
 clear n0_ n1_ n2_ n3_ n4_
 replace BK572 := am (blk_drew BK572.out)
 replace BK573 := am (blk_drew BK573.out)
 replace BK586 := am (blk_drew BK586.out)
 replace HI576 := am (IsS99.drew HI576.out)
 replace HB := am (below_drew1 HB.out)
 refine start_ (n := 8) (S := fun w' => w'.cell? ⟨gb586, 0, none⟩ = some (.int .i64 t583) ∧ w'.cell? ⟨gb586, 1, none⟩ = some (.int .i64 t584)) (ds := []) (lb 8 0) (by kernel_rfl) rfl rfl ⟨bc BK586 0, bc BK586 1⟩ (fun hHeld => ?_); refine with_tabW spec_DrawRangeDo.tab6 spec_DrawRangeDo.bits6 (fun HT_ HW_ => ?_)
 generalize w21.drew = w22 at BK572 BK573 BK586 HI576 HB hHeld ⊢
 refine pk 0 21 1 ?_
 refine pk 2 23 5 ?_
 refine pk 3 24 13 ?_
 refine tk 1 22 15 hHeld ?_
 refine on 4 (some 25) 31 fun K hK => ?_
 refine goes_ Try.func66 (by kernel_rfl) rfl #[.pointer (some ⟨g576, 0, none⟩), .int .i64 (wrap64 (t581 - 1))] (by rfl) rfl rfl mz ?_
 with_reducible refine (spec_l8Shift.calls k g576 t574 t585 (wrap64 (t581 - 1)) t587 t588 t589 w _ ?side1 ?side2 A8.out).mono ?_
 (case side1 => repeat (first | (with_reducible first | exact HI576.out | apply IsS99.alloc | apply IsS99.drewN | apply IsS99.drew | apply IsS99.set_1 | refine IsS99.far ?_ NB576_572.out _ | refine IsS99.far ?_ NB576_573.out _ | refine IsS99.far ?_ NB576_586.out _) | exact HI576.out))
 (case side2 => repeat (first | (with_reducible first | exact HB.out | apply below_alloc | apply pw_below_drewN | apply below_drew1 | refine below_set ?_ (IsS99.ge HI576.out) | refine below_set ?_ GE572.out | refine below_set ?_ GE573.out | refine below_set ?_ GE586.out) | exact HB.out))
 rintro e w23 ⟨rfl, hi, hb, hk⟩
 refine ⟨_, rfl, ?_⟩
 replace BK572 := am (KeepBut.blk hk (g' := gb572) (o := b2 0 0 24) (Z BK572) NB572_576.out (by simp))
 replace BK573 := am (KeepBut.blk hk (g' := gb573) (o := b2 0 0 24) (Z BK573) NB573_576.out (by simp))
 replace BK586 := am (KeepBut.blk hk (g' := gb586) (o := b2 t583 t584 24) (Z BK586) NB586_576.out (by simp))
 replace HB := am (hb)
 replace HI576 := am (hi)
 (try clear hb)
 (try clear hb2)
 (try clear hk)
 (try clear hi)
 refine kk hK ⟨bc BK586 0, bc BK586 1⟩ fun hHeld => ?_
 clear hK K
 refine pk 5 2 63 ?_
 refine on 6 none 127 fun K hK => ?_
 have hs24 : w23.cell? ⟨gb572, 0, none⟩ = some (.int .i64 0) := bc BK572 0
 have hfs24 := blk_frozen BK572.out 0
 have hns24_1 := NB573_572.out
 have hns24_2 := NB586_572.out
 have hms24_1 := NB572_573.out
 have hms24_2 := NB572_586.out
 have hs25 : w23.cell? ⟨gb572, 1, none⟩ = some (.int .i64 0) := bc BK572 1
 have hfs25 := blk_frozen BK572.out 1
 have hns25_1 := NB573_572.out
 have hns25_2 := NB586_572.out
 have hms25_1 := NB572_573.out
 have hms25_2 := NB572_586.out
 refine skip_ (w1 := ?_) (by rfl) rfl ?_ ?_
 rotate_left
 ·go_simp
  rfl
 refine hK.out _ _ ⟨((cell_far (p := ⟨gb572, _, none⟩) NB586_572.out _).trans (((cell_far (p := ⟨gb572, _, none⟩) NB586_572.out _).trans (hHeld.1)))), ((cell_far (p := ⟨gb572, _, none⟩) NB586_572.out _).trans (((cell_far (p := ⟨gb572, _, none⟩) NB586_572.out _).trans (hHeld.2))))⟩ (fun hHeld => ?_)
 clear hK K
 refine on 7 none 255 fun K hK => ?_
 have hs26 : w23.cell? ⟨gb573, 0, none⟩ = some (.int .i64 0) := bc BK573 0
 have hfs26 := blk_frozen BK573.out 0
 have hns26_0 := NB572_573.out
 have hns26_2 := NB586_573.out
 have hms26_0 := NB573_572.out
 have hms26_2 := NB573_586.out
 have hs27 : w23.cell? ⟨gb573, 1, none⟩ = some (.int .i64 0) := bc BK573 1
 have hfs27 := blk_frozen BK573.out 1
 have hns27_0 := NB572_573.out
 have hns27_2 := NB586_573.out
 have hms27_0 := NB573_572.out
 have hms27_2 := NB573_586.out
 refine skip_ (w1 := ?_) (by rfl) rfl ?_ ?_
 rotate_left
 ·go_simp
  rfl
 refine hK.out _ _ ⟨((cell_far (p := ⟨gb573, _, none⟩) NB586_573.out _).trans (((cell_far (p := ⟨gb573, _, none⟩) NB586_573.out _).trans (hHeld.1)))), ((cell_far (p := ⟨gb573, _, none⟩) NB586_573.out _).trans (((cell_far (p := ⟨gb573, _, none⟩) NB586_573.out _).trans (hHeld.2))))⟩ (fun hHeld => ?_)
 clear hK K
 refine done_ (done_of HT_.out (by kernel_rfl)) ?_
 try go_wp2
 refine bodyPost_ret (results_list (rs := [.tmp 2, .cell 3 24, .cell 4 24]) rfl (by simp) (.tmp (.cell gb572 24 #[.int .i64 t583, .int .i64 t584] (0, 0) _ rfl (by refine fa NB572_573 ?_; refine fa NB572_573 ?_; refine pf ?_; refine blk_put (cs := #[.int .i64 t583, .int .i64 0]) ?_ 1 _ rfl; refine pf ?_; refine blk_put (cs := #[.int .i64 0, .int .i64 0]) ?_ 0 _ rfl; exact Z BK572) Try.underlying24 rfl (by kernel_rfl) (.cell gb573 24 #[.int .i64 t587, .int .i64 t588] (0, 0) _ rfl (by refine pf ?_; refine blk_put (cs := #[.int .i64 t587, .int .i64 0]) ?_ 1 _ rfl; refine pf ?_; refine blk_put (cs := #[.int .i64 0, .int .i64 0]) ?_ 0 _ rfl; refine fa NB573_572 ?_; refine fa NB573_572 ?_; exact Z BK573) Try.underlying24 rfl (by kernel_rfl) .nil)))) rfl ?_
 exact ⟨ez, by repeat (first | (with_reducible first | exact HB.out | apply below_alloc | apply pw_below_drewN | apply below_drew1 | refine below_set ?_ (IsS99.ge HI576.out) | refine below_set ?_ GE572.out | refine below_set ?_ GE573.out | refine below_set ?_ GE586.out) | exact HB.out)⟩

end Go.Proofs.Ythbkakcchgnhpaa.PFnRangeFaults
