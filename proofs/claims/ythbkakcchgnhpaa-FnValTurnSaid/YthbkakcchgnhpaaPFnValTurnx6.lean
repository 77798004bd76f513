/- Written by this session's own driver (wip/dprint.py): the functions that the law FnValTurn reaches, as Lean functions, each with its contract. -/
import Derived.Test.YthbkakcchgnhpaaPFnValTurnx0
import Derived.Test.YthbkakcchgnhpaaPFnValTurnx1
import Derived.Test.YthbkakcchgnhpaaPFnValTurnx4
import Derived.Test.YthbkakcchgnhpaaPFnValTurnx5
import Derived.Test.YthbkakcchgnhpaaSv
import Derived.Test.YthbkakcchgnhpaaPFnValTurnx3
import Derived.Test.YthbkakcchgnhpaaPFnValTurnx2
namespace Go.Proofs.Ythbkakcchgnhpaa.PFnValTurn
open Go.RowKit Go.Proofs.YthbkakcchgnhpaaV.PrintWords Go.Proofs.YthbkakcchgnhpaaV.PrintLast Go.Proofs.YthbkakcchgnhpaaV.PrintMore Go.Proofs.YthbkakcchgnhpaaSv
set_option linter.unusedVariables false
set_option linter.unusedSimpArgs false
section
attribute [local go_sem] max2_int min2_int max_two min_two max_three min_three max_four min_four
attribute [local go_sem high] eqA50
attribute [local go_sem] Go.Proofs.YthbkakcchgnhpaaSet.isSome_setCell
mutual
def spec_l10Two.j0 : Nat → Bool → List Int → Int → Int → Int → Int → Int → Int → Int → Int → Int → Option (Int × Int × Int × Int × Int × Int × Int × Int × Int)
 | 0, _, _, _, _, _, _, _, _, _, _, _ => none
 | k + 1, x1, x2, x3, x4, x5, x6, x7, x8, x9, x10, x11 => if x1 = true then ((spec_l1Rd_pick.f k x2 x3 9).bind fun u1 => ((spec_l1Rd_pick.f k x2 u1.2 9).bind fun u2 => ((spec_l8Cut.f (wrap64 ((wrap64 (x4 + u1.1)) - 4)) (wrap64 ((wrap64 (x5 + u2.1)) - 4))).bind fun u3 => ((spec_l9Rest.f k x2 u2.2).bind fun u4 => ((spec_ValMake.f k u3.1 u3.2 u4.1 u4.2.1).bind fun u5 => (spec_l10Two.j1 k x2 u4.2.2 x4 x5 x6 x7 u5.1 u5.2.1 u5.2.2.1 u5.2.2.2)))))) else (spec_l10Two.j1 k x2 x3 x4 x5 x6 x7 x8 x9 x10 x11)
def spec_l10Two.j1 : Nat → List Int → Int → Int → Int → Int → Int → Int → Int → Int → Int → Option (Int × Int × Int × Int × Int × Int × Int × Int × Int)
 | 0, _, _, _, _, _, _, _, _, _, _ => none
 | k + 1, x1, x2, x3, x4, x5, x6, x7, x8, x9, x10 => (spec_l1Rd_pick.f k x1 x2 4).bind fun u1 => (if u1.1 = 0 then ((spec_ValOk.f k x3 x4 x5 x6).bind fun t1 => (if t1 = true then ((spec_l10None.f).bind fun u2 => (spec_l10Two.j2 k (!(x3 == u2.1) || (!(x4 == u2.2.1) || (!(x5 == u2.2.2.1) || (!(x6 == u2.2.2.2))))) x1 u1.2 x3 x4 x5 x6 x7 x8 x9 x10)) else (spec_l10Two.j2 k false x1 u1.2 x3 x4 x5 x6 x7 x8 x9 x10))) else (spec_l10Two.j2 k false x1 u1.2 x3 x4 x5 x6 x7 x8 x9 x10))
def spec_l10Two.j2 : Nat → Bool → List Int → Int → Int → Int → Int → Int → Int → Int → Int → Int → Option (Int × Int × Int × Int × Int × Int × Int × Int × Int)
 | 0, _, _, _, _, _, _, _, _, _, _, _ => none
 | k + 1, x1, x2, x3, x4, x5, x6, x7, x8, x9, x10, x11 => if x1 = true then ((spec_l1Rd_pick.f k x2 x3 9).bind fun u1 => ((spec_l1Rd_pick.f k x2 u1.2 9).bind fun u2 => ((spec_l8Cut.f (wrap64 (x4 - u1.1)) (wrap64 (x5 + u2.1))).bind fun u3 => ((spec_l10Rest.f x4 x5 x6 x7).bind fun u4 => ((spec_ValMake.f k u3.1 u3.2 u4.1 u4.2).bind fun u5 => (some (x4, x5, x6, x7, u5.1, u5.2.1, u5.2.2.1, u5.2.2.2, u2.2))))))) else (some (x4, x5, x6, x7, x8, x9, x10, x11, x3))
end
def spec_l10Two.f (k : Nat) (s0_0 : List Int) (s0_1 : Int) : Option (Int × Int × Int × Int × Int × Int × Int × Int × Int) := (spec_l10Wild.f k s0_0 s0_1).bind fun u1 => ((spec_l10Wild.f k s0_0 u1.2.2.2.2).bind fun u2 => ((spec_l1Rd_pick.f k s0_0 u2.2.2.2.2 3).bind fun u3 => (if u3.1 = 0 then ((spec_ValOk.f k u1.1 u1.2.1 u1.2.2.1 u1.2.2.2.1).bind fun t1 => (if t1 = true then ((spec_l10None.f).bind fun u4 => (spec_l10Two.j0 k (!(u1.1 == u4.1) || (!(u1.2.1 == u4.2.1) || (!(u1.2.2.1 == u4.2.2.1) || (!(u1.2.2.2.1 == u4.2.2.2))))) s0_0 u3.2 u1.1 u1.2.1 u1.2.2.1 u1.2.2.2.1 u2.1 u2.2.1 u2.2.2.1 u2.2.2.2.1)) else (spec_l10Two.j0 k false s0_0 u3.2 u1.1 u1.2.1 u1.2.2.1 u1.2.2.2.1 u2.1 u2.2.1 u2.2.2.1 u2.2.2.2.1))) else (spec_l10Two.j0 k false s0_0 u3.2 u1.1 u1.2.1 u1.2.2.1 u1.2.2.2.1 u2.1 u2.2.1 u2.2.2.1 u2.2.2.2.1))))
theorem spec_l10Two.mono_l : ∀ k, (∀ y0 y1 y2 y3 y4 y5 y6 y7 y8 y9 y10, LeO (spec_l10Two.j0 k y0 y1 y2 y3 y4 y5 y6 y7 y8 y9 y10) (spec_l10Two.j0 (k + 1) y0 y1 y2 y3 y4 y5 y6 y7 y8 y9 y10)) ∧ (∀ y0 y1 y2 y3 y4 y5 y6 y7 y8 y9, LeO (spec_l10Two.j1 k y0 y1 y2 y3 y4 y5 y6 y7 y8 y9) (spec_l10Two.j1 (k + 1) y0 y1 y2 y3 y4 y5 y6 y7 y8 y9)) ∧ (∀ y0 y1 y2 y3 y4 y5 y6 y7 y8 y9 y10, LeO (spec_l10Two.j2 k y0 y1 y2 y3 y4 y5 y6 y7 y8 y9 y10) (spec_l10Two.j2 (k + 1) y0 y1 y2 y3 y4 y5 y6 y7 y8 y9 y10))
 | 0 => ⟨fun _ _ _ _ _ _ _ _ _ _ _ r h => by simp [spec_l10Two.j0] at h, fun _ _ _ _ _ _ _ _ _ _ r h => by simp [spec_l10Two.j1] at h, fun _ _ _ _ _ _ _ _ _ _ _ r h => by simp [spec_l10Two.j2] at h⟩
 | k + 1 => by
  obtain ⟨ih0, ih1, ih2⟩ := spec_l10Two.mono_l k
  refine ⟨?_, ?_, ?_⟩ <;> (intros; (first | unfold spec_l10Two.j0 | unfold spec_l10Two.j1 | unfold spec_l10Two.j2); repeat' first | (with_reducible first | apply ih0 | apply ih1 | apply ih2 | apply spec_ValMake.mono | apply spec_ValOk.mono | apply spec_l10Wild.mono | apply spec_l1Rd_pick.mono | apply spec_l9Rest.mono | apply LeO.refl | apply LeO.none | refine LeO.ite ?_ ?_ | refine LeO.bind ?_ (fun _ => ?_)) | apply ih0 | apply ih1 | apply ih2 | apply spec_ValMake.mono | apply spec_ValOk.mono | apply spec_l10Wild.mono | apply spec_l1Rd_pick.mono | apply spec_l9Rest.mono | apply LeO.none | refine LeO.ite ?_ ?_ | refine LeO.bind ?_ (fun _ => ?_))
theorem spec_l10Two.mono : ∀ a0 a1 k, LeO (spec_l10Two.f k a0 a1) (spec_l10Two.f (k + 1) a0 a1) := by
 intro a0 a1 k
 obtain ⟨ih0, ih1, ih2⟩ := spec_l10Two.mono_l k
 unfold spec_l10Two.f
 repeat' first | (with_reducible first | apply ih0 | apply ih1 | apply ih2 | apply spec_ValMake.mono | apply spec_ValOk.mono | apply spec_l10Wild.mono | apply spec_l1Rd_pick.mono | apply spec_l9Rest.mono | apply LeO.refl | apply LeO.none | refine LeO.ite ?_ ?_ | refine LeO.bind ?_ (fun _ => ?_)) | apply ih0 | apply ih1 | apply ih2 | apply spec_ValMake.mono | apply spec_ValOk.mono | apply spec_l10Wild.mono | apply spec_l1Rd_pick.mono | apply spec_l9Rest.mono | apply LeO.none | refine LeO.ite ?_ ?_ | refine LeO.bind ?_ (fun _ => ?_)
def spec_l10Two.T3 : Bool × List (List Nat × List Nat) := (true, [([], []), ([0], [0]), ([1], [1]), ([2, 1], [2]), ([3], [3]), ([4, 3, 3], [3, 4]), ([3, 5], [3, 5]), ([6, 5], [6]), ([7], [7]), ([7, 7], [7]), ([8, 9, 7], [7, 8, 9]), ([7, 10], [7, 10])])
def spec_l10Two.B3 : List Nat := [0, 1, 3, 7, 15, 31, 63, 127, 255, 255, 1023, 2047]
theorem spec_l10Two.tab3 : rtab .any (opsOf Try.f83 3) = spec_l10Two.T3 := by kernel_rfl
theorem spec_l10Two.bits3 : waitsOk spec_l10Two.T3.2 spec_l10Two.B3 = true := by kernel_rfl
def spec_l10Two.T4 : Bool × List (List Nat × List Nat) := (true, [([], []), ([0], [0]), ([], []), ([2], [2]), ([1, 3], [1, 3]), ([4], [4]), ([], []), ([6], [6]), ([], []), ([8, 3], [8]), ([7, 9], [7, 9]), ([10], [10]), ([5, 11, 9], [5, 11]), ([], []), ([13, 12], [13]), ([12, 14, 14], [12, 14]), ([15, 15, 0, 1, 2, 3, 4, 5, 6, 7, 8, 9, 10, 11, 12, 13, 14, 15], [15])])
def spec_l10Two.B4 : List Nat := [0, 1, 0, 4, 15, 31, 0, 64, 0, 268, 972, 1996, 4095, 0, 16383, 32767, 65535]
theorem spec_l10Two.tab4 : rtab .any (opsOf Try.f83 4) = spec_l10Two.T4 := by kernel_rfl
theorem spec_l10Two.bits4 : waitsOk spec_l10Two.T4.2 spec_l10Two.B4 = true := by kernel_rfl
def spec_l10Two.T5 : Bool × List (List Nat × List Nat) := (true, [([], []), ([0], [0]), ([1], [1]), ([2, 1], [2]), ([3], [3]), ([4, 3, 3], [3, 4]), ([3, 5], [3, 5]), ([6, 5], [6]), ([7], [7]), ([7, 7], [7]), ([8, 9, 7], [7, 8, 9]), ([7, 10], [7, 10])])
def spec_l10Two.B5 : List Nat := [0, 1, 3, 7, 15, 31, 63, 127, 255, 255, 1023, 2047]
theorem spec_l10Two.tab5 : rtab .any (opsOf Try.f83 5) = spec_l10Two.T5 := by kernel_rfl
theorem spec_l10Two.bits5 : waitsOk spec_l10Two.T5.2 spec_l10Two.B5 = true := by kernel_rfl
def spec_l10Two.T6 : Bool × List (List Nat × List Nat) := (true, [([], []), ([0], [0]), ([], []), ([2], [2]), ([1, 3], [1, 3]), ([], []), ([5], [5]), ([], []), ([7, 3], [7]), ([6, 8], [6, 8]), ([4, 9, 8], [4, 9]), ([], []), ([11, 10], [11]), ([10, 12, 12], [10, 12]), ([13, 13, 0, 1, 2, 3, 4, 5, 6, 7, 8, 9, 10, 11, 12, 13], [13])])
def spec_l10Two.B6 : List Nat := [0, 1, 0, 4, 15, 0, 32, 0, 140, 492, 1023, 0, 4095, 8191, 16383]
theorem spec_l10Two.tab6 : rtab .any (opsOf Try.f83 6) = spec_l10Two.T6 := by kernel_rfl
theorem spec_l10Two.bits6 : waitsOk spec_l10Two.T6.2 spec_l10Two.B6 = true := by kernel_rfl
set_option maxHeartbeats 8000000 in
set_option maxRecDepth 100000 in
theorem spec_l10Two.calls (k : Nat) (g : Nat) (s0_0 : List Int) (s0_1 : Int) (r1 : Int) (r2 : Int) (r3 : Int) (r4 : Int) (r5 : Int) (r6 : Int) (r7 : Int) (r8 : Int) (r9 : Int) (w2 w : World) (hI : IsS99 w2 w g s0_0 s0_1) (hB : Below w2.heap.size w2 w) (h : spec_l10Two.f k s0_0 s0_1 = some (r1, r2, r3, r4, r5, r6, r7, r8, r9)) :
  Calls Try.prog 83 #[.pointer (some ⟨g, 0, none⟩)] w fun e w' => e = .returned (.tuple #[.agg #[.int .i64 r1, .int .i64 r2, .int .i64 r3, .int .i64 r4], .agg #[.int .i64 r5, .int .i64 r6, .int .i64 r7, .int .i64 r8]]) ∧ IsS99 w2 w' g s0_0 r9 ∧ Below w2.heap.size w2 w' ∧ KeepBut w w' g none := by
 have hu50 := Try.underlying50
 have I1 := am hI
 have HK := am (KeepBut.refl w g none)
 have HL := am hB.size
 clear hI
 have HW0 := am hB.size
 have HB := am hB
 clear hB
 have H : ((spec_l10Wild.f k s0_0 s0_1).bind fun u1 => ((spec_l10Wild.f k s0_0 u1.2.2.2.2).bind fun u2 => ((spec_l1Rd_pick.f k s0_0 u2.2.2.2.2 3).bind fun u3 => (if u3.1 = 0 then ((spec_ValOk.f k u1.1 u1.2.1 u1.2.2.1 u1.2.2.2.1).bind fun t1 => (if t1 = true then ((spec_l10None.f).bind fun u4 => (spec_l10Two.j0 k (!(u1.1 == u4.1) || (!(u1.2.1 == u4.2.1) || (!(u1.2.2.1 == u4.2.2.1) || (!(u1.2.2.2.1 == u4.2.2.2))))) s0_0 u3.2 u1.1 u1.2.1 u1.2.2.1 u1.2.2.2.1 u2.1 u2.2.1 u2.2.2.1 u2.2.2.2.1)) else (spec_l10Two.j0 k false s0_0 u3.2 u1.1 u1.2.1 u1.2.2.1 u1.2.2.2.1 u2.1 u2.2.1 u2.2.2.1 u2.2.2.2.1))) else (spec_l10Two.j0 k false s0_0 u3.2 u1.1 u1.2.1 u1.2.2.1 u1.2.2.2.1 u2.1 u2.2.1 u2.2.2.1 u2.2.2.2.1))))) = some (r1, r2, r3, r4, r5, r6, r7, r8, r9) := h
 clear h
 obtain ⟨⟨t2, t3, t4, t5, t6⟩, A1, H⟩ := bd H
 try dsimp only at H
 obtain ⟨⟨t7, t8, t9, t10, t11⟩, A2, H⟩ := bd H
 try dsimp only at H
 have C1 := am H
 clear H
 go_enter Try.func83, Try.ntmps83
 go_upto_region 3 with (first | ((with_reducible refine gate_dst (N := 2) rfl ?_); refine bx 2 #[.int .i64 0, .int .i64 0, .int .i64 0, .int .i64 0] 50 ?_; intro g1 hg w3 hbox hb; have K1 := am (hbox); have G1 := am ((by rw [hg]; exact (keep_size (w := w) (g := g) (row := none) (qs3)) : w.heap.size ≤ g1)); have G2 := am ((Nat.le_trans HW0.out (by rw [hg]; exact (keep_size (w := w) (g := g) (row := none) (qs3)) : w.heap.size ≤ g1) : w2.heap.size ≤ g1)); have N1 := am ((by rw [hg]; exact Nat.ne_of_lt (IsS99.lt (show IsS99 w2 _ g s0_0 s0_1 from qs2)) : g ≠ g1)); have N2 := am ((by rw [hg]; exact Nat.ne_of_gt (IsS99.lt (show IsS99 w2 _ g s0_0 s0_1 from qs2)) : g1 ≠ g)); replace HK := am (KeepBut.trans (qs3) (KeepBut.of_below hb g none) (.inl rfl)); replace HB := am (below_step (qs7) hb); replace I1 := am (IsS99.below (qs2) hb); clear hb hbox hg) | ((with_reducible refine gate_dst (N := 3) rfl ?_); refine bx 3 #[.int .i64 0, .int .i64 0, .int .i64 0, .int .i64 0] 50 ?_; intro g2 hg w4 hbox hb; have K2 := am (hbox); have G3 := am ((by rw [hg]; exact (keep_size (w := w) (g := g) (row := none) (qs5)) : w.heap.size ≤ g2)); have G4 := am ((Nat.le_trans HW0.out (by rw [hg]; exact (keep_size (w := w) (g := g) (row := none) (qs5)) : w.heap.size ≤ g2) : w2.heap.size ≤ g2)); obtain ⟨N3,N4⟩ := ne_ hg K1; have N5 := am ((by rw [hg]; exact Nat.ne_of_lt (IsS99.lt (show IsS99 w2 _ g s0_0 s0_1 from qs4)) : g ≠ g2)); have N6 := am ((by rw [hg]; exact Nat.ne_of_gt (IsS99.lt (show IsS99 w2 _ g s0_0 s0_1 from qs4)) : g2 ≠ g)); replace K1 := bb K1 hb; replace HK := am (KeepBut.trans (qs5) (KeepBut.of_below hb g none) (.inl rfl)); replace HB := am (below_step (qs6) hb); replace I1 := am (IsS99.below (qs4) hb); clear hb hbox hg) | ((with_reducible refine gate_callee (f := 114) rfl ?_); refine goesL_ (some 7) rfl rfl Try.func114 (by kernel_rfl) rfl #[.pointer (some ⟨g, 0, none⟩)] rfl mz ?_; (with_reducible refine (spec_l10Wild.calls k g s0_0 s0_1 t2 t3 t4 t5 t6 w2 _ ?side1 ?side2 A1.out).mono ?_); (case side1 => exact qs11); (case side2 => exact qs13); rintro e w5 ⟨rfl, hi, hb, hk⟩; refine ⟨_, rfl, ?_⟩; replace K1 := am (KeepBut.blk hk (g' := g1) (o := b4 0 0 0 0 50) (Z K1) N2.out (by simp)); replace K2 := am (KeepBut.blk hk (g' := g2) (o := b4 0 0 0 0 50) (Z K2) N6.out (by simp)); replace HK := am (KeepBut.trans (qs12) hk (.inl rfl)); replace HB := am (hb); replace I1 := am (hi); (try clear hb)) | ((with_reducible refine gate_dst (N := 4) rfl ?_); refine bx 4 #[.int .i64 0, .int .i64 0, .int .i64 0, .int .i64 0] 50 ?_; intro g3 hg w6 hbox hb; have K3 := am (hbox); have G5 := am ((by rw [hg]; exact (keep_size (w := w) (g := g) (row := none) (qs12)) : w.heap.size ≤ g3)); have G6 := am ((Nat.le_trans HW0.out (by rw [hg]; exact (keep_size (w := w) (g := g) (row := none) (qs12)) : w.heap.size ≤ g3) : w2.heap.size ≤ g3)); obtain ⟨N7,N8⟩ := ne_ hg K1; obtain ⟨N9,N10⟩ := ne_ hg K2; have N11 := am ((by rw [hg]; exact Nat.ne_of_lt (IsS99.lt (show IsS99 w2 _ g s0_0 t6 from qs11)) : g ≠ g3)); have N12 := am ((by rw [hg]; exact Nat.ne_of_gt (IsS99.lt (show IsS99 w2 _ g s0_0 t6 from qs11)) : g3 ≠ g)); replace K1 := bb K1 hb; replace K2 := bb K2 hb; replace HK := am (KeepBut.trans (qs12) (KeepBut.of_below hb g none) (.inl rfl)); replace HB := am (below_step (qs13) hb); replace I1 := am (IsS99.below (qs11) hb); clear hb hbox hg; have := ns3 N8 N10 N12; have := cB4 K3) | ((with_reducible refine gate_callee (f := 114) rfl ?_); refine goesL_ (some 9) rfl rfl Try.func114 (by kernel_rfl) rfl #[.pointer (some ⟨g, 0, none⟩)] rfl mz ?_; (with_reducible refine (spec_l10Wild.calls k g s0_0 t6 t7 t8 t9 t10 t11 w2 _ ?side1 ?side2 A2.out).mono ?_); (case side1 => exact qs17); (case side2 => exact qs21); rintro e w7 ⟨rfl, hi, hb, hk⟩; refine ⟨_, rfl, ?_⟩; replace K1 := am (KeepBut.blk hk (g' := g1) (o := b4 0 0 0 0 50) (ft N7 K1) N2.out (by simp)); replace K2 := am (KeepBut.blk hk (g' := g2) (o := b4 0 0 0 0 50) (ft N9 K2) N6.out (by simp)); replace K3 := am (KeepBut.blk hk (g' := g3) (o := b4 t2 t3 t4 t5 50) (by refine pf ?_; refine bp (ia4 t2 t3 t4 0) ?_ 3; refine pf ?_; refine bp (ia4 t2 t3 0 0) ?_ 2; refine pf ?_; refine bp (ia4 t2 0 0 0) ?_ 1; refine pf ?_; refine bp (ia4 0 0 0 0) ?_ 0; exact Z K3) N12.out (by simp)); replace HK := am (KeepBut.trans (qs18) hk (.inl rfl)); replace HB := am (hb); replace I1 := am (hi); (try clear hb)) | ((with_reducible refine gate_dst (N := 5) rfl ?_); refine bx 5 #[.int .i64 0, .int .i64 0, .int .i64 0, .int .i64 0] 50 ?_; intro g4 hg w8 hbox hb; have K4 := am (hbox); have G7 := am ((by rw [hg]; exact (keep_size (w := w) (g := g) (row := none) (qs18)) : w.heap.size ≤ g4)); have G8 := am ((Nat.le_trans HW0.out (by rw [hg]; exact (keep_size (w := w) (g := g) (row := none) (qs18)) : w.heap.size ≤ g4) : w2.heap.size ≤ g4)); obtain ⟨N13,N14⟩ := ne_ hg K1; obtain ⟨N15,N16⟩ := ne_ hg K2; obtain ⟨N17,N18⟩ := ne_ hg K3; have N19 := am ((by rw [hg]; exact Nat.ne_of_lt (IsS99.lt (show IsS99 w2 _ g s0_0 t11 from qs17)) : g ≠ g4)); have N20 := am ((by rw [hg]; exact Nat.ne_of_gt (IsS99.lt (show IsS99 w2 _ g s0_0 t11 from qs17)) : g4 ≠ g)); replace K1 := bb K1 hb; replace K2 := bb K2 hb; replace K3 := bb K3 hb; replace HK := am (KeepBut.trans (qs18) (KeepBut.of_below hb g none) (.inl rfl)); replace HB := am (below_step (qs21) hb); replace I1 := am (IsS99.below (qs17) hb); clear hb hbox hg; have := ns4 N14 N16 N18 N20; have := cB4 K4))
 (try simp only [Act.put, List.setIfInBounds_toArray, List.set_cons_zero, List.set_cons_succ])
 go_cut [21] (fun v1 wc => ∃ (kq : Nat) (x1 : Bool) (x2 : Int), v1 = .bool x1 ∧ Aside0 (spec_l10Two.j0 kq x1 s0_0 x2 t2 t3 t4 t5 t7 t8 t9 t10 = some (r1, r2, r3, r4, r5, r6, r7, r8, r9)) ∧ Aside0 (kq ≤ k) ∧ Bx4 wc g1 0 0 0 0 50 ∧ Bx4 wc g2 0 0 0 0 50 ∧ Bx4 wc g3 t2 t3 t4 t5 50 ∧ Bx4 wc g4 t7 t8 t9 t10 50 ∧ Aside0 (IsS99 w2 wc g s0_0 x2) ∧ Aside0 (KeepBut w wc g none) ∧ Aside0 (Below w2.heap.size w2 wc))
 case first =>
  have H := C1.out
  clear C1
  obtain ⟨⟨t12, t13⟩, A3, H⟩ := bd H
  try dsimp only at H
  by_cases c1 : t12 = 0
  rotate_left
  ·rw [if_neg c1] at H
   have d1 := eF c1
   have d2 := nT c1
   (first | rw [d1] | (simp only [i64_w, i32_w]; rw [d1]) | skip)
   have H' := am H
   clear H
   try go_wp2
   have n0_ : Aside0 (((((w8.setCell ⟨g4, 0, none⟩ (.int .i64 t7)).setCell ⟨g4, 1, none⟩ (.int .i64 t8)).setCell ⟨g4, 2, none⟩ (.int .i64 t9)).setCell ⟨g4, 3, none⟩ (.int .i64 t10)).heap[g1]? = some (.cells #[.int .i64 0, .int .i64 0, .int .i64 0, .int .i64 0] 50 (0, 0))) := ⟨ft N13 K1⟩
   have n1_ : Aside0 (((((w8.setCell ⟨g4, 0, none⟩ (.int .i64 t7)).setCell ⟨g4, 1, none⟩ (.int .i64 t8)).setCell ⟨g4, 2, none⟩ (.int .i64 t9)).setCell ⟨g4, 3, none⟩ (.int .i64 t10)).heap[g2]? = some (.cells #[.int .i64 0, .int .i64 0, .int .i64 0, .int .i64 0] 50 (0, 0))) := ⟨ft N15 K2⟩
   have n2_ : Aside0 (((((w8.setCell ⟨g4, 0, none⟩ (.int .i64 t7)).setCell ⟨g4, 1, none⟩ (.int .i64 t8)).setCell ⟨g4, 2, none⟩ (.int .i64 t9)).setCell ⟨g4, 3, none⟩ (.int .i64 t10)).heap[g3]? = some (.cells #[.int .i64 t2, .int .i64 t3, .int .i64 t4, .int .i64 t5] 50 (0, 0))) := ⟨ft N17 K3⟩
   have n3_ : Aside0 (((((w8.setCell ⟨g4, 0, none⟩ (.int .i64 t7)).setCell ⟨g4, 1, none⟩ (.int .i64 t8)).setCell ⟨g4, 2, none⟩ (.int .i64 t9)).setCell ⟨g4, 3, none⟩ (.int .i64 t10)).heap[g4]? = some (.cells #[.int .i64 t7, .int .i64 t8, .int .i64 t9, .int .i64 t10] 50 (0, 0))) := ⟨by refine pf ?_; refine bp (ia4 t7 t8 t9 0) ?_ 3; refine pf ?_; refine bp (ia4 t7 t8 0 0) ?_ 2; refine pf ?_; refine bp (ia4 t7 0 0 0) ?_ 1; refine pf ?_; refine bp (ia4 0 0 0 0) ?_ 0; exact Z K4⟩
   have n4_ : Aside0 (IsS99 w2 ((((w8.setCell ⟨g4, 0, none⟩ (.int .i64 t7)).setCell ⟨g4, 1, none⟩ (.int .i64 t8)).setCell ⟨g4, 2, none⟩ (.int .i64 t9)).setCell ⟨g4, 3, none⟩ (.int .i64 t10)) g s0_0 t11) := ⟨qs8⟩
   have n5_ : Aside0 (KeepBut w ((((w8.setCell ⟨g4, 0, none⟩ (.int .i64 t7)).setCell ⟨g4, 1, none⟩ (.int .i64 t8)).setCell ⟨g4, 2, none⟩ (.int .i64 t9)).setCell ⟨g4, 3, none⟩ (.int .i64 t10)) g none) := ⟨qs9⟩
   have n6_ : Aside0 (Below w2.heap.size w2 ((((w8.setCell ⟨g4, 0, none⟩ (.int .i64 t7)).setCell ⟨g4, 1, none⟩ (.int .i64 t8)).setCell ⟨g4, 2, none⟩ (.int .i64 t9)).setCell ⟨g4, 3, none⟩ (.int .i64 t10))) := ⟨qs10⟩
   (try clear K1)
   (try clear K2)
   (try clear K3)
   (try clear K4)
   (try clear I1)
   (try clear HK)
   (try clear HB)
   generalize ((((w8.setCell ⟨g4, 0, none⟩ (.int .i64 t7)).setCell ⟨g4, 1, none⟩ (.int .i64 t8)).setCell ⟨g4, 2, none⟩ (.int .i64 t9)).setCell ⟨g4, 3, none⟩ (.int .i64 t10)) = w9 at n0_ n1_ n2_ n3_ n4_ n5_ n6_ ⊢
   have K1 := n0_
   have K2 := n1_
   have K3 := n2_
   have K4 := n3_
   have I1 := n4_
   have HK := n5_
   have HB := n6_
   clear n0_ n1_ n2_ n3_ n4_ n5_ n6_
   replace K1 := am (blk_drew K1.out)
   replace K2 := am (blk_drew K2.out)
   replace K3 := am (blk_drew K3.out)
   replace K4 := am (blk_drew K4.out)
   replace I1 := am (IsS99.drew I1.out)
   replace HK := am (keep_drew HK.out)
   replace HB := am (below_drew1 HB.out)
   refine start_ (n := 12) (S := fun w' => True) (ds := []) (lb 12 0) (by kernel_rfl) rfl rfl trivial (fun hHeld => ?_); refine with_tabW spec_l10Two.tab3 spec_l10Two.bits3 (fun HT_ HW_ => ?_)
   generalize w9.drew = w10 at K1 K2 K3 K4 I1 HK HB hHeld ⊢
   refine pk 0 10 1 ?_
   refine on 1 (some 11) 3 fun K hK => ?_
   refine goes_ Try.func57 (by kernel_rfl) rfl #[.pointer (some ⟨g, 0, none⟩), .int .i64 3] (by rfl) rfl rfl mz ?_
   with_reducible refine (spec_l1Rd_pick.calls k g s0_0 t11 3 t12 t13 w2 _ ?side1 ?side2 A3.out).mono ?_
   (case side1 => exact qs8)
   (case side2 => exact qs10)
   rintro e w11 ⟨rfl, hi, hb, hk⟩
   refine ⟨_, rfl, ?_⟩
   replace K1 := am (KeepBut.blk hk (g' := g1) (o := b4 0 0 0 0 50) (Z K1) N2.out (by simp))
   replace K2 := am (KeepBut.blk hk (g' := g2) (o := b4 0 0 0 0 50) (Z K2) N6.out (by simp))
   replace K3 := am (KeepBut.blk hk (g' := g3) (o := b4 t2 t3 t4 t5 50) (Z K3) N12.out (by simp))
   replace K4 := am (KeepBut.blk hk (g' := g4) (o := b4 t7 t8 t9 t10 50) (Z K4) N20.out (by simp))
   replace HK := am (KeepBut.trans (qs9) hk (.inl rfl))
   replace HB := am (hb)
   replace I1 := am (hi)
   (try clear hb)
   (try clear hb2)
   (try clear hk)
   (try clear hi)
   refine kk hK trivial fun hHeld => ?_
   clear hK K
   refine pk 2 12 7 ?_
   refine pk 3 13 15 ?_
   refine uk 4 14 31 ?_
   refine uk 5 15 63 ?_
   refine pk 6 16 127 ?_
   refine pk 7 17 255 ?_
   refine uk 8 18 511 ?_
   refine uk 9 19 1023 ?_
   refine uk 10 20 2047 ?_
   refine pk 11 21 4095 ?_
   refine done_ (done_of HT_.out (by kernel_rfl)) ?_
   try go_wp2
   go_meet
   case rel => exact ⟨_, (false), (t13), ey, H', le0, ⟨Z K1⟩, ⟨Z K2⟩, ⟨Z K3⟩, ⟨Z K4⟩, ⟨qs8⟩, ⟨qs9⟩, ⟨qs10⟩⟩
  rw [if_pos c1] at H
  have d1 := eT c1
  have d2 := nF c1
  clear c1
  (first | rw [d1] | (simp only [i64_w, i32_w]; rw [d1]) | skip)
  obtain ⟨t1, A4, H⟩ := bd H
  try dsimp only at H
  by_cases c2 : t1 = true
  rotate_left
  ·replace c2 := Bool.eq_false_iff.mpr c2
   subst c2
   rw [if_neg ff] at H
   have H' := am H
   clear H
   try go_wp2
   have n0_ : Aside0 (((((w8.setCell ⟨g4, 0, none⟩ (.int .i64 t7)).setCell ⟨g4, 1, none⟩ (.int .i64 t8)).setCell ⟨g4, 2, none⟩ (.int .i64 t9)).setCell ⟨g4, 3, none⟩ (.int .i64 t10)).heap[g1]? = some (.cells #[.int .i64 0, .int .i64 0, .int .i64 0, .int .i64 0] 50 (0, 0))) := ⟨ft N13 K1⟩
   have n1_ : Aside0 (((((w8.setCell ⟨g4, 0, none⟩ (.int .i64 t7)).setCell ⟨g4, 1, none⟩ (.int .i64 t8)).setCell ⟨g4, 2, none⟩ (.int .i64 t9)).setCell ⟨g4, 3, none⟩ (.int .i64 t10)).heap[g2]? = some (.cells #[.int .i64 0, .int .i64 0, .int .i64 0, .int .i64 0] 50 (0, 0))) := ⟨ft N15 K2⟩
   have n2_ : Aside0 (((((w8.setCell ⟨g4, 0, none⟩ (.int .i64 t7)).setCell ⟨g4, 1, none⟩ (.int .i64 t8)).setCell ⟨g4, 2, none⟩ (.int .i64 t9)).setCell ⟨g4, 3, none⟩ (.int .i64 t10)).heap[g3]? = some (.cells #[.int .i64 t2, .int .i64 t3, .int .i64 t4, .int .i64 t5] 50 (0, 0))) := ⟨ft N17 K3⟩
   have n3_ : Aside0 (((((w8.setCell ⟨g4, 0, none⟩ (.int .i64 t7)).setCell ⟨g4, 1, none⟩ (.int .i64 t8)).setCell ⟨g4, 2, none⟩ (.int .i64 t9)).setCell ⟨g4, 3, none⟩ (.int .i64 t10)).heap[g4]? = some (.cells #[.int .i64 t7, .int .i64 t8, .int .i64 t9, .int .i64 t10] 50 (0, 0))) := ⟨by refine pf ?_; refine bp (ia4 t7 t8 t9 0) ?_ 3; refine pf ?_; refine bp (ia4 t7 t8 0 0) ?_ 2; refine pf ?_; refine bp (ia4 t7 0 0 0) ?_ 1; refine pf ?_; refine bp (ia4 0 0 0 0) ?_ 0; exact Z K4⟩
   have n4_ : Aside0 (IsS99 w2 ((((w8.setCell ⟨g4, 0, none⟩ (.int .i64 t7)).setCell ⟨g4, 1, none⟩ (.int .i64 t8)).setCell ⟨g4, 2, none⟩ (.int .i64 t9)).setCell ⟨g4, 3, none⟩ (.int .i64 t10)) g s0_0 t11) := ⟨qs8⟩
   have n5_ : Aside0 (KeepBut w ((((w8.setCell ⟨g4, 0, none⟩ (.int .i64 t7)).setCell ⟨g4, 1, none⟩ (.int .i64 t8)).setCell ⟨g4, 2, none⟩ (.int .i64 t9)).setCell ⟨g4, 3, none⟩ (.int .i64 t10)) g none) := ⟨qs9⟩
   have n6_ : Aside0 (Below w2.heap.size w2 ((((w8.setCell ⟨g4, 0, none⟩ (.int .i64 t7)).setCell ⟨g4, 1, none⟩ (.int .i64 t8)).setCell ⟨g4, 2, none⟩ (.int .i64 t9)).setCell ⟨g4, 3, none⟩ (.int .i64 t10))) := ⟨qs10⟩
   (try clear K1)
   (try clear K2)
   (try clear K3)
   (try clear K4)
   (try clear I1)
   (try clear HK)
   (try clear HB)
   generalize ((((w8.setCell ⟨g4, 0, none⟩ (.int .i64 t7)).setCell ⟨g4, 1, none⟩ (.int .i64 t8)).setCell ⟨g4, 2, none⟩ (.int .i64 t9)).setCell ⟨g4, 3, none⟩ (.int .i64 t10)) = w9 at n0_ n1_ n2_ n3_ n4_ n5_ n6_ ⊢
   have K1 := n0_
   have K2 := n1_
   have K3 := n2_
   have K4 := n3_
   have I1 := n4_
   have HK := n5_
   have HB := n6_
   clear n0_ n1_ n2_ n3_ n4_ n5_ n6_
   replace K1 := am (blk_drew K1.out)
   replace K2 := am (blk_drew K2.out)
   replace K3 := am (blk_drew K3.out)
   replace K4 := am (blk_drew K4.out)
   replace I1 := am (IsS99.drew I1.out)
   replace HK := am (keep_drew HK.out)
   replace HB := am (below_drew1 HB.out)
   refine start_ (n := 12) (S := fun w' => ce4 w' g3 t2 t3 t4 t5) (ds := []) (lb 12 0) (by kernel_rfl) rfl rfl (cc4 K3) (fun hHeld => ?_); refine with_tabW spec_l10Two.tab3 spec_l10Two.bits3 (fun HT_ HW_ => ?_)
   generalize w9.drew = w10 at K1 K2 K3 K4 I1 HK HB hHeld ⊢
   refine pk 0 10 1 ?_
   refine on 1 (some 11) 3 fun K hK => ?_
   refine goes_ Try.func57 (by kernel_rfl) rfl #[.pointer (some ⟨g, 0, none⟩), .int .i64 3] (by rfl) rfl rfl mz ?_
   with_reducible refine (spec_l1Rd_pick.calls k g s0_0 t11 3 t12 t13 w2 _ ?side1 ?side2 A3.out).mono ?_
   (case side1 => exact qs8)
   (case side2 => exact qs10)
   rintro e w11 ⟨rfl, hi, hb, hk⟩
   refine ⟨_, rfl, ?_⟩
   replace K1 := am (KeepBut.blk hk (g' := g1) (o := b4 0 0 0 0 50) (Z K1) N2.out (by simp))
   replace K2 := am (KeepBut.blk hk (g' := g2) (o := b4 0 0 0 0 50) (Z K2) N6.out (by simp))
   replace K3 := am (KeepBut.blk hk (g' := g3) (o := b4 t2 t3 t4 t5 50) (Z K3) N12.out (by simp))
   replace K4 := am (KeepBut.blk hk (g' := g4) (o := b4 t7 t8 t9 t10 50) (Z K4) N20.out (by simp))
   replace HK := am (KeepBut.trans (qs9) hk (.inl rfl))
   replace HB := am (hb)
   replace I1 := am (hi)
   (try clear hb)
   (try clear hb2)
   (try clear hk)
   (try clear hi)
   refine kk hK (cc4 K3) fun hHeld => ?_
   clear hK K
   refine pk 2 12 7 ?_
   refine pk 3 13 15 ?_
   refine tk 4 14 31 hHeld ?_
   refine on 5 (some 15) 63 fun K hK => ?_
   refine gq Try.func70 (spec_ValOk.calls _ _ _ _ _ _ _ A4.out) fun w12 hb => ?_
   replace K1 := bb K1 hb
   replace K2 := bb K2 hb
   replace K3 := bb K3 hb
   replace K4 := bb K4 hb
   replace HK := am (KeepBut.trans (qs9) (KeepBut.of_below hb g none) (.inl rfl))
   replace HB := am (below_step (qs10) hb)
   replace I1 := am (IsS99.below (qs8) hb)
   (try clear hb)
   (try clear hb2)
   (try clear hk)
   (try clear hi)
   refine kk hK (cc4 K3) fun hHeld => ?_
   clear hK K
   refine pk 6 16 127 ?_
   refine pk 7 17 255 ?_
   refine uk 8 18 511 ?_
   refine uk 9 19 1023 ?_
   refine uk 10 20 2047 ?_
   refine pk 11 21 4095 ?_
   refine done_ (done_of HT_.out (by kernel_rfl)) ?_
   try go_wp2
   go_meet
   case rel => exact ⟨_, (false), (t13), ey, H', le0, ⟨Z K1⟩, ⟨Z K2⟩, ⟨Z K3⟩, ⟨Z K4⟩, ⟨qs8⟩, ⟨qs9⟩, ⟨qs10⟩⟩
  subst c2
  rw [if_pos rfl] at H
  obtain ⟨⟨t14, t15, t16, t17⟩, A5, H⟩ := bd H
  try dsimp only at H
  have H' := am H
  clear H
  try go_wp2
  have n0_ : Aside0 (((((w8.setCell ⟨g4, 0, none⟩ (.int .i64 t7)).setCell ⟨g4, 1, none⟩ (.int .i64 t8)).setCell ⟨g4, 2, none⟩ (.int .i64 t9)).setCell ⟨g4, 3, none⟩ (.int .i64 t10)).heap[g1]? = some (.cells #[.int .i64 0, .int .i64 0, .int .i64 0, .int .i64 0] 50 (0, 0))) := ⟨ft N13 K1⟩
  have n1_ : Aside0 (((((w8.setCell ⟨g4, 0, none⟩ (.int .i64 t7)).setCell ⟨g4, 1, none⟩ (.int .i64 t8)).setCell ⟨g4, 2, none⟩ (.int .i64 t9)).setCell ⟨g4, 3, none⟩ (.int .i64 t10)).heap[g2]? = some (.cells #[.int .i64 0, .int .i64 0, .int .i64 0, .int .i64 0] 50 (0, 0))) := ⟨ft N15 K2⟩
  have n2_ : Aside0 (((((w8.setCell ⟨g4, 0, none⟩ (.int .i64 t7)).setCell ⟨g4, 1, none⟩ (.int .i64 t8)).setCell ⟨g4, 2, none⟩ (.int .i64 t9)).setCell ⟨g4, 3, none⟩ (.int .i64 t10)).heap[g3]? = some (.cells #[.int .i64 t2, .int .i64 t3, .int .i64 t4, .int .i64 t5] 50 (0, 0))) := ⟨ft N17 K3⟩
  have n3_ : Aside0 (((((w8.setCell ⟨g4, 0, none⟩ (.int .i64 t7)).setCell ⟨g4, 1, none⟩ (.int .i64 t8)).setCell ⟨g4, 2, none⟩ (.int .i64 t9)).setCell ⟨g4, 3, none⟩ (.int .i64 t10)).heap[g4]? = some (.cells #[.int .i64 t7, .int .i64 t8, .int .i64 t9, .int .i64 t10] 50 (0, 0))) := ⟨by refine pf ?_; refine bp (ia4 t7 t8 t9 0) ?_ 3; refine pf ?_; refine bp (ia4 t7 t8 0 0) ?_ 2; refine pf ?_; refine bp (ia4 t7 0 0 0) ?_ 1; refine pf ?_; refine bp (ia4 0 0 0 0) ?_ 0; exact Z K4⟩
  have n4_ : Aside0 (IsS99 w2 ((((w8.setCell ⟨g4, 0, none⟩ (.int .i64 t7)).setCell ⟨g4, 1, none⟩ (.int .i64 t8)).setCell ⟨g4, 2, none⟩ (.int .i64 t9)).setCell ⟨g4, 3, none⟩ (.int .i64 t10)) g s0_0 t11) := ⟨qs8⟩
  have n5_ : Aside0 (KeepBut w ((((w8.setCell ⟨g4, 0, none⟩ (.int .i64 t7)).setCell ⟨g4, 1, none⟩ (.int .i64 t8)).setCell ⟨g4, 2, none⟩ (.int .i64 t9)).setCell ⟨g4, 3, none⟩ (.int .i64 t10)) g none) := ⟨qs9⟩
  have n6_ : Aside0 (Below w2.heap.size w2 ((((w8.setCell ⟨g4, 0, none⟩ (.int .i64 t7)).setCell ⟨g4, 1, none⟩ (.int .i64 t8)).setCell ⟨g4, 2, none⟩ (.int .i64 t9)).setCell ⟨g4, 3, none⟩ (.int .i64 t10))) := ⟨qs10⟩
  (try clear K1)
  (try clear K2)
  (try clear K3)
  (try clear K4)
  (try clear I1)
  (try clear HK)
  (try clear HB)
  generalize ((((w8.setCell ⟨g4, 0, none⟩ (.int .i64 t7)).setCell ⟨g4, 1, none⟩ (.int .i64 t8)).setCell ⟨g4, 2, none⟩ (.int .i64 t9)).setCell ⟨g4, 3, none⟩ (.int .i64 t10)) = w9 at n0_ n1_ n2_ n3_ n4_ n5_ n6_ ⊢
  have K1 := n0_
  have K2 := n1_
  have K3 := n2_
  have K4 := n3_
  have I1 := n4_
  have HK := n5_
  have HB := n6_
  clear n0_ n1_ n2_ n3_ n4_ n5_ n6_
  replace K1 := am (blk_drew K1.out)
  replace K2 := am (blk_drew K2.out)
  replace K3 := am (blk_drew K3.out)
  replace K4 := am (blk_drew K4.out)
  replace I1 := am (IsS99.drew I1.out)
  replace HK := am (keep_drew HK.out)
  replace HB := am (below_drew1 HB.out)
  refine start_ (n := 12) (S := fun w' => ce4 w' g3 t2 t3 t4 t5) (ds := []) (lb 12 0) (by kernel_rfl) rfl rfl (cc4 K3) (fun hHeld => ?_); refine with_tabW spec_l10Two.tab3 spec_l10Two.bits3 (fun HT_ HW_ => ?_)
  generalize w9.drew = w10 at K1 K2 K3 K4 I1 HK HB hHeld ⊢
  refine pk 0 10 1 ?_
  refine on 1 (some 11) 3 fun K hK => ?_
  refine goes_ Try.func57 (by kernel_rfl) rfl #[.pointer (some ⟨g, 0, none⟩), .int .i64 3] (by rfl) rfl rfl mz ?_
  with_reducible refine (spec_l1Rd_pick.calls k g s0_0 t11 3 t12 t13 w2 _ ?side1 ?side2 A3.out).mono ?_
  (case side1 => exact qs8)
  (case side2 => exact qs10)
  rintro e w11 ⟨rfl, hi, hb, hk⟩
  refine ⟨_, rfl, ?_⟩
  replace K1 := am (KeepBut.blk hk (g' := g1) (o := b4 0 0 0 0 50) (Z K1) N2.out (by simp))
  replace K2 := am (KeepBut.blk hk (g' := g2) (o := b4 0 0 0 0 50) (Z K2) N6.out (by simp))
  replace K3 := am (KeepBut.blk hk (g' := g3) (o := b4 t2 t3 t4 t5 50) (Z K3) N12.out (by simp))
  replace K4 := am (KeepBut.blk hk (g' := g4) (o := b4 t7 t8 t9 t10 50) (Z K4) N20.out (by simp))
  replace HK := am (KeepBut.trans (qs9) hk (.inl rfl))
  replace HB := am (hb)
  replace I1 := am (hi)
  (try clear hb)
  (try clear hb2)
  (try clear hk)
  (try clear hi)
  refine kk hK (cc4 K3) fun hHeld => ?_
  clear hK K
  refine pk 2 12 7 ?_
  refine pk 3 13 15 ?_
  refine tk 4 14 31 hHeld ?_
  refine on 5 (some 15) 63 fun K hK => ?_
  refine gq Try.func70 (spec_ValOk.calls _ _ _ _ _ _ _ A4.out) fun w12 hb => ?_
  replace K1 := bb K1 hb
  replace K2 := bb K2 hb
  replace K3 := bb K3 hb
  replace K4 := bb K4 hb
  replace HK := am (KeepBut.trans (qs9) (KeepBut.of_below hb g none) (.inl rfl))
  replace HB := am (below_step (qs10) hb)
  replace I1 := am (IsS99.below (qs8) hb)
  (try clear hb)
  (try clear hb2)
  (try clear hk)
  (try clear hi)
  refine kk hK (cc4 K3) fun hHeld => ?_
  clear hK K
  refine pk 6 16 127 ?_
  refine pk 7 17 255 ?_
  refine tk 8 18 511 hHeld ?_
  refine on 9 (some 19) 1023 fun K hK => ?_
  refine gq Try.func71 (spec_l10None.calls _ _ _ _ _ A5.out) fun w13 hb => ?_
  replace K1 := bb K1 hb
  replace K2 := bb K2 hb
  replace K3 := bb K3 hb
  replace K4 := bb K4 hb
  replace HK := am (KeepBut.trans (qs9) (KeepBut.of_below hb g none) (.inl rfl))
  replace HB := am (below_step (qs10) hb)
  replace I1 := am (IsS99.below (qs8) hb)
  (try clear hb)
  (try clear hb2)
  (try clear hk)
  (try clear hi)
  refine kk hK (cc4 K3) fun hHeld => ?_
  clear hK K
  refine pk 10 20 2047 ?_
  refine pk 11 21 4095 ?_
  refine done_ (done_of HT_.out (by kernel_rfl)) ?_
  try go_wp2
  go_meet
  case rel => exact ⟨_, ((!(t2 == t14) || (!(t3 == t15) || (!(t4 == t16) || (!(t5 == t17)))))), (t13), ey, H', le0, ⟨Z K1⟩, ⟨Z K2⟩, ⟨Z K3⟩, ⟨Z K4⟩, ⟨qs8⟩, ⟨qs9⟩, ⟨qs10⟩⟩
 clear C1
 obtain ⟨kq, x1, x2, rfl, HA, J1, K1, K2, K3, K4, I1, HK, HB⟩ := hcut
 cases kq with
 | zero => exact absurd HA.out (by simp [spec_l10Two.j0])
 | succ k1 => ?_
 have H := HA.out
 clear HA
 simp only [spec_l10Two.j0] at H
 have C2 := am H
 clear H
 go_upto_if 21 with (fail)
 go_cut [] (fun wc => ∃ (kq : Nat) (x3 : Int) (x4 : Int) (x5 : Int) (x6 : Int) (x7 : Int), Aside0 (spec_l10Two.j1 kq s0_0 x3 t2 t3 t4 t5 x4 x5 x6 x7 = some (r1, r2, r3, r4, r5, r6, r7, r8, r9)) ∧ Aside0 (kq ≤ k1) ∧ Bx4 wc g1 0 0 0 0 50 ∧ Bx4 wc g2 0 0 0 0 50 ∧ Bx4 wc g3 t2 t3 t4 t5 50 ∧ Bx4 wc g4 x4 x5 x6 x7 50 ∧ Aside0 (IsS99 w2 wc g s0_0 x3) ∧ Aside0 (KeepBut w wc g none) ∧ Aside0 (Below w2.heap.size w2 wc))
 case first =>
  have H := C2.out
  clear C2
  by_cases c1 : x1 = true
  rotate_left
  ·replace c1 := Bool.eq_false_iff.mpr c1
   subst c1
   rw [if_neg ff] at H
   have H' := am H
   clear H
   go_wp2
   go_meet
   case rel => exact ⟨_, (x2), (t7), (t8), (t9), (t10), H', le1 J1, ⟨Z K1⟩, ⟨Z K2⟩, ⟨Z K3⟩, ⟨Z K4⟩, ⟨qs8⟩, ⟨qs9⟩, ⟨qs10⟩⟩
  subst c1
  rw [if_pos rfl] at H
  obtain ⟨⟨t12, t13⟩, A3, H⟩ := bd H
  try dsimp only at H
  obtain ⟨⟨t14, t15⟩, A4, H⟩ := bd H
  try dsimp only at H
  obtain ⟨⟨t16, t17⟩, A5, H⟩ := bd H
  try dsimp only at H
  obtain ⟨⟨t18, t19, t20⟩, A6, H⟩ := bd H
  try dsimp only at H
  obtain ⟨⟨t21, t22, t23, t24⟩, A7, H⟩ := bd H
  try dsimp only at H
  have H' := am H
  clear H
  try go_wp2
  replace K1 := am (blk_drew K1.out)
  replace K2 := am (blk_drew K2.out)
  replace K3 := am (blk_drew K3.out)
  replace K4 := am (blk_drew K4.out)
  replace I1 := am (IsS99.drew I1.out)
  replace HK := am (keep_drew HK.out)
  replace HB := am (below_drew1 HB.out)
  refine start_ (n := 17) (S := fun w' => ce4 w' g3 t2 t3 t4 t5) (ds := []) (lb 17 0) (by kernel_rfl) rfl rfl (cc4 K3) (fun hHeld => ?_); refine with_tabW spec_l10Two.tab4 spec_l10Two.bits4 (fun HT_ HW_ => ?_)
  generalize wc.drew = w9 at K1 K2 K3 K4 I1 HK HB hHeld ⊢
  refine pk 0 22 1 ?_
  refine pk 2 24 5 ?_
  refine pk 6 28 69 ?_
  refine pk 8 30 325 ?_
  refine pk 13 35 8517 ?_
  refine tk 1 23 8519 hHeld ?_
  refine tk 7 29 8647 hHeld ?_
  refine on 3 (some 25) 8655 fun K hK => ?_
  refine goes_ Try.func57 (by kernel_rfl) rfl #[.pointer (some ⟨g, 0, none⟩), .int .i64 9] (by rfl) rfl rfl mz ?_
  with_reducible refine (spec_l1Rd_pick.calls k1 g s0_0 x2 9 t12 t13 w2 _ ?side1 ?side2 A3.out).mono ?_
  (case side1 => exact qs8)
  (case side2 => exact qs10)
  rintro e w10 ⟨rfl, hi, hb, hk⟩
  refine ⟨_, rfl, ?_⟩
  replace K1 := am (KeepBut.blk hk (g' := g1) (o := b4 0 0 0 0 50) (Z K1) N2.out (by simp))
  replace K2 := am (KeepBut.blk hk (g' := g2) (o := b4 0 0 0 0 50) (Z K2) N6.out (by simp))
  replace K3 := am (KeepBut.blk hk (g' := g3) (o := b4 t2 t3 t4 t5 50) (Z K3) N12.out (by simp))
  replace K4 := am (KeepBut.blk hk (g' := g4) (o := b4 t7 t8 t9 t10 50) (Z K4) N20.out (by simp))
  replace HK := am (KeepBut.trans (qs9) hk (.inl rfl))
  replace HB := am (hb)
  replace I1 := am (hi)
  (try clear hb)
  (try clear hb2)
  (try clear hk)
  (try clear hi)
  refine kk hK (cc4 K3) fun hHeld => ?_
  clear hK K
  refine pk 4 26 8671 ?_
  refine pk 5 27 8703 ?_
  refine on 9 (some 31) 9215 fun K hK => ?_
  refine goes_ Try.func57 (by kernel_rfl) rfl #[.pointer (some ⟨g, 0, none⟩), .int .i64 9] (by rfl) rfl rfl mz ?_
  with_reducible refine (spec_l1Rd_pick.calls k1 g s0_0 t13 9 t14 t15 w2 _ ?side1 ?side2 A4.out).mono ?_
  (case side1 => exact qs8)
  (case side2 => exact qs10)
  rintro e w11 ⟨rfl, hi, hb, hk⟩
  refine ⟨_, rfl, ?_⟩
  replace K1 := am (KeepBut.blk hk (g' := g1) (o := b4 0 0 0 0 50) (Z K1) N2.out (by simp))
  replace K2 := am (KeepBut.blk hk (g' := g2) (o := b4 0 0 0 0 50) (Z K2) N6.out (by simp))
  replace K3 := am (KeepBut.blk hk (g' := g3) (o := b4 t2 t3 t4 t5 50) (Z K3) N12.out (by simp))
  replace K4 := am (KeepBut.blk hk (g' := g4) (o := b4 t7 t8 t9 t10 50) (Z K4) N20.out (by simp))
  replace HK := am (KeepBut.trans (qs9) hk (.inl rfl))
  replace HB := am (hb)
  replace I1 := am (hi)
  (try clear hb)
  (try clear hb2)
  (try clear hk)
  (try clear hi)
  refine kk hK (cc4 K3) fun hHeld => ?_
  clear hK K
  refine pk 10 32 10239 ?_
  refine pk 11 33 12287 ?_
  refine on 12 (some 34) 16383 fun K hK => ?_
  refine gq Try.func44 (spec_l8Cut.calls _ _ _ _ _ A5.out) fun w12 hb => ?_
  replace K1 := bb K1 hb
  replace K2 := bb K2 hb
  replace K3 := bb K3 hb
  replace K4 := bb K4 hb
  replace HK := am (KeepBut.trans (qs9) (KeepBut.of_below hb g none) (.inl rfl))
  replace HB := am (below_step (qs10) hb)
  replace I1 := am (IsS99.below (qs8) hb)
  (try clear hb)
  (try clear hb2)
  (try clear hk)
  (try clear hi)
  refine kk hK (cc4 K3) fun hHeld => ?_
  clear hK K
  refine on 14 (some 36) 32767 fun K hK => ?_
  refine goes_ Try.func115 (by kernel_rfl) rfl #[.pointer (some ⟨g, 0, none⟩)] (by rfl) rfl rfl mz ?_
  with_reducible refine (spec_l9Rest.calls k1 g s0_0 t15 t18 t19 t20 w2 _ ?side1 ?side2 A6.out).mono ?_
  (case side1 => exact qs8)
  (case side2 => exact qs10)
  rintro e w13 ⟨rfl, hi, hb, hk⟩
  refine ⟨_, rfl, ?_⟩
  replace K1 := am (KeepBut.blk hk (g' := g1) (o := b4 0 0 0 0 50) (Z K1) N2.out (by simp))
  replace K2 := am (KeepBut.blk hk (g' := g2) (o := b4 0 0 0 0 50) (Z K2) N6.out (by simp))
  replace K3 := am (KeepBut.blk hk (g' := g3) (o := b4 t2 t3 t4 t5 50) (Z K3) N12.out (by simp))
  replace K4 := am (KeepBut.blk hk (g' := g4) (o := b4 t7 t8 t9 t10 50) (Z K4) N20.out (by simp))
  replace HK := am (KeepBut.trans (qs9) hk (.inl rfl))
  replace HB := am (hb)
  replace I1 := am (hi)
  (try clear hb)
  (try clear hb2)
  (try clear hk)
  (try clear hi)
  refine kk hK (cc4 K3) fun hHeld => ?_
  clear hK K
  refine on 15 (some 37) 65535 fun K hK => ?_
  refine gq Try.func73 (spec_ValMake.calls _ _ _ _ _ _ _ _ _ _ A7.out) fun w14 hb => ?_
  replace K1 := bb K1 hb
  replace K2 := bb K2 hb
  replace K3 := bb K3 hb
  replace K4 := bb K4 hb
  replace HK := am (KeepBut.trans (qs9) (KeepBut.of_below hb g none) (.inl rfl))
  replace HB := am (below_step (qs10) hb)
  replace I1 := am (IsS99.below (qs8) hb)
  (try clear hb)
  (try clear hb2)
  (try clear hk)
  (try clear hi)
  refine kk hK (cc4 K3) fun hHeld => ?_
  clear hK K
  refine on 16 none 131071 fun K hK => ?_
  have s8 : w14.cell? ⟨g4, 0, none⟩ = some (.int .i64 t7) := bc K4 0
  have hfs50 := blk_frozen K4.out 0
  have := ns6 N13 N15 N17 N14 N16 N18
  have s9 : w14.cell? ⟨g4, 1, none⟩ = some (.int .i64 t8) := bc K4 1
  have hfs51 := blk_frozen K4.out 1
  have := ns6 N13 N15 N17 N14 N16 N18
  have s10 : w14.cell? ⟨g4, 2, none⟩ = some (.int .i64 t9) := bc K4 2
  have hfs52 := blk_frozen K4.out 2
  have := ns6 N13 N15 N17 N14 N16 N18
  have s11 : w14.cell? ⟨g4, 3, none⟩ = some (.int .i64 t10) := bc K4 3
  have hfs53 := blk_frozen K4.out 3
  have := ns6 N13 N15 N17 N14 N16 N18
  refine skip_ (w1 := ?_) (by rfl) rfl ?_ ?_
  rotate_left
  ·go_simp
   rfl
  refine hK.out _ _ (cf4 N17 (cf4 N17 (cf4 N17 (cf4 N17 hHeld)))) (fun hHeld => ?_)
  clear hK K
  refine done_ (done_of HT_.out (by kernel_rfl)) ?_
  try go_wp2
  go_meet
  case rel => exact ⟨_, (t20), (t21), (t22), (t23), (t24), H', le1 J1, ⟨ft N13 K1⟩, ⟨ft N15 K2⟩, ⟨ft N17 K3⟩, ⟨by refine pf ?_; refine bp (ia4 t21 t22 t23 t10) ?_ 3; refine pf ?_; refine bp (ia4 t21 t22 t9 t10) ?_ 2; refine pf ?_; refine bp (ia4 t21 t8 t9 t10) ?_ 1; refine pf ?_; refine bp (ia4 t7 t8 t9 t10) ?_ 0; exact Z K4⟩, ⟨qs8⟩, ⟨qs9⟩, ⟨qs10⟩⟩
 clear C2
 obtain ⟨kq, x3, x4, x5, x6, x7, HA, J2, K1, K2, K3, K4, I1, HK, HB⟩ := hcut
 cases kq with
 | zero => exact absurd HA.out (by simp [spec_l10Two.j1])
 | succ k2 => ?_
 have H := HA.out
 clear HA
 simp only [spec_l10Two.j1] at H
 have C3 := am H
 clear H
 go_upto_region 5 with (fail)
 go_cut [49] (fun v2 wc => ∃ (kq : Nat) (x8 : Bool) (x9 : Int), v2 = .bool x8 ∧ Aside0 (spec_l10Two.j2 kq x8 s0_0 x9 t2 t3 t4 t5 x4 x5 x6 x7 = some (r1, r2, r3, r4, r5, r6, r7, r8, r9)) ∧ Aside0 (kq ≤ k2) ∧ Bx4 wc g1 0 0 0 0 50 ∧ Bx4 wc g2 0 0 0 0 50 ∧ Bx4 wc g3 t2 t3 t4 t5 50 ∧ Bx4 wc g4 x4 x5 x6 x7 50 ∧ Aside0 (IsS99 w2 wc g s0_0 x9) ∧ Aside0 (KeepBut w wc g none) ∧ Aside0 (Below w2.heap.size w2 wc))
 case first =>
  have H := C3.out
  clear C3
  obtain ⟨⟨t12, t13⟩, A3, H⟩ := bd H
  try dsimp only at H
  by_cases c1 : t12 = 0
  rotate_left
  ·rw [if_neg c1] at H
   have d1 := eF c1
   have d2 := nT c1
   (first | rw [d1] | (simp only [i64_w, i32_w]; rw [d1]) | skip)
   have H' := am H
   clear H
   try go_wp2
   replace K1 := am (blk_drew K1.out)
   replace K2 := am (blk_drew K2.out)
   replace K3 := am (blk_drew K3.out)
   replace K4 := am (blk_drew K4.out)
   replace I1 := am (IsS99.drew I1.out)
   replace HK := am (keep_drew HK.out)
   replace HB := am (below_drew1 HB.out)
   refine start_ (n := 12) (S := fun w' => True) (ds := []) (lb 12 0) (by kernel_rfl) rfl rfl trivial (fun hHeld => ?_); refine with_tabW spec_l10Two.tab5 spec_l10Two.bits5 (fun HT_ HW_ => ?_)
   generalize wc.drew = w9 at K1 K2 K3 K4 I1 HK HB hHeld ⊢
   refine pk 0 38 1 ?_
   refine on 1 (some 39) 3 fun K hK => ?_
   refine goes_ Try.func57 (by kernel_rfl) rfl #[.pointer (some ⟨g, 0, none⟩), .int .i64 4] (by rfl) rfl rfl mz ?_
   with_reducible refine (spec_l1Rd_pick.calls k2 g s0_0 x3 4 t12 t13 w2 _ ?side1 ?side2 A3.out).mono ?_
   (case side1 => exact qs8)
   (case side2 => exact qs10)
   rintro e w10 ⟨rfl, hi, hb, hk⟩
   refine ⟨_, rfl, ?_⟩
   replace K1 := am (KeepBut.blk hk (g' := g1) (o := b4 0 0 0 0 50) (Z K1) N2.out (by simp))
   replace K2 := am (KeepBut.blk hk (g' := g2) (o := b4 0 0 0 0 50) (Z K2) N6.out (by simp))
   replace K3 := am (KeepBut.blk hk (g' := g3) (o := b4 t2 t3 t4 t5 50) (Z K3) N12.out (by simp))
   replace K4 := am (KeepBut.blk hk (g' := g4) (o := b4 x4 x5 x6 x7 50) (Z K4) N20.out (by simp))
   replace HK := am (KeepBut.trans (qs9) hk (.inl rfl))
   replace HB := am (hb)
   replace I1 := am (hi)
   (try clear hb)
   (try clear hb2)
   (try clear hk)
   (try clear hi)
   refine kk hK trivial fun hHeld => ?_
   clear hK K
   refine pk 2 40 7 ?_
   refine pk 3 41 15 ?_
   refine uk 4 42 31 ?_
   refine uk 5 43 63 ?_
   refine pk 6 44 127 ?_
   refine pk 7 45 255 ?_
   refine uk 8 46 511 ?_
   refine uk 9 47 1023 ?_
   refine uk 10 48 2047 ?_
   refine pk 11 49 4095 ?_
   refine done_ (done_of HT_.out (by kernel_rfl)) ?_
   try go_wp2
   go_meet
   case rel => exact ⟨_, (false), (t13), ey, H', ⟨by have := J1.out; have := J2.out; first | omega | exact Nat.le_refl _⟩, ⟨Z K1⟩, ⟨Z K2⟩, ⟨Z K3⟩, ⟨Z K4⟩, ⟨qs8⟩, ⟨qs9⟩, ⟨qs10⟩⟩
  rw [if_pos c1] at H
  have d1 := eT c1
  have d2 := nF c1
  clear c1
  (first | rw [d1] | (simp only [i64_w, i32_w]; rw [d1]) | skip)
  obtain ⟨t14, A4, H⟩ := bd H
  try dsimp only at H
  by_cases c2 : t14 = true
  rotate_left
  ·replace c2 := Bool.eq_false_iff.mpr c2
   subst c2
   rw [if_neg ff] at H
   have H' := am H
   clear H
   try go_wp2
   replace K1 := am (blk_drew K1.out)
   replace K2 := am (blk_drew K2.out)
   replace K3 := am (blk_drew K3.out)
   replace K4 := am (blk_drew K4.out)
   replace I1 := am (IsS99.drew I1.out)
   replace HK := am (keep_drew HK.out)
   replace HB := am (below_drew1 HB.out)
   refine start_ (n := 12) (S := fun w' => ce4 w' g3 t2 t3 t4 t5) (ds := []) (lb 12 0) (by kernel_rfl) rfl rfl (cc4 K3) (fun hHeld => ?_); refine with_tabW spec_l10Two.tab5 spec_l10Two.bits5 (fun HT_ HW_ => ?_)
   generalize wc.drew = w9 at K1 K2 K3 K4 I1 HK HB hHeld ⊢
   refine pk 0 38 1 ?_
   refine on 1 (some 39) 3 fun K hK => ?_
   refine goes_ Try.func57 (by kernel_rfl) rfl #[.pointer (some ⟨g, 0, none⟩), .int .i64 4] (by rfl) rfl rfl mz ?_
   with_reducible refine (spec_l1Rd_pick.calls k2 g s0_0 x3 4 t12 t13 w2 _ ?side1 ?side2 A3.out).mono ?_
   (case side1 => exact qs8)
   (case side2 => exact qs10)
   rintro e w10 ⟨rfl, hi, hb, hk⟩
   refine ⟨_, rfl, ?_⟩
   replace K1 := am (KeepBut.blk hk (g' := g1) (o := b4 0 0 0 0 50) (Z K1) N2.out (by simp))
   replace K2 := am (KeepBut.blk hk (g' := g2) (o := b4 0 0 0 0 50) (Z K2) N6.out (by simp))
   replace K3 := am (KeepBut.blk hk (g' := g3) (o := b4 t2 t3 t4 t5 50) (Z K3) N12.out (by simp))
   replace K4 := am (KeepBut.blk hk (g' := g4) (o := b4 x4 x5 x6 x7 50) (Z K4) N20.out (by simp))
   replace HK := am (KeepBut.trans (qs9) hk (.inl rfl))
   replace HB := am (hb)
   replace I1 := am (hi)
   (try clear hb)
   (try clear hb2)
   (try clear hk)
   (try clear hi)
   refine kk hK (cc4 K3) fun hHeld => ?_
   clear hK K
   refine pk 2 40 7 ?_
   refine pk 3 41 15 ?_
   refine tk 4 42 31 hHeld ?_
   refine on 5 (some 43) 63 fun K hK => ?_
   refine gq Try.func70 (spec_ValOk.calls _ _ _ _ _ _ _ A4.out) fun w11 hb => ?_
   replace K1 := bb K1 hb
   replace K2 := bb K2 hb
   replace K3 := bb K3 hb
   replace K4 := bb K4 hb
   replace HK := am (KeepBut.trans (qs9) (KeepBut.of_below hb g none) (.inl rfl))
   replace HB := am (below_step (qs10) hb)
   replace I1 := am (IsS99.below (qs8) hb)
   (try clear hb)
   (try clear hb2)
   (try clear hk)
   (try clear hi)
   refine kk hK (cc4 K3) fun hHeld => ?_
   clear hK K
   refine pk 6 44 127 ?_
   refine pk 7 45 255 ?_
   refine uk 8 46 511 ?_
   refine uk 9 47 1023 ?_
   refine uk 10 48 2047 ?_
   refine pk 11 49 4095 ?_
   refine done_ (done_of HT_.out (by kernel_rfl)) ?_
   try go_wp2
   go_meet
   case rel => exact ⟨_, (false), (t13), ey, H', ⟨by have := J1.out; have := J2.out; first | omega | exact Nat.le_refl _⟩, ⟨Z K1⟩, ⟨Z K2⟩, ⟨Z K3⟩, ⟨Z K4⟩, ⟨qs8⟩, ⟨qs9⟩, ⟨qs10⟩⟩
  subst c2
  rw [if_pos rfl] at H
  obtain ⟨⟨t15, t16, t17, t18⟩, A5, H⟩ := bd H
  try dsimp only at H
  have H' := am H
  clear H
  try go_wp2
  replace K1 := am (blk_drew K1.out)
  replace K2 := am (blk_drew K2.out)
  replace K3 := am (blk_drew K3.out)
  replace K4 := am (blk_drew K4.out)
  replace I1 := am (IsS99.drew I1.out)
  replace HK := am (keep_drew HK.out)
  replace HB := am (below_drew1 HB.out)
  refine start_ (n := 12) (S := fun w' => ce4 w' g3 t2 t3 t4 t5) (ds := []) (lb 12 0) (by kernel_rfl) rfl rfl (cc4 K3) (fun hHeld => ?_); refine with_tabW spec_l10Two.tab5 spec_l10Two.bits5 (fun HT_ HW_ => ?_)
  generalize wc.drew = w9 at K1 K2 K3 K4 I1 HK HB hHeld ⊢
  refine pk 0 38 1 ?_
  refine on 1 (some 39) 3 fun K hK => ?_
  refine goes_ Try.func57 (by kernel_rfl) rfl #[.pointer (some ⟨g, 0, none⟩), .int .i64 4] (by rfl) rfl rfl mz ?_
  with_reducible refine (spec_l1Rd_pick.calls k2 g s0_0 x3 4 t12 t13 w2 _ ?side1 ?side2 A3.out).mono ?_
  (case side1 => exact qs8)
  (case side2 => exact qs10)
  rintro e w10 ⟨rfl, hi, hb, hk⟩
  refine ⟨_, rfl, ?_⟩
  replace K1 := am (KeepBut.blk hk (g' := g1) (o := b4 0 0 0 0 50) (Z K1) N2.out (by simp))
  replace K2 := am (KeepBut.blk hk (g' := g2) (o := b4 0 0 0 0 50) (Z K2) N6.out (by simp))
  replace K3 := am (KeepBut.blk hk (g' := g3) (o := b4 t2 t3 t4 t5 50) (Z K3) N12.out (by simp))
  replace K4 := am (KeepBut.blk hk (g' := g4) (o := b4 x4 x5 x6 x7 50) (Z K4) N20.out (by simp))
  replace HK := am (KeepBut.trans (qs9) hk (.inl rfl))
  replace HB := am (hb)
  replace I1 := am (hi)
  (try clear hb)
  (try clear hb2)
  (try clear hk)
  (try clear hi)
  refine kk hK (cc4 K3) fun hHeld => ?_
  clear hK K
  refine pk 2 40 7 ?_
  refine pk 3 41 15 ?_
  refine tk 4 42 31 hHeld ?_
  refine on 5 (some 43) 63 fun K hK => ?_
  refine gq Try.func70 (spec_ValOk.calls _ _ _ _ _ _ _ A4.out) fun w11 hb => ?_
  replace K1 := bb K1 hb
  replace K2 := bb K2 hb
  replace K3 := bb K3 hb
  replace K4 := bb K4 hb
  replace HK := am (KeepBut.trans (qs9) (KeepBut.of_below hb g none) (.inl rfl))
  replace HB := am (below_step (qs10) hb)
  replace I1 := am (IsS99.below (qs8) hb)
  (try clear hb)
  (try clear hb2)
  (try clear hk)
  (try clear hi)
  refine kk hK (cc4 K3) fun hHeld => ?_
  clear hK K
  refine pk 6 44 127 ?_
  refine pk 7 45 255 ?_
  refine tk 8 46 511 hHeld ?_
  refine on 9 (some 47) 1023 fun K hK => ?_
  refine gq Try.func71 (spec_l10None.calls _ _ _ _ _ A5.out) fun w12 hb => ?_
  replace K1 := bb K1 hb
  replace K2 := bb K2 hb
  replace K3 := bb K3 hb
  replace K4 := bb K4 hb
  replace HK := am (KeepBut.trans (qs9) (KeepBut.of_below hb g none) (.inl rfl))
  replace HB := am (below_step (qs10) hb)
  replace I1 := am (IsS99.below (qs8) hb)
  (try clear hb)
  (try clear hb2)
  (try clear hk)
  (try clear hi)
  refine kk hK (cc4 K3) fun hHeld => ?_
  clear hK K
  refine pk 10 48 2047 ?_
  refine pk 11 49 4095 ?_
  refine done_ (done_of HT_.out (by kernel_rfl)) ?_
  try go_wp2
  go_meet
  case rel => exact ⟨_, ((!(t2 == t15) || (!(t3 == t16) || (!(t4 == t17) || (!(t5 == t18)))))), (t13), ey, H', ⟨by have := J1.out; have := J2.out; first | omega | exact Nat.le_refl _⟩, ⟨Z K1⟩, ⟨Z K2⟩, ⟨Z K3⟩, ⟨Z K4⟩, ⟨qs8⟩, ⟨qs9⟩, ⟨qs10⟩⟩
 clear C3
 obtain ⟨kq, x8, x9, rfl, HA, J3, K1, K2, K3, K4, I1, HK, HB⟩ := hcut
 cases kq with
 | zero => exact absurd HA.out (by simp [spec_l10Two.j2])
 | succ k3 => ?_
 have H := HA.out
 clear HA
 simp only [spec_l10Two.j2] at H
 by_cases c1 : x8 = true
 rotate_left
 ·replace c1 := Bool.eq_false_iff.mpr c1
  subst c1
  rw [if_neg ff] at H
  simp only [Option.some.injEq, Prod.mk.injEq] at H
  obtain ⟨rfl, rfl, rfl, rfl, rfl, rfl, rfl, rfl, rfl⟩ := H
  try go_wp2
  replace K1 := am (blk_drew K1.out)
  replace K2 := am (blk_drew K2.out)
  replace K3 := am (blk_drew K3.out)
  replace K4 := am (blk_drew K4.out)
  replace I1 := am (IsS99.drew I1.out)
  replace HK := am (keep_drew HK.out)
  replace HB := am (below_drew1 HB.out)
  refine start_ (n := 4) (S := fun w' => ce4 w' g3 t2 t3 t4 t5 ∧ ce4 w' g4 x4 x5 x6 x7) (ds := []) (lb 4 0) (by kernel_rfl) rfl rfl ⟨cc4 K3, cc4 K4⟩ (fun hHeld => ?_)
  generalize wc.drew = w9 at K1 K2 K3 K4 I1 HK HB hHeld ⊢
  refine tq 0 64 1 hHeld ?_
  refine tq 1 65 3 hHeld ?_
  refine one_ (i := 2) (N := none) (lb 4 7) rfl rfl (by kernel_rfl) (by decide) (fun K hK => ?_)
  have s8 : w9.cell? ⟨g1, 0, none⟩ = some (.int .i64 0) := bc K1 0
  have hfs96 := blk_frozen K1.out 0
  have := ns6 N4 N8 N14 N3 N7 N13
  have s9 : w9.cell? ⟨g1, 1, none⟩ = some (.int .i64 0) := bc K1 1
  have hfs97 := blk_frozen K1.out 1
  have := ns6 N4 N8 N14 N3 N7 N13
  have s10 : w9.cell? ⟨g1, 2, none⟩ = some (.int .i64 0) := bc K1 2
  have hfs98 := blk_frozen K1.out 2
  have := ns6 N4 N8 N14 N3 N7 N13
  have s11 : w9.cell? ⟨g1, 3, none⟩ = some (.int .i64 0) := bc K1 3
  have hfs99 := blk_frozen K1.out 3
  have := ns6 N4 N8 N14 N3 N7 N13
  refine skip_ (w1 := ?_) (by rfl) rfl ?_ ?_
  rotate_left
  ·go_simp
   rfl
  refine hK.out _ _ ⟨cf4 N8 (cf4 N8 (cf4 N8 (cf4 N8 hHeld.1))), cf4 N14 (cf4 N14 (cf4 N14 (cf4 N14 hHeld.2)))⟩ (fun hHeld => ?_)
  clear hK K
  refine one_ (i := 3) (N := none) (lb 4 15) rfl rfl (by kernel_rfl) (by decide) (fun K hK => ?_)
  have s12 : w9.cell? ⟨g2, 0, none⟩ = some (.int .i64 0) := bc K2 0
  have hfs100 := blk_frozen K2.out 0
  have := ns6 N3 N10 N16 N4 N9 N15
  have s13 : w9.cell? ⟨g2, 1, none⟩ = some (.int .i64 0) := bc K2 1
  have hfs101 := blk_frozen K2.out 1
  have := ns6 N3 N10 N16 N4 N9 N15
  have s14 : w9.cell? ⟨g2, 2, none⟩ = some (.int .i64 0) := bc K2 2
  have hfs102 := blk_frozen K2.out 2
  have := ns6 N3 N10 N16 N4 N9 N15
  have s15 : w9.cell? ⟨g2, 3, none⟩ = some (.int .i64 0) := bc K2 3
  have hfs103 := blk_frozen K2.out 3
  have := ns6 N3 N10 N16 N4 N9 N15
  refine skip_ (w1 := ?_) (by rfl) rfl ?_ ?_
  rotate_left
  ·go_simp
   rfl
  refine hK.out _ _ ⟨cf4 N10 (cf4 N10 (cf4 N10 (cf4 N10 hHeld.1))), cf4 N16 (cf4 N16 (cf4 N16 (cf4 N16 hHeld.2)))⟩ (fun hHeld => ?_)
  clear hK K
  refine done_ (by kernel_rfl) ?_
  try go_wp2
  refine bodyPost_ret (results_cc rfl _ _ g1 g2 50 50 #[.int .i64 t2, .int .i64 t3, .int .i64 t4, .int .i64 t5] #[.int .i64 x4, .int .i64 x5, .int .i64 x6, .int .i64 x7] (0, 0) (0, 0) _ _ rfl (by refine fa N3 ?_; refine fa N3 ?_; refine fa N3 ?_; refine fa N3 ?_; refine pf ?_; refine bp (ia4 t2 t3 t4 0) ?_ 3; refine pf ?_; refine bp (ia4 t2 t3 0 0) ?_ 2; refine pf ?_; refine bp (ia4 t2 0 0 0) ?_ 1; refine pf ?_; refine bp (ia4 0 0 0 0) ?_ 0; exact Z K1) Try.underlying50 rfl (by kernel_rfl) rfl (by refine pf ?_; refine bp (ia4 x4 x5 x6 0) ?_ 3; refine pf ?_; refine bp (ia4 x4 x5 0 0) ?_ 2; refine pf ?_; refine bp (ia4 x4 0 0 0) ?_ 1; refine pf ?_; refine bp (ia4 0 0 0 0) ?_ 0; refine fa N4 ?_; refine fa N4 ?_; refine fa N4 ?_; refine fa N4 ?_; exact Z K2) Try.underlying50 rfl (by kernel_rfl)) rfl ?_
  exact ⟨ez, qs8, qs10, qs9⟩
 subst c1
 rw [if_pos rfl] at H
 obtain ⟨⟨t12, t13⟩, A3, H⟩ := bd H
 try dsimp only at H
 obtain ⟨⟨t14, t15⟩, A4, H⟩ := bd H
 try dsimp only at H
 obtain ⟨⟨t16, t17⟩, A5, H⟩ := bd H
 try dsimp only at H
 obtain ⟨⟨t18, t19⟩, A6, H⟩ := bd H
 try dsimp only at H
 obtain ⟨⟨t20, t21, t22, t23⟩, A7, H⟩ := bd H
 try dsimp only at H
 simp only [Option.some.injEq, Prod.mk.injEq] at H
 obtain ⟨rfl, rfl, rfl, rfl, rfl, rfl, rfl, rfl, rfl⟩ := H
 try go_wp2
 replace K1 := am (blk_drew K1.out)
 replace K2 := am (blk_drew K2.out)
 replace K3 := am (blk_drew K3.out)
 replace K4 := am (blk_drew K4.out)
 replace I1 := am (IsS99.drew I1.out)
 replace HK := am (keep_drew HK.out)
 replace HB := am (below_drew1 HB.out)
 refine start_ (n := 15) (S := fun w' => ce4 w' g3 t2 t3 t4 t5) (ds := []) (lb 15 0) (by kernel_rfl) rfl rfl (cc4 K3) (fun hHeld => ?_); refine with_tabW spec_l10Two.tab6 spec_l10Two.bits6 (fun HT_ HW_ => ?_)
 generalize wc.drew = w9 at K1 K2 K3 K4 I1 HK HB hHeld ⊢
 refine pk 0 50 1 ?_
 refine pk 2 52 5 ?_
 refine pk 5 55 37 ?_
 refine pk 7 57 165 ?_
 refine tk 1 51 167 hHeld ?_
 refine tk 6 56 231 hHeld ?_
 refine tk 11 61 2279 hHeld ?_
 refine on 3 (some 53) 2287 fun K hK => ?_
 refine goes_ Try.func57 (by kernel_rfl) rfl #[.pointer (some ⟨g, 0, none⟩), .int .i64 9] (by rfl) rfl rfl mz ?_
 with_reducible refine (spec_l1Rd_pick.calls k3 g s0_0 x9 9 t12 t13 w2 _ ?side1 ?side2 A3.out).mono ?_
 (case side1 => exact qs8)
 (case side2 => exact qs10)
 rintro e w10 ⟨rfl, hi, hb, hk⟩
 refine ⟨_, rfl, ?_⟩
 replace K1 := am (KeepBut.blk hk (g' := g1) (o := b4 0 0 0 0 50) (Z K1) N2.out (by simp))
 replace K2 := am (KeepBut.blk hk (g' := g2) (o := b4 0 0 0 0 50) (Z K2) N6.out (by simp))
 replace K3 := am (KeepBut.blk hk (g' := g3) (o := b4 t2 t3 t4 t5 50) (Z K3) N12.out (by simp))
 replace K4 := am (KeepBut.blk hk (g' := g4) (o := b4 x4 x5 x6 x7 50) (Z K4) N20.out (by simp))
 replace HK := am (KeepBut.trans (qs9) hk (.inl rfl))
 replace HB := am (hb)
 replace I1 := am (hi)
 (try clear hb)
 (try clear hb2)
 (try clear hk)
 (try clear hi)
 refine kk hK (cc4 K3) fun hHeld => ?_
 clear hK K
 refine pk 4 54 2303 ?_
 refine on 8 (some 58) 2559 fun K hK => ?_
 refine goes_ Try.func57 (by kernel_rfl) rfl #[.pointer (some ⟨g, 0, none⟩), .int .i64 9] (by rfl) rfl rfl mz ?_
 with_reducible refine (spec_l1Rd_pick.calls k3 g s0_0 t13 9 t14 t15 w2 _ ?side1 ?side2 A4.out).mono ?_
 (case side1 => exact qs8)
 (case side2 => exact qs10)
 rintro e w11 ⟨rfl, hi, hb, hk⟩
 refine ⟨_, rfl, ?_⟩
 replace K1 := am (KeepBut.blk hk (g' := g1) (o := b4 0 0 0 0 50) (Z K1) N2.out (by simp))
 replace K2 := am (KeepBut.blk hk (g' := g2) (o := b4 0 0 0 0 50) (Z K2) N6.out (by simp))
 replace K3 := am (KeepBut.blk hk (g' := g3) (o := b4 t2 t3 t4 t5 50) (Z K3) N12.out (by simp))
 replace K4 := am (KeepBut.blk hk (g' := g4) (o := b4 x4 x5 x6 x7 50) (Z K4) N20.out (by simp))
 replace HK := am (KeepBut.trans (qs9) hk (.inl rfl))
 replace HB := am (hb)
 replace I1 := am (hi)
 (try clear hb)
 (try clear hb2)
 (try clear hk)
 (try clear hi)
 refine kk hK (cc4 K3) fun hHeld => ?_
 clear hK K
 refine pk 9 59 3071 ?_
 refine on 10 (some 60) 4095 fun K hK => ?_
 refine gq Try.func44 (spec_l8Cut.calls _ _ _ _ _ A5.out) fun w12 hb => ?_
 replace K1 := bb K1 hb
 replace K2 := bb K2 hb
 replace K3 := bb K3 hb
 replace K4 := bb K4 hb
 replace HK := am (KeepBut.trans (qs9) (KeepBut.of_below hb g none) (.inl rfl))
 replace HB := am (below_step (qs10) hb)
 replace I1 := am (IsS99.below (qs8) hb)
 (try clear hb)
 (try clear hb2)
 (try clear hk)
 (try clear hi)
 refine kk hK (cc4 K3) fun hHeld => ?_
 clear hK K
 refine on 12 (some 62) 8191 fun K hK => ?_
 refine gq Try.func75 (spec_l10Rest.calls _ _ _ _ _ _ _ A6.out) fun w13 hb => ?_
 replace K1 := bb K1 hb
 replace K2 := bb K2 hb
 replace K3 := bb K3 hb
 replace K4 := bb K4 hb
 replace HK := am (KeepBut.trans (qs9) (KeepBut.of_below hb g none) (.inl rfl))
 replace HB := am (below_step (qs10) hb)
 replace I1 := am (IsS99.below (qs8) hb)
 (try clear hb)
 (try clear hb2)
 (try clear hk)
 (try clear hi)
 refine kk hK (cc4 K3) fun hHeld => ?_
 clear hK K
 refine on 13 (some 63) 16383 fun K hK => ?_
 refine gq Try.func73 (spec_ValMake.calls _ _ _ _ _ _ _ _ _ _ A7.out) fun w14 hb => ?_
 replace K1 := bb K1 hb
 replace K2 := bb K2 hb
 replace K3 := bb K3 hb
 replace K4 := bb K4 hb
 replace HK := am (KeepBut.trans (qs9) (KeepBut.of_below hb g none) (.inl rfl))
 replace HB := am (below_step (qs10) hb)
 replace I1 := am (IsS99.below (qs8) hb)
 (try clear hb)
 (try clear hb2)
 (try clear hk)
 (try clear hi)
 refine kk hK (cc4 K3) fun hHeld => ?_
 clear hK K
 refine on 14 none 32767 fun K hK => ?_
 have s8 : w14.cell? ⟨g4, 0, none⟩ = some (.int .i64 x4) := bc K4 0
 have hfs81 := blk_frozen K4.out 0
 have := ns6 N13 N15 N17 N14 N16 N18
 have s9 : w14.cell? ⟨g4, 1, none⟩ = some (.int .i64 x5) := bc K4 1
 have hfs82 := blk_frozen K4.out 1
 have := ns6 N13 N15 N17 N14 N16 N18
 have s10 : w14.cell? ⟨g4, 2, none⟩ = some (.int .i64 x6) := bc K4 2
 have hfs83 := blk_frozen K4.out 2
 have := ns6 N13 N15 N17 N14 N16 N18
 have s11 : w14.cell? ⟨g4, 3, none⟩ = some (.int .i64 x7) := bc K4 3
 have hfs84 := blk_frozen K4.out 3
 have := ns6 N13 N15 N17 N14 N16 N18
 refine skip_ (w1 := ?_) (by rfl) rfl ?_ ?_
 rotate_left
 ·go_simp
  rfl
 refine hK.out _ _ (cf4 N17 (cf4 N17 (cf4 N17 (cf4 N17 hHeld)))) (fun hHeld => ?_)
 clear hK K
 refine done_ (done_of HT_.out (by kernel_rfl)) ?_
 try go_wp2
 have n0_ : Aside0 (((((w14.setCell ⟨g4, 0, none⟩ (.int .i64 t20)).setCell ⟨g4, 1, none⟩ (.int .i64 t21)).setCell ⟨g4, 2, none⟩ (.int .i64 t22)).setCell ⟨g4, 3, none⟩ (.int .i64 t23)).heap[g1]? = some (.cells #[.int .i64 0, .int .i64 0, .int .i64 0, .int .i64 0] 50 (0, 0))) := ⟨ft N13 K1⟩
 have n1_ : Aside0 (((((w14.setCell ⟨g4, 0, none⟩ (.int .i64 t20)).setCell ⟨g4, 1, none⟩ (.int .i64 t21)).setCell ⟨g4, 2, none⟩ (.int .i64 t22)).setCell ⟨g4, 3, none⟩ (.int .i64 t23)).heap[g2]? = some (.cells #[.int .i64 0, .int .i64 0, .int .i64 0, .int .i64 0] 50 (0, 0))) := ⟨ft N15 K2⟩
 have n2_ : Aside0 (((((w14.setCell ⟨g4, 0, none⟩ (.int .i64 t20)).setCell ⟨g4, 1, none⟩ (.int .i64 t21)).setCell ⟨g4, 2, none⟩ (.int .i64 t22)).setCell ⟨g4, 3, none⟩ (.int .i64 t23)).heap[g3]? = some (.cells #[.int .i64 t2, .int .i64 t3, .int .i64 t4, .int .i64 t5] 50 (0, 0))) := ⟨ft N17 K3⟩
 have n3_ : Aside0 (((((w14.setCell ⟨g4, 0, none⟩ (.int .i64 t20)).setCell ⟨g4, 1, none⟩ (.int .i64 t21)).setCell ⟨g4, 2, none⟩ (.int .i64 t22)).setCell ⟨g4, 3, none⟩ (.int .i64 t23)).heap[g4]? = some (.cells #[.int .i64 t20, .int .i64 t21, .int .i64 t22, .int .i64 t23] 50 (0, 0))) := ⟨by refine pf ?_; refine bp (ia4 t20 t21 t22 x7) ?_ 3; refine pf ?_; refine bp (ia4 t20 t21 x6 x7) ?_ 2; refine pf ?_; refine bp (ia4 t20 x5 x6 x7) ?_ 1; refine pf ?_; refine bp (ia4 x4 x5 x6 x7) ?_ 0; exact Z K4⟩
 have n4_ : Aside0 (IsS99 w2 ((((w14.setCell ⟨g4, 0, none⟩ (.int .i64 t20)).setCell ⟨g4, 1, none⟩ (.int .i64 t21)).setCell ⟨g4, 2, none⟩ (.int .i64 t22)).setCell ⟨g4, 3, none⟩ (.int .i64 t23)) g s0_0 t15) := ⟨qs8⟩
 have n5_ : Aside0 (KeepBut w ((((w14.setCell ⟨g4, 0, none⟩ (.int .i64 t20)).setCell ⟨g4, 1, none⟩ (.int .i64 t21)).setCell ⟨g4, 2, none⟩ (.int .i64 t22)).setCell ⟨g4, 3, none⟩ (.int .i64 t23)) g none) := ⟨qs9⟩
 have n6_ : Aside0 (Below w2.heap.size w2 ((((w14.setCell ⟨g4, 0, none⟩ (.int .i64 t20)).setCell ⟨g4, 1, none⟩ (.int .i64 t21)).setCell ⟨g4, 2, none⟩ (.int .i64 t22)).setCell ⟨g4, 3, none⟩ (.int .i64 t23))) := ⟨qs10⟩
 (try clear K1)
 (try clear K2)
 (try clear K3)
 (try clear K4)
 (try clear I1)
 (try clear HK)
 (try clear HB)
 generalize ((((w14.setCell ⟨g4, 0, none⟩ (.int .i64 t20)).setCell ⟨g4, 1, none⟩ (.int .i64 t21)).setCell ⟨g4, 2, none⟩ (.int .i64 t22)).setCell ⟨g4, 3, none⟩ (.int .i64 t23)) = w15 at n0_ n1_ n2_ n3_ n4_ n5_ n6_ ⊢
 have K1 := n0_
 have K2 := n1_
 have K3 := n2_
 have K4 := n3_
 have I1 := n4_
 have HK := n5_
 have HB := n6_
 clear n0_ n1_ n2_ n3_ n4_ n5_ n6_
 replace K1 := am (blk_drew K1.out)
 replace K2 := am (blk_drew K2.out)
 replace K3 := am (blk_drew K3.out)
 replace K4 := am (blk_drew K4.out)
 replace I1 := am (IsS99.drew I1.out)
 replace HK := am (keep_drew HK.out)
 replace HB := am (below_drew1 HB.out)
 refine start_ (n := 4) (S := fun w' => ce4 w' g3 t2 t3 t4 t5 ∧ ce4 w' g4 t20 t21 t22 t23) (ds := []) (lb 4 0) (by kernel_rfl) rfl rfl ⟨cc4 K3, cc4 K4⟩ (fun hHeld => ?_)
 generalize w15.drew = w16 at K1 K2 K3 K4 I1 HK HB hHeld ⊢
 refine tq 0 64 1 hHeld ?_
 refine tq 1 65 3 hHeld ?_
 refine one_ (i := 2) (N := none) (lb 4 7) rfl rfl (by kernel_rfl) (by decide) (fun K hK => ?_)
 have s12 : w16.cell? ⟨g1, 0, none⟩ = some (.int .i64 0) := bc K1 0
 have hfs87 := blk_frozen K1.out 0
 have := ns6 N4 N8 N14 N3 N7 N13
 have s13 : w16.cell? ⟨g1, 1, none⟩ = some (.int .i64 0) := bc K1 1
 have hfs88 := blk_frozen K1.out 1
 have := ns6 N4 N8 N14 N3 N7 N13
 have s14 : w16.cell? ⟨g1, 2, none⟩ = some (.int .i64 0) := bc K1 2
 have hfs89 := blk_frozen K1.out 2
 have := ns6 N4 N8 N14 N3 N7 N13
 have s15 : w16.cell? ⟨g1, 3, none⟩ = some (.int .i64 0) := bc K1 3
 have hfs90 := blk_frozen K1.out 3
 have := ns6 N4 N8 N14 N3 N7 N13
 refine skip_ (w1 := ?_) (by rfl) rfl ?_ ?_
 rotate_left
 ·go_simp
  rfl
 refine hK.out _ _ ⟨cf4 N8 (cf4 N8 (cf4 N8 (cf4 N8 hHeld.1))), cf4 N14 (cf4 N14 (cf4 N14 (cf4 N14 hHeld.2)))⟩ (fun hHeld => ?_)
 clear hK K
 refine one_ (i := 3) (N := none) (lb 4 15) rfl rfl (by kernel_rfl) (by decide) (fun K hK => ?_)
 have s16 : w16.cell? ⟨g2, 0, none⟩ = some (.int .i64 0) := bc K2 0
 have hfs91 := blk_frozen K2.out 0
 have := ns6 N3 N10 N16 N4 N9 N15
 have s17 : w16.cell? ⟨g2, 1, none⟩ = some (.int .i64 0) := bc K2 1
 have hfs92 := blk_frozen K2.out 1
 have := ns6 N3 N10 N16 N4 N9 N15
 have s18 : w16.cell? ⟨g2, 2, none⟩ = some (.int .i64 0) := bc K2 2
 have hfs93 := blk_frozen K2.out 2
 have := ns6 N3 N10 N16 N4 N9 N15
 have s19 : w16.cell? ⟨g2, 3, none⟩ = some (.int .i64 0) := bc K2 3
 have hfs94 := blk_frozen K2.out 3
 have := ns6 N3 N10 N16 N4 N9 N15
 refine skip_ (w1 := ?_) (by rfl) rfl ?_ ?_
 rotate_left
 ·go_simp
  rfl
 refine hK.out _ _ ⟨cf4 N10 (cf4 N10 (cf4 N10 (cf4 N10 hHeld.1))), cf4 N16 (cf4 N16 (cf4 N16 (cf4 N16 hHeld.2)))⟩ (fun hHeld => ?_)
 clear hK K
 refine done_ (by kernel_rfl) ?_
 try go_wp2
 refine bodyPost_ret (results_cc rfl _ _ g1 g2 50 50 #[.int .i64 t2, .int .i64 t3, .int .i64 t4, .int .i64 t5] #[.int .i64 t20, .int .i64 t21, .int .i64 t22, .int .i64 t23] (0, 0) (0, 0) _ _ rfl (by refine fa N3 ?_; refine fa N3 ?_; refine fa N3 ?_; refine fa N3 ?_; refine pf ?_; refine bp (ia4 t2 t3 t4 0) ?_ 3; refine pf ?_; refine bp (ia4 t2 t3 0 0) ?_ 2; refine pf ?_; refine bp (ia4 t2 0 0 0) ?_ 1; refine pf ?_; refine bp (ia4 0 0 0 0) ?_ 0; exact Z K1) Try.underlying50 rfl (by kernel_rfl) rfl (by refine pf ?_; refine bp (ia4 t20 t21 t22 0) ?_ 3; refine pf ?_; refine bp (ia4 t20 t21 0 0) ?_ 2; refine pf ?_; refine bp (ia4 t20 0 0 0) ?_ 1; refine pf ?_; refine bp (ia4 0 0 0 0) ?_ 0; refine fa N4 ?_; refine fa N4 ?_; refine fa N4 ?_; refine fa N4 ?_; exact Z K2) Try.underlying50 rfl (by kernel_rfl)) rfl ?_
 exact ⟨ez, qs8, qs10, qs9⟩
end
section
attribute [local go_sem] max2_int min2_int max_two min_two max_three min_three max_four min_four
attribute [local go_sem] Go.Proofs.YthbkakcchgnhpaaSet.isSome_setCell
def spec_DrawValCmp.f (k : Nat) (l0 : List Int) : Option (Int × Int × Int × Int × Int × Int × Int × Int × Int) := (spec_l1Open.f l0).bind fun u1 => ((spec_l1Rd_pick.f k u1.1 u1.2 8).bind fun u2 => ((spec_l10Two.f k u1.1 u2.2).bind fun u3 => (some (u2.1, u3.1, u3.2.1, u3.2.2.1, u3.2.2.2.1, u3.2.2.2.2.1, u3.2.2.2.2.2.1, u3.2.2.2.2.2.2.1, u3.2.2.2.2.2.2.2.1))))
theorem spec_DrawValCmp.mono : ∀ a0 k, LeO (spec_DrawValCmp.f k a0) (spec_DrawValCmp.f (k + 1) a0) := by
 intro a0 k
 unfold spec_DrawValCmp.f
 repeat' first | (with_reducible first | apply spec_l10Two.mono | apply spec_l1Rd_pick.mono | apply LeO.refl | apply LeO.none | refine LeO.ite ?_ ?_ | refine LeO.bind ?_ (fun _ => ?_)) | apply spec_l10Two.mono | apply spec_l1Rd_pick.mono | apply LeO.none | refine LeO.ite ?_ ?_ | refine LeO.bind ?_ (fun _ => ?_)
set_option maxHeartbeats 8000000 in
set_option maxRecDepth 100000 in
theorem spec_DrawValCmp.calls (k : Nat) (A1 : Option Addr) (c1 : Nat) (l0 : List Int) (r1 : Int) (r2 : Int) (r3 : Int) (r4 : Int) (r5 : Int) (r6 : Int) (r7 : Int) (r8 : Int) (r9 : Int) (w : World) (hr0 : Kd.C (Kd.int .u8) w A1 l0.length l0) (hc0 : l0.length ≤ c1) (h : spec_DrawValCmp.f k l0 = some (r1, r2, r3, r4, r5, r6, r7, r8, r9)) :
  Calls Try.prog 32 #[.slice A1 l0.length c1] w fun e w' => e = .returned (.tuple #[.int .i64 r1, .agg #[.int .i64 r2, .int .i64 r3, .int .i64 r4, .int .i64 r5], .agg #[.int .i64 r6, .int .i64 r7, .int .i64 r8, .int .i64 r9]]) ∧ Below w.heap.size w w' := by
 have hu50 := Try.underlying50
 have R1 := am hr0
 have C1 := am hc0
 clear hr0 hc0
 have HB := am (Below.refl w.heap.size w)
 have H : ((spec_l1Open.f l0).bind fun u1 => ((spec_l1Rd_pick.f k u1.1 u1.2 8).bind fun u2 => ((spec_l10Two.f k u1.1 u2.2).bind fun u3 => (some (u2.1, u3.1, u3.2.1, u3.2.2.1, u3.2.2.2.1, u3.2.2.2.2.1, u3.2.2.2.2.2.1, u3.2.2.2.2.2.2.1, u3.2.2.2.2.2.2.2.1))))) = some (r1, r2, r3, r4, r5, r6, r7, r8, r9) := h
 clear h
 obtain ⟨⟨t1, t2⟩, A2, H⟩ := bd H
 try dsimp only at H
 obtain ⟨⟨t3, t4⟩, A3, H⟩ := bd H
 try dsimp only at H
 obtain ⟨⟨t5, t6, t7, t8, t9, t10, t11, t12, t13⟩, A4, H⟩ := bd H
 try dsimp only at H
 simp only [Option.some.injEq, Prod.mk.injEq] at H
 obtain ⟨rfl, rfl, rfl, rfl, rfl, rfl, rfl, rfl, rfl⟩ := H
 go_enter Try.func32, Try.ntmps32
 try go_wp2_with (first | ((with_reducible refine gate_dst (N := 3) rfl ?_); refine bxn 3 #[.int .i64 0, .int .i64 0, .int .i64 0, .int .i64 0] 50 HB fun g1 w2 K1 G1 hg hb => ?_; replace HB := am (below_step (YA HB) hb); clear hb hg) | ((with_reducible refine gate_dst (N := 4) rfl ?_); refine bxn 4 #[.int .i64 0, .int .i64 0, .int .i64 0, .int .i64 0] 50 HB fun g2 w3 K2 G2 hg hb => ?_; obtain ⟨N1,N2⟩ := ne_ hg K1; obtain ⟨K1, HB⟩ := bk1 K1 HB hb; clear hb hg) | ((with_reducible refine gate_callee (f := 56) rfl ?_); refine goesL_ (some 10) rfl rfl Try.func56 (by kernel_rfl) rfl #[.slice A1 l0.length c1] rfl mz ?_; (with_reducible refine (spec_l1Open.calls _ _ l0 t1 t2 w _ ?side1 ?side2 ?side3 A2.out).mono ?_); (case side1 => repeat (first | (with_reducible first | exact HB.out | apply below_alloc | apply pw_below_drewN | apply below_drew1 | refine below_set ?_ G1.out | refine below_set ?_ G2.out) | exact HB.out)); (case side2 => exact R1.out); (case side3 => exact C1.out); rintro e w4 ⟨g683, rfl, hi, hb, hb2⟩; refine ⟨_, rfl, ?_⟩; have I1 := am (hi); have N3 := am (IsS99.ne_blk hi (blk_below (g := g1) (o := b4 0 0 0 0 50) (Z K1) hb2) (by decide)); have N4 := am (Ne.symm (IsS99.ne_blk hi (blk_below (g := g1) (o := b4 0 0 0 0 50) (Z K1) hb2) (by decide))); have N5 := am (IsS99.ne_blk hi (blk_below (g := g2) (o := b4 0 0 0 0 50) (Z K2) hb2) (by decide)); have N6 := am (Ne.symm (IsS99.ne_blk hi (blk_below (g := g2) (o := b4 0 0 0 0 50) (Z K2) hb2) (by decide))); replace K1 := am (blk_below (g := g1) (o := b4 0 0 0 0 50) (Z K1) hb2); replace K2 := am (blk_below (g := g2) (o := b4 0 0 0 0 50) (Z K2) hb2); replace HB := am (hb); (try clear hb)) | ((with_reducible refine gate_callee (f := 57) rfl ?_); refine goesL_ (some 12) rfl rfl Try.func57 (by kernel_rfl) rfl #[.pointer (some ⟨g683, 0, none⟩), .int .i64 8] rfl mz ?_; (with_reducible refine (spec_l1Rd_pick.calls k g683 t1 t2 8 t3 t4 w _ ?side1 ?side2 A3.out).mono ?_); (case side1 => exact qs15); (case side2 => exact qs16); rintro e w5 ⟨rfl, hi, hb, hk⟩; refine ⟨_, rfl, ?_⟩; replace K1 := am (KeepBut.blk hk (g' := g1) (o := b4 0 0 0 0 50) (Z K1) N4.out (by simp)); replace K2 := am (KeepBut.blk hk (g' := g2) (o := b4 0 0 0 0 50) (Z K2) N6.out (by simp)); replace HB := am (hb); replace I1 := am (hi); (try clear hb)) | ((with_reducible refine gate_callee (f := 83) rfl ?_); refine goesL_ (some 15) rfl rfl Try.func83 (by kernel_rfl) rfl #[.pointer (some ⟨g683, 0, none⟩)] rfl mz ?_; (with_reducible refine (spec_l10Two.calls k g683 t1 t4 t5 t6 t7 t8 t9 t10 t11 t12 t13 w _ ?side1 ?side2 A4.out).mono ?_); (case side1 => exact qs15); (case side2 => exact qs16); rintro e w6 ⟨rfl, hi, hb, hk⟩; refine ⟨_, rfl, ?_⟩; replace K1 := am (KeepBut.blk hk (g' := g1) (o := b4 0 0 0 0 50) (Z K1) N4.out (by simp)); replace K2 := am (KeepBut.blk hk (g' := g2) (o := b4 0 0 0 0 50) (Z K2) N6.out (by simp)); replace HB := am (hb); replace I1 := am (hi); (try clear hb)) | ((with_reducible refine gate_dst (N := 7) rfl ?_); refine bx 7 #[.int .i64 0, .int .i64 0, .int .i64 0, .int .i64 0] 50 ?_; intro g3 hg w7 hbox hb; have K3 := am (hbox); have G3 := am ((by rw [hg]; exact (below_size (qs16)) : w.heap.size ≤ g3)); have G4 := am ((by rw [hg]; exact (below_size (qs16)) : w.heap.size ≤ g3)); obtain ⟨N7,N8⟩ := ne_ hg K1; obtain ⟨N9,N10⟩ := ne_ hg K2; have N11 := am ((by rw [hg]; exact Nat.ne_of_lt (IsS99.lt (show IsS99 w _ g683 t1 t13 from qs15)) : g683 ≠ g3)); have N12 := am ((by rw [hg]; exact Nat.ne_of_gt (IsS99.lt (show IsS99 w _ g683 t1 t13 from qs15)) : g3 ≠ g683)); replace K1 := bb K1 hb; replace K2 := bb K2 hb; replace HB := am (below_step (qs16) hb); replace I1 := am (IsS99.below (qs15) hb); clear hb hbox hg) | ((with_reducible refine gate_dst (N := 8) rfl ?_); refine bx 8 #[.int .i64 0, .int .i64 0, .int .i64 0, .int .i64 0] 50 ?_; intro g4 hg w8 hbox hb; have K4 := am (hbox); have G5 := am ((by rw [hg]; exact (below_size (qs19)) : w.heap.size ≤ g4)); have G6 := am ((by rw [hg]; exact (below_size (qs19)) : w.heap.size ≤ g4)); obtain ⟨N13,N14⟩ := ne_ hg K1; obtain ⟨N15,N16⟩ := ne_ hg K2; obtain ⟨N17,N18⟩ := ne_ hg K3; have N19 := am ((by rw [hg]; exact Nat.ne_of_lt (IsS99.lt (show IsS99 w _ g683 t1 t13 from qs20)) : g683 ≠ g4)); have N20 := am ((by rw [hg]; exact Nat.ne_of_gt (IsS99.lt (show IsS99 w _ g683 t1 t13 from qs20)) : g4 ≠ g683)); replace K1 := bb K1 hb; replace K2 := bb K2 hb; replace K3 := bb K3 hb; replace HB := am (below_step (qs19) hb); replace I1 := am (IsS99.below (qs20) hb); clear hb hbox hg; have := ns7 N8 N10 N17 N12 N14 N16 N20; have := cB4 K3; have := cB4 K4))
 have n0_ : Aside0 (((((((((w8.setCell ⟨g3, 0, none⟩ (.int .i64 t5)).setCell ⟨g3, 1, none⟩ (.int .i64 t6)).setCell ⟨g3, 2, none⟩ (.int .i64 t7)).setCell ⟨g3, 3, none⟩ (.int .i64 t8)).setCell ⟨g4, 0, none⟩ (.int .i64 t9)).setCell ⟨g4, 1, none⟩ (.int .i64 t10)).setCell ⟨g4, 2, none⟩ (.int .i64 t11)).setCell ⟨g4, 3, none⟩ (.int .i64 t12)).heap[g1]? = some (.cells #[.int .i64 0, .int .i64 0, .int .i64 0, .int .i64 0] 50 (0, 0))) := ⟨ft2 N13 N7 K1⟩
 have n1_ : Aside0 (((((((((w8.setCell ⟨g3, 0, none⟩ (.int .i64 t5)).setCell ⟨g3, 1, none⟩ (.int .i64 t6)).setCell ⟨g3, 2, none⟩ (.int .i64 t7)).setCell ⟨g3, 3, none⟩ (.int .i64 t8)).setCell ⟨g4, 0, none⟩ (.int .i64 t9)).setCell ⟨g4, 1, none⟩ (.int .i64 t10)).setCell ⟨g4, 2, none⟩ (.int .i64 t11)).setCell ⟨g4, 3, none⟩ (.int .i64 t12)).heap[g2]? = some (.cells #[.int .i64 0, .int .i64 0, .int .i64 0, .int .i64 0] 50 (0, 0))) := ⟨ft2 N15 N9 K2⟩
 have n2_ : Aside0 (((((((((w8.setCell ⟨g3, 0, none⟩ (.int .i64 t5)).setCell ⟨g3, 1, none⟩ (.int .i64 t6)).setCell ⟨g3, 2, none⟩ (.int .i64 t7)).setCell ⟨g3, 3, none⟩ (.int .i64 t8)).setCell ⟨g4, 0, none⟩ (.int .i64 t9)).setCell ⟨g4, 1, none⟩ (.int .i64 t10)).setCell ⟨g4, 2, none⟩ (.int .i64 t11)).setCell ⟨g4, 3, none⟩ (.int .i64 t12)).heap[g3]? = some (.cells #[.int .i64 t5, .int .i64 t6, .int .i64 t7, .int .i64 t8] 50 (0, 0))) := ⟨by refine fa N17 ?_; refine fa N17 ?_; refine fa N17 ?_; refine fa N17 ?_; refine pf ?_; refine bp (ia4 t5 t6 t7 0) ?_ 3; refine pf ?_; refine bp (ia4 t5 t6 0 0) ?_ 2; refine pf ?_; refine bp (ia4 t5 0 0 0) ?_ 1; refine pf ?_; refine bp (ia4 0 0 0 0) ?_ 0; exact Z K3⟩
 have n3_ : Aside0 (((((((((w8.setCell ⟨g3, 0, none⟩ (.int .i64 t5)).setCell ⟨g3, 1, none⟩ (.int .i64 t6)).setCell ⟨g3, 2, none⟩ (.int .i64 t7)).setCell ⟨g3, 3, none⟩ (.int .i64 t8)).setCell ⟨g4, 0, none⟩ (.int .i64 t9)).setCell ⟨g4, 1, none⟩ (.int .i64 t10)).setCell ⟨g4, 2, none⟩ (.int .i64 t11)).setCell ⟨g4, 3, none⟩ (.int .i64 t12)).heap[g4]? = some (.cells #[.int .i64 t9, .int .i64 t10, .int .i64 t11, .int .i64 t12] 50 (0, 0))) := ⟨by refine pf ?_; refine bp (ia4 t9 t10 t11 0) ?_ 3; refine pf ?_; refine bp (ia4 t9 t10 0 0) ?_ 2; refine pf ?_; refine bp (ia4 t9 0 0 0) ?_ 1; refine pf ?_; refine bp (ia4 0 0 0 0) ?_ 0; refine fa N18 ?_; refine fa N18 ?_; refine fa N18 ?_; refine fa N18 ?_; exact Z K4⟩
 have n4_ : Aside0 (IsS99 w ((((((((w8.setCell ⟨g3, 0, none⟩ (.int .i64 t5)).setCell ⟨g3, 1, none⟩ (.int .i64 t6)).setCell ⟨g3, 2, none⟩ (.int .i64 t7)).setCell ⟨g3, 3, none⟩ (.int .i64 t8)).setCell ⟨g4, 0, none⟩ (.int .i64 t9)).setCell ⟨g4, 1, none⟩ (.int .i64 t10)).setCell ⟨g4, 2, none⟩ (.int .i64 t11)).setCell ⟨g4, 3, none⟩ (.int .i64 t12)) g683 t1 t13) := ⟨by repeat (first | (with_reducible first | exact I1.out | apply IsS99.alloc | apply IsS99.drewN | apply IsS99.drew | apply IsS99.set_1 | refine IsS99.far ?_ N3.out _ | refine IsS99.far ?_ N5.out _ | refine IsS99.far ?_ N11.out _ | refine IsS99.far ?_ N19.out _) | exact I1.out)⟩
 have n5_ : Aside0 (Below w.heap.size w ((((((((w8.setCell ⟨g3, 0, none⟩ (.int .i64 t5)).setCell ⟨g3, 1, none⟩ (.int .i64 t6)).setCell ⟨g3, 2, none⟩ (.int .i64 t7)).setCell ⟨g3, 3, none⟩ (.int .i64 t8)).setCell ⟨g4, 0, none⟩ (.int .i64 t9)).setCell ⟨g4, 1, none⟩ (.int .i64 t10)).setCell ⟨g4, 2, none⟩ (.int .i64 t11)).setCell ⟨g4, 3, none⟩ (.int .i64 t12))) := ⟨qs22⟩
 (try clear K1)
 (try clear K2)
 (try clear K3)
 (try clear K4)
 (try clear I1)
 (try clear HB)
 generalize ((((((((w8.setCell ⟨g3, 0, none⟩ (.int .i64 t5)).setCell ⟨g3, 1, none⟩ (.int .i64 t6)).setCell ⟨g3, 2, none⟩ (.int .i64 t7)).setCell ⟨g3, 3, none⟩ (.int .i64 t8)).setCell ⟨g4, 0, none⟩ (.int .i64 t9)).setCell ⟨g4, 1, none⟩ (.int .i64 t10)).setCell ⟨g4, 2, none⟩ (.int .i64 t11)).setCell ⟨g4, 3, none⟩ (.int .i64 t12)) = w9 at n0_ n1_ n2_ n3_ n4_ n5_ ⊢
 have K1 := n0_
 have K2 := n1_
 have K3 := n2_
 have K4 := n3_
 have I1 := n4_
 have HB := n5_
 clear n0_ n1_ n2_ n3_ n4_ n5_
 replace K1 := am (blk_drew K1.out)
 replace K2 := am (blk_drew K2.out)
 replace K3 := am (blk_drew K3.out)
 replace K4 := am (blk_drew K4.out)
 replace I1 := am (IsS99.drew I1.out)
 replace HB := am (below_drew1 HB.out)
 refine start_ (n := 6) (S := fun w' => ce4 w' g3 t5 t6 t7 t8 ∧ ce4 w' g4 t9 t10 t11 t12) (ds := []) (lb 6 0) (by kernel_rfl) rfl rfl ⟨cc4 K3, cc4 K4⟩ (fun hHeld => ?_)
 generalize w9.drew = w10 at K1 K2 K3 K4 I1 HB hHeld ⊢
 refine pure_ (i := 0) (N := some 18) (v := ?_) (a' := ?_) (lb 6 1) rfl rfl (by kernel_rfl) (fun _ _ _ h => h) (Or.inl ⟨by rfl, ?_⟩) ?_ ?_
 rotate_left
 ·exact gz
 rotate_left
 ·exact pz
 refine pure_ (i := 3) (N := some 2) (v := ?_) (a' := ?_) (lb 6 9) rfl rfl (by kernel_rfl) (fun _ _ _ h => h) (Or.inl ⟨by rfl, ?_⟩) ?_ ?_
 rotate_left
 ·exact gz
 rotate_left
 ·exact pz
 refine tq 1 19 11 hHeld ?_
 refine tq 2 20 15 hHeld ?_
 refine one_ (i := 4) (N := none) (lb 6 31) rfl rfl (by kernel_rfl) (by decide) (fun K hK => ?_)
 have s8 : w10.cell? ⟨g1, 0, none⟩ = some (.int .i64 0) := bc K1 0
 have hfs23 := blk_frozen K1.out 0
 have := ns6 N2 N8 N14 N1 N7 N13
 have s9 : w10.cell? ⟨g1, 1, none⟩ = some (.int .i64 0) := bc K1 1
 have hfs24 := blk_frozen K1.out 1
 have := ns6 N2 N8 N14 N1 N7 N13
 have s10 : w10.cell? ⟨g1, 2, none⟩ = some (.int .i64 0) := bc K1 2
 have hfs25 := blk_frozen K1.out 2
 have := ns6 N2 N8 N14 N1 N7 N13
 have s11 : w10.cell? ⟨g1, 3, none⟩ = some (.int .i64 0) := bc K1 3
 have hfs26 := blk_frozen K1.out 3
 have := ns6 N2 N8 N14 N1 N7 N13
 refine skip_ (w1 := ?_) (by rfl) rfl ?_ ?_
 rotate_left
 ·go_simp
  rfl
 refine hK.out _ _ ⟨cf4 N8 (cf4 N8 (cf4 N8 (cf4 N8 hHeld.1))), cf4 N14 (cf4 N14 (cf4 N14 (cf4 N14 hHeld.2)))⟩ (fun hHeld => ?_)
 clear hK K
 refine one_ (i := 5) (N := none) (lb 6 63) rfl rfl (by kernel_rfl) (by decide) (fun K hK => ?_)
 have s12 : w10.cell? ⟨g2, 0, none⟩ = some (.int .i64 0) := bc K2 0
 have hfs27 := blk_frozen K2.out 0
 have := ns6 N1 N10 N16 N2 N9 N15
 have s13 : w10.cell? ⟨g2, 1, none⟩ = some (.int .i64 0) := bc K2 1
 have hfs28 := blk_frozen K2.out 1
 have := ns6 N1 N10 N16 N2 N9 N15
 have s14 : w10.cell? ⟨g2, 2, none⟩ = some (.int .i64 0) := bc K2 2
 have hfs29 := blk_frozen K2.out 2
 have := ns6 N1 N10 N16 N2 N9 N15
 have s15 : w10.cell? ⟨g2, 3, none⟩ = some (.int .i64 0) := bc K2 3
 have hfs30 := blk_frozen K2.out 3
 have := ns6 N1 N10 N16 N2 N9 N15
 refine skip_ (w1 := ?_) (by rfl) rfl ?_ ?_
 rotate_left
 ·go_simp
  rfl
 refine hK.out _ _ ⟨cf4 N10 (cf4 N10 (cf4 N10 (cf4 N10 hHeld.1))), cf4 N16 (cf4 N16 (cf4 N16 (cf4 N16 hHeld.2)))⟩ (fun hHeld => ?_)
 clear hK K
 refine done_ (by kernel_rfl) ?_
 try go_wp2
 refine bodyPost_ret (results_list (rs := [.tmp 2, .cell 3 50, .cell 4 50]) rfl (by simp) (.tmp (.cell g1 50 #[.int .i64 t5, .int .i64 t6, .int .i64 t7, .int .i64 t8] (0, 0) _ rfl (by refine fa N1 ?_; refine fa N1 ?_; refine fa N1 ?_; refine fa N1 ?_; refine pf ?_; refine bp (ia4 t5 t6 t7 0) ?_ 3; refine pf ?_; refine bp (ia4 t5 t6 0 0) ?_ 2; refine pf ?_; refine bp (ia4 t5 0 0 0) ?_ 1; refine pf ?_; refine bp (ia4 0 0 0 0) ?_ 0; exact Z K1) Try.underlying50 rfl (by kernel_rfl) (.cell g2 50 #[.int .i64 t9, .int .i64 t10, .int .i64 t11, .int .i64 t12] (0, 0) _ rfl (by refine pf ?_; refine bp (ia4 t9 t10 t11 0) ?_ 3; refine pf ?_; refine bp (ia4 t9 t10 0 0) ?_ 2; refine pf ?_; refine bp (ia4 t9 0 0 0) ?_ 1; refine pf ?_; refine bp (ia4 0 0 0 0) ?_ 0; refine fa N2 ?_; refine fa N2 ?_; refine fa N2 ?_; refine fa N2 ?_; exact Z K2) Try.underlying50 rfl (by kernel_rfl) .nil)))) rfl ?_
 exact ⟨ez, qs22⟩

def impl_RestJoin.j0 : Nat → Bool → Int → Int → Int → Int → Option (Int × Int)
 | 0, _, _, _, _, _ => none
 | k + 1, x1, x2, x3, x4, x5 => if x1 = true then ((impl_restAll.f).bind fun u1 => (some (u1.1, u1.2))) else ((impl_restGcd.f k (([x2, x4, wrap64 (x3 - x5)] : List Int))).bind fun t1 => ((impl_restOf.f k x3 t1).bind fun u2 => (some (u2.1, u2.2))))
def impl_RestJoin.f (k : Nat) (a0_0 : Int) (a0_1 : Int) (a1_0 : Int) (a1_1 : Int) : Option (Int × Int) := (impl_RestOk.f a0_0 a0_1).bind fun t1 => (if t1 = true then ((impl_RestOk.f a1_0 a1_1).bind fun t2 => (impl_RestJoin.j0 k (!t2) a0_0 a0_1 a1_0 a1_1)) else (impl_RestJoin.j0 k true a0_0 a0_1 a1_0 a1_1))
theorem impl_RestJoin.mono_l : ∀ k, (∀ y0 y1 y2 y3 y4, LeO (impl_RestJoin.j0 k y0 y1 y2 y3 y4) (impl_RestJoin.j0 (k + 1) y0 y1 y2 y3 y4))
 | 0 => fun _ _ _ _ _ r h => by simp [impl_RestJoin.j0] at h
 | k + 1 => by
  have ih0 := impl_RestJoin.mono_l k
  ·intro y0 y1 y2 y3 y4
   unfold impl_RestJoin.j0
   repeat' first | (with_reducible first | apply ih0 | apply impl_restGcd.mono | apply impl_restOf.mono | apply LeO.refl | apply LeO.none | refine LeO.ite ?_ ?_ | refine LeO.bind ?_ (fun _ => ?_)) | apply ih0 | apply impl_restGcd.mono | apply impl_restOf.mono | apply LeO.none | refine LeO.ite ?_ ?_ | refine LeO.bind ?_ (fun _ => ?_)
theorem impl_RestJoin.mono : ∀ a0 a1 a2 a3 k, LeO (impl_RestJoin.f k a0 a1 a2 a3) (impl_RestJoin.f (k + 1) a0 a1 a2 a3) := by
 intro a0 a1 a2 a3 k
 have ih0 := impl_RestJoin.mono_l k
 unfold impl_RestJoin.f
 repeat' first | (with_reducible first | apply ih0 | apply impl_restGcd.mono | apply impl_restOf.mono | apply LeO.refl | apply LeO.none | refine LeO.ite ?_ ?_ | refine LeO.bind ?_ (fun _ => ?_)) | apply ih0 | apply impl_restGcd.mono | apply impl_restOf.mono | apply LeO.none | refine LeO.ite ?_ ?_ | refine LeO.bind ?_ (fun _ => ?_)
def impl_RestJoin.T3 : Bool × List (List Nat × List Nat) := (true, [([], []), ([0], [0]), ([], []), ([2], [2]), ([], []), ([4], [4]), ([], []), ([6], [6]), ([], []), ([8], [8]), ([7, 9], [7, 9]), ([3, 5, 10], [3, 5, 10]), ([11], [11]), ([1, 12, 12], [1, 12]), ([13, 13, 0, 1, 2, 3, 4, 5, 6, 7, 8, 9, 10, 11, 12, 13], [13])])
def impl_RestJoin.B3 : List Nat := [0, 1, 0, 4, 0, 16, 0, 64, 0, 256, 960, 2044, 4092, 8191, 16383]
theorem impl_RestJoin.tab3 : rtab .any (opsOf Try.f85 3) = impl_RestJoin.T3 := by kernel_rfl
theorem impl_RestJoin.bits3 : waitsOk impl_RestJoin.T3.2 impl_RestJoin.B3 = true := by kernel_rfl
set_option maxHeartbeats 8000000 in
set_option maxRecDepth 100000 in
theorem impl_RestJoin.calls (k : Nat) (a0_0 : Int) (a0_1 : Int) (a1_0 : Int) (a1_1 : Int) (r1 : Int) (r2 : Int) (w : World) (h : impl_RestJoin.f k a0_0 a0_1 a1_0 a1_1 = some (r1, r2)) :
  Calls Try.prog 85 #[.agg #[.int .i64 a0_0, .int .i64 a0_1], .agg #[.int .i64 a1_0, .int .i64 a1_1]] w fun e w' => e = .returned (.agg #[.int .i64 r1, .int .i64 r2]) ∧ Below w.heap.size w w' := by
 have hu86 := Try.underlying86
 have HB := am (Below.refl w.heap.size w)
 have H : ((impl_RestOk.f a0_0 a0_1).bind fun t1 => (if t1 = true then ((impl_RestOk.f a1_0 a1_1).bind fun t2 => (impl_RestJoin.j0 k (!t2) a0_0 a0_1 a1_0 a1_1)) else (impl_RestJoin.j0 k true a0_0 a0_1 a1_0 a1_1))) = some (r1, r2) := h
 clear h
 have C1 := am H
 clear H
 go_enter Try.func85, Try.ntmps85
 go_upto_region 1 with (first | ((with_reducible refine gate_dst (N := 2) rfl ?_); refine bxn 2 #[.int .i64 a0_0, .int .i64 a0_1] 86 HB fun g1 w2 K1 G1 hg hb => ?_; replace HB := am (below_step (YA HB) hb); clear hb hg) | ((with_reducible refine gate_dst (N := 3) rfl ?_); refine bxn 3 #[.int .i64 a1_0, .int .i64 a1_1] 86 HB fun g2 w3 K2 G2 hg hb => ?_; obtain ⟨N1,N2⟩ := ne_ hg K1; obtain ⟨K1, HB⟩ := bk1 K1 HB hb; clear hb hg) | ((with_reducible refine gate_dst (N := 4) rfl ?_); refine bxn 4 #[.int .i64 0, .int .i64 0] 86 HB fun g3 w4 K3 G3 hg hb => ?_; obtain ⟨N3,N4⟩ := ne_ hg K1; obtain ⟨N5,N6⟩ := ne_ hg K2; obtain ⟨K1, K2, HB⟩ := bk2 K1 K2 HB hb; clear hb hg))
 (try simp only [Act.put, List.setIfInBounds_toArray, List.set_cons_zero, List.set_cons_succ])
 go_cut [12] (fun v1 wc => ∃ (kq : Nat) (x1 : Bool), v1 = .bool x1 ∧ Aside0 (impl_RestJoin.j0 kq x1 a0_0 a0_1 a1_0 a1_1 = some (r1, r2)) ∧ Aside0 (kq ≤ k) ∧ Bx2 wc g1 a0_0 a0_1 86 ∧ Bx2 wc g2 a1_0 a1_1 86 ∧ Bx2 wc g3 0 0 86 ∧ Aside0 (Below w.heap.size w wc))
 case first =>
  have H := C1.out
  clear C1
  obtain ⟨t1, A1, H⟩ := bd H
  try dsimp only at H
  by_cases c1 : t1 = true
  rotate_left
  ·replace c1 := Bool.eq_false_iff.mpr c1
   subst c1
   rw [if_neg ff] at H
   have H' := am H
   clear H
   have := ns2 N1 N3
   have := cB2 K1
   go_wp2_with (first | ((with_reducible refine gate_callee (f := 108) rfl ?_); refine gL 6 Try.func108 (impl_RestOk.calls _ _ _ _ A1.out) fun w5 hb => ?_; obtain ⟨K1, K2, K3, HB⟩ := bk3 K1 K2 K3 HB hb; (try clear hb)))
   go_meet
   case rel => exact ⟨_, (true), ey, H', le0, ⟨Z K1⟩, ⟨Z K2⟩, ⟨Z K3⟩, ⟨YA HB⟩⟩
  subst c1
  rw [if_pos rfl] at H
  obtain ⟨t2, A2, H⟩ := bd H
  try dsimp only at H
  have H' := am H
  clear H
  have := ns2 N1 N3
  have := cB2 K1
  go_wp2_with (first | ((with_reducible refine gate_callee (f := 108) rfl ?_); refine gL 6 Try.func108 (impl_RestOk.calls _ _ _ _ A1.out) fun w5 hb => ?_; obtain ⟨K1, K2, K3, HB⟩ := bk3 K1 K2 K3 HB hb; (try clear hb); have := ns1 N5; have := cB2 K2) | (go_at_call 108; (with_reducible refine (impl_RestOk.calls _ _ _ _ A2.out).mono ?_); rintro e w6 ⟨rfl, hb⟩; obtain ⟨K1, K2, K3, HB⟩ := bk3 K1 K2 K3 HB hb; (try clear hb)))
  go_meet
  case rel => exact ⟨_, (!t2), ey, H', le0, ⟨Z K1⟩, ⟨Z K2⟩, ⟨Z K3⟩, ⟨YA HB⟩⟩
 clear C1
 obtain ⟨kq, x1, rfl, HA, J1, K1, K2, K3, HB⟩ := hcut
 cases kq with
 | zero => exact absurd HA.out (by simp [impl_RestJoin.j0])
 | succ k1 => ?_
 have H := HA.out
 clear HA
 simp only [impl_RestJoin.j0] at H
 by_cases c1 : x1 = true
 ·subst c1
  rw [if_pos rfl] at H
  obtain ⟨⟨t3, t4⟩, A1, H⟩ := bd H
  try dsimp only at H
  obtain ⟨rfl, rfl⟩ := sj2 H
  go_wp2_with (first | ((with_reducible refine gate_callee (f := 111) rfl ?_); refine gL 13 Try.func111 (impl_restAll.calls _ _ _ A1.out) fun w5 hb => ?_; obtain ⟨K1, K2, K3, HB⟩ := bk3 K1 K2 K3 HB hb; (try clear hb); have := ns2 N4 N6; have := cB2 K3))
  refine bodyPost_ret (results_cell_row rfl _ _ g3 86 #[.int .i64 t3, .int .i64 t4] (0, 0) _ rfl (by refine pf ?_; refine bp (ia2 t3 0) ?_ 1; refine pf ?_; refine bp (ia2 0 0) ?_ 0; exact Z K3) Try.underlying86 rfl (by kernel_rfl)) rfl ?_
  exact ⟨ez, YA HB⟩
 replace c1 := Bool.eq_false_iff.mpr c1
 subst c1
 rw [if_neg ff] at H
 obtain ⟨y1, y2⟩ : ∃ y_ : List Int, y_ = (([a0_0, a1_0, wrap64 (a0_1 - a1_1)] : List Int)) := ⟨_, rfl⟩
 replace H : ((impl_restGcd.f k1 y1).bind fun t3 => ((impl_restOf.f k1 a0_1 t3).bind fun u1 => (some (u1.1, u1.2)))) = some (r1, r2) := by first | (rw [y2]; with_reducible exact H) | (have H2_ := (Option.bind_some _ _).symm.trans H; rw [y2]; with_reducible exact H2_) | (have H2_ := (Option.bind_some _ _).symm.trans H; with_reducible exact H2_) | with_reducible exact H | (rw [y2]; exact H) | exact H
 have Y25 := am y2
 clear y2
 obtain ⟨t3, A1, H⟩ := bd H
 try dsimp only at H
 obtain ⟨⟨t4, t5⟩, A2, H⟩ := bd H
 try dsimp only at H
 obtain ⟨rfl, rfl⟩ := sj2 H
 try go_wp2
 obtain ⟨K1, K2, K3, HB⟩ := dk3 K1 K2 K3 HB
 refine start_ (n := 15) (S := fun w' => ce2 w' g1 a0_0 a0_1 ∧ ce2 w' g2 a1_0 a1_1) (ds := []) (lb 15 0) (by kernel_rfl) rfl rfl ⟨cc2 K1, cc2 K2⟩ (fun hHeld => ?_); refine with_tabW impl_RestJoin.tab3 impl_RestJoin.bits3 (fun HT_ HW_ => ?_)
 generalize wc.drew = w5 at K1 K2 K3 HB hHeld ⊢
 refine pk 0 14 1 ?_
 refine pk 2 16 5 ?_
 refine pk 4 18 21 ?_
 refine pk 6 20 85 ?_
 refine pk 8 22 341 ?_
 refine tk 1 15 343 hHeld ?_
 refine tk 3 17 351 hHeld ?_
 refine tk 5 19 383 hHeld ?_
 refine tk 7 21 511 hHeld ?_
 refine tk 9 23 1023 hHeld ?_
 refine pk 10 24 2047 ?_
 refine on 11 (some 25) 4095 fun K hK => ?_
 refine Kd.R_lit_step (Kd.int .i64) _ 3 ?hg (N := 25) ?hd (xs := ([a0_0, a1_0, wrap64 (a0_1 - a1_1)] : List Int)) (inner := [.int .i64 a0_0, .int .i64 a1_0, .int .i64 (wrap64 (a0_1 - a1_1))]) (ok := fun _ => True) (okp := fun _ => True) ?hr ?hp (fun _ hk => hk) trivial (Below.refl _ _) (Nat.le_refl _) (by simp) ?_; (case hd => rfl); (case hg => rfl); (case hr => first | (go_simp; done) | (go_simp; rfl)); (case hp => exact (Reps.one (show Kd.M (Kd.int .i64) _ _ _ a0_0 [.int .i64 a0_0] from rfl) (Reps.one (show Kd.M (Kd.int .i64) _ _ _ a1_0 [.int .i64 a1_0] from rfl) (Reps.one (show Kd.M (Kd.int .i64) _ _ _ (wrap64 (a0_1 - a1_1)) [.int .i64 (wrap64 (a0_1 - a1_1))] from rfl) (Reps.none _ _)))))
 intro v2 w6 o1 hb hg_ hnew_
 clear hg_ hnew_
 (first | rw [← Y25.out] at o1 | (simp only [Int.reduceToNat] at o1; rw [← Y25.out] at o1))
 have O1 := am (Kd.R_lower o1 (below_size (YA HB)))
 obtain ⟨K1, K2, K3, HB⟩ := bk3 K1 K2 K3 HB hb
 clear hb o1
 obtain ⟨q1, f1, e1⟩ := Kd.R_slice O1.out
 (first | subst e1 | (injection e1 with f1_ f2_ f3_; have f4_ := f1_.symm; have f5_ := f3_.symm; clear f1_ f2_ f3_; subst f4_; subst f5_))
 refine kk hK ⟨cc2 K1, cc2 K2⟩ fun hHeld => ?_
 clear hK K
 refine on 12 (some 26) 8191 fun K hK => ?_
 refine goes_ Try.func113 (by kernel_rfl) rfl #[.slice q1 y1.length f1] (by rfl) rfl rfl mz ?_
 with_reducible refine (impl_restGcd.calls k1 _ _ y1 t3 _ ?side1 ?side2 A1.out).mono ?_
 (case side1 => exact qs14)
 (case side2 => exact (Kd.R_reads' O1.out).2.1)
 rintro e w' ⟨rfl, ⟨nd, rfl⟩⟩
 refine ⟨_, rfl, ?_⟩
 refine kk hK ⟨cc2 K1, cc2 K2⟩ fun hHeld => ?_
 clear hK K
 refine on 13 (some 27) 16383 fun K hK => ?_
 refine gq Try.func112 (impl_restOf.calls _ _ _ _ _ _ A2.out) fun w7 hb => ?_
 replace O1 := am (Kd.R_below (RZ O1) hb)
 obtain ⟨K1, K2, K3, HB⟩ := bk3 K1 K2 K3 HB hb
 clear hb
 refine kk hK ⟨cc2 K1, cc2 K2⟩ fun hHeld => ?_
 clear hK K
 refine on 14 none 32767 fun K hK => ?_
 have s1 : w7.cell? ⟨g3, 0, none⟩ = some (.int .i64 0) := bc K3 0
 have hfs34 := blk_frozen K3.out 0
 have := ns4 N3 N5 N4 N6
 have s2 : w7.cell? ⟨g3, 1, none⟩ = some (.int .i64 0) := bc K3 1
 have hfs35 := blk_frozen K3.out 1
 have := ns4 N3 N5 N4 N6
 refine skip_ (w1 := ?_) (by rfl) rfl ?_ ?_
 rotate_left
 ·go_simp
  rfl
 refine hK.out _ _ ⟨cf2 N3 (cf2 N3 hHeld.1), cf2 N5 (cf2 N5 hHeld.2)⟩ (fun hHeld => ?_)
 clear hK K
 refine done_ (done_of HT_.out (by kernel_rfl)) ?_
 try go_wp2
 refine bodyPost_ret (results_cell_row rfl _ _ g3 86 #[.int .i64 t4, .int .i64 t5] (0, 0) _ rfl (by refine pf ?_; refine bp (ia2 t4 0) ?_ 1; refine pf ?_; refine bp (ia2 0 0) ?_ 0; exact Z K3) Try.underlying86 rfl (by kernel_rfl)) rfl ?_
 exact ⟨ez, YA HB⟩
end
section
attribute [local go_sem] max2_int min2_int max_two min_two max_three min_three max_four min_four
attribute [local go_sem] Go.Proofs.YthbkakcchgnhpaaSet.isSome_setCell
def impl_ValJoin.j0 : Nat → Bool → Int → Int → Int → Int → Int → Int → Int → Int → Option (Int × Int × Int × Int)
 | 0, _, _, _, _, _, _, _, _, _ => none
 | k + 1, x1, x2, x3, x4, x5, x6, x7, x8, x9 => if x1 = true then ((impl_valNone.f).bind fun u1 => (some (u1.1, u1.2.1, u1.2.2.1, u1.2.2.2))) else ((impl_Val_none.f x2 x3 x4 x5).bind fun t1 => (if t1 = true then (some (x6, x7, x8, x9)) else ((impl_Val_none.f x6 x7 x8 x9).bind fun t2 => (if t2 = true then (some (x2, x3, x4, x5)) else ((impl_Val_span.f x2 x3 x4 x5).bind fun u2 => ((impl_Val_span.f x6 x7 x8 x9).bind fun u3 => ((impl_RangeJoin.f k u2.1 u2.2 u3.1 u3.2).bind fun u4 => ((impl_Val_rest.f x2 x3 x4 x5).bind fun u5 => ((impl_Val_rest.f x6 x7 x8 x9).bind fun u6 => ((impl_RestJoin.f k u5.1 u5.2 u6.1 u6.2).bind fun u7 => ((impl_ValMake.f k u4.1 u4.2 u7.1 u7.2).bind fun u8 => (some (u8.1, u8.2.1, u8.2.2.1, u8.2.2.2)))))))))))))
def impl_ValJoin.f (k : Nat) (a0_0 : Int) (a0_1 : Int) (a0_2 : Int) (a0_3 : Int) (a1_0 : Int) (a1_1 : Int) (a1_2 : Int) (a1_3 : Int) : Option (Int × Int × Int × Int) := (impl_ValOk.f k a0_0 a0_1 a0_2 a0_3).bind fun t1 => (if t1 = true then ((impl_ValOk.f k a1_0 a1_1 a1_2 a1_3).bind fun t2 => (impl_ValJoin.j0 k (!t2) a0_0 a0_1 a0_2 a0_3 a1_0 a1_1 a1_2 a1_3)) else (impl_ValJoin.j0 k true a0_0 a0_1 a0_2 a0_3 a1_0 a1_1 a1_2 a1_3))
theorem impl_ValJoin.mono_l : ∀ k, (∀ y0 y1 y2 y3 y4 y5 y6 y7 y8, LeO (impl_ValJoin.j0 k y0 y1 y2 y3 y4 y5 y6 y7 y8) (impl_ValJoin.j0 (k + 1) y0 y1 y2 y3 y4 y5 y6 y7 y8))
 | 0 => fun _ _ _ _ _ _ _ _ _ r h => by simp [impl_ValJoin.j0] at h
 | k + 1 => by
  have ih0 := impl_ValJoin.mono_l k
  ·intro y0 y1 y2 y3 y4 y5 y6 y7 y8
   unfold impl_ValJoin.j0
   repeat' first | (with_reducible first | apply ih0 | apply impl_RangeJoin.mono | apply impl_RestJoin.mono | apply impl_ValMake.mono | apply impl_ValOk.mono | apply LeO.refl | apply LeO.none | refine LeO.ite ?_ ?_ | refine LeO.bind ?_ (fun _ => ?_)) | apply ih0 | apply impl_RangeJoin.mono | apply impl_RestJoin.mono | apply impl_ValMake.mono | apply impl_ValOk.mono | apply LeO.none | refine LeO.ite ?_ ?_ | refine LeO.bind ?_ (fun _ => ?_)
theorem impl_ValJoin.mono : ∀ a0 a1 a2 a3 a4 a5 a6 a7 k, LeO (impl_ValJoin.f k a0 a1 a2 a3 a4 a5 a6 a7) (impl_ValJoin.f (k + 1) a0 a1 a2 a3 a4 a5 a6 a7) := by
 intro a0 a1 a2 a3 a4 a5 a6 a7 k
 have ih0 := impl_ValJoin.mono_l k
 unfold impl_ValJoin.f
 repeat' first | (with_reducible first | apply ih0 | apply impl_RangeJoin.mono | apply impl_RestJoin.mono | apply impl_ValMake.mono | apply impl_ValOk.mono | apply LeO.refl | apply LeO.none | refine LeO.ite ?_ ?_ | refine LeO.bind ?_ (fun _ => ?_)) | apply ih0 | apply impl_RangeJoin.mono | apply impl_RestJoin.mono | apply impl_ValMake.mono | apply impl_ValOk.mono | apply LeO.none | refine LeO.ite ?_ ?_ | refine LeO.bind ?_ (fun _ => ?_)
def impl_ValJoin.T7 : Bool × List (List Nat × List Nat) := (true, [([], []), ([0], [0]), ([], []), ([2, 1], [2]), ([1, 3, 3], [1, 3]), ([], []), ([5, 4], [5]), ([], []), ([7, 6], [7]), ([6, 8, 8], [6, 8]), ([4, 9, 9], [4, 9]), ([10, 10, 0, 1, 2, 3, 4, 5, 6, 7, 8, 9, 10], [10])])
def impl_ValJoin.B7 : List Nat := [0, 1, 0, 7, 15, 0, 63, 0, 255, 511, 1023, 2047]
theorem impl_ValJoin.tab7 : rtab .any (opsOf Try.f33 7) = impl_ValJoin.T7 := by kernel_rfl
theorem impl_ValJoin.bits7 : waitsOk impl_ValJoin.T7.2 impl_ValJoin.B7 = true := by kernel_rfl
set_option maxHeartbeats 8000000 in
set_option maxRecDepth 100000 in
theorem impl_ValJoin.calls (k : Nat) (a0_0 : Int) (a0_1 : Int) (a0_2 : Int) (a0_3 : Int) (a1_0 : Int) (a1_1 : Int) (a1_2 : Int) (a1_3 : Int) (r1 : Int) (r2 : Int) (r3 : Int) (r4 : Int) (w : World) (h : impl_ValJoin.f k a0_0 a0_1 a0_2 a0_3 a1_0 a1_1 a1_2 a1_3 = some (r1, r2, r3, r4)) :
  Calls Try.prog 33 #[.agg #[.int .i64 a0_0, .int .i64 a0_1, .int .i64 a0_2, .int .i64 a0_3], .agg #[.int .i64 a1_0, .int .i64 a1_1, .int .i64 a1_2, .int .i64 a1_3]] w fun e w' => e = .returned (.agg #[.int .i64 r1, .int .i64 r2, .int .i64 r3, .int .i64 r4]) ∧ Below w.heap.size w w' := by
 have hu50 := Try.underlying50
 have HB := am (Below.refl w.heap.size w)
 have H : ((impl_ValOk.f k a0_0 a0_1 a0_2 a0_3).bind fun t1 => (if t1 = true then ((impl_ValOk.f k a1_0 a1_1 a1_2 a1_3).bind fun t2 => (impl_ValJoin.j0 k (!t2) a0_0 a0_1 a0_2 a0_3 a1_0 a1_1 a1_2 a1_3)) else (impl_ValJoin.j0 k true a0_0 a0_1 a0_2 a0_3 a1_0 a1_1 a1_2 a1_3))) = some (r1, r2, r3, r4) := h
 clear h
 have C1 := am H
 clear H
 go_enter Try.func33, Try.ntmps33
 go_upto_region 1 with (first | ((with_reducible refine gate_dst (N := 2) rfl ?_); refine bxn 2 #[.int .i64 a0_0, .int .i64 a0_1, .int .i64 a0_2, .int .i64 a0_3] 50 HB fun g1 w2 K1 G1 hg hb => ?_; replace HB := am (below_step (YA HB) hb); clear hb hg) | ((with_reducible refine gate_dst (N := 3) rfl ?_); refine bxn 3 #[.int .i64 a1_0, .int .i64 a1_1, .int .i64 a1_2, .int .i64 a1_3] 50 HB fun g2 w3 K2 G2 hg hb => ?_; obtain ⟨N1,N2⟩ := ne_ hg K1; obtain ⟨K1, HB⟩ := bk1 K1 HB hb; clear hb hg) | ((with_reducible refine gate_dst (N := 4) rfl ?_); refine bxn 4 #[.int .i64 0, .int .i64 0, .int .i64 0, .int .i64 0] 50 HB fun g3 w4 K3 G3 hg hb => ?_; obtain ⟨N3,N4⟩ := ne_ hg K1; obtain ⟨N5,N6⟩ := ne_ hg K2; obtain ⟨K1, K2, HB⟩ := bk2 K1 K2 HB hb; clear hb hg))
 (try simp only [Act.put, List.setIfInBounds_toArray, List.set_cons_zero, List.set_cons_succ])
 go_cut [5] (fun v1 wc => ∃ (kq : Nat) (x1 : Bool), v1 = .bool x1 ∧ Aside0 (impl_ValJoin.j0 kq x1 a0_0 a0_1 a0_2 a0_3 a1_0 a1_1 a1_2 a1_3 = some (r1, r2, r3, r4)) ∧ Aside0 (kq ≤ k) ∧ Bx4 wc g1 a0_0 a0_1 a0_2 a0_3 50 ∧ Bx4 wc g2 a1_0 a1_1 a1_2 a1_3 50 ∧ Bx4 wc g3 0 0 0 0 50 ∧ Aside0 (Below w.heap.size w wc))
 case first =>
  have H := C1.out
  clear C1
  obtain ⟨t1, A1, H⟩ := bd H
  try dsimp only at H
  by_cases c1 : t1 = true
  rotate_left
  ·replace c1 := Bool.eq_false_iff.mpr c1
   subst c1
   rw [if_neg ff] at H
   have H' := am H
   clear H
   have := ns2 N1 N3
   have := cB4 K1
   go_wp2_with (first | ((with_reducible refine gate_callee (f := 76) rfl ?_); refine gL 7 Try.func76 (impl_ValOk.calls _ _ _ _ _ _ _ A1.out) fun w5 hb => ?_; obtain ⟨K1, K2, K3, HB⟩ := bk3 K1 K2 K3 HB hb; (try clear hb)))
   go_meet
   case rel => exact ⟨_, (true), ey, H', le0, ⟨Z K1⟩, ⟨Z K2⟩, ⟨Z K3⟩, ⟨YA HB⟩⟩
  subst c1
  rw [if_pos rfl] at H
  obtain ⟨t2, A2, H⟩ := bd H
  try dsimp only at H
  have H' := am H
  clear H
  have := ns2 N1 N3
  have := cB4 K1
  go_wp2_with (first | ((with_reducible refine gate_callee (f := 76) rfl ?_); refine gL 7 Try.func76 (impl_ValOk.calls _ _ _ _ _ _ _ A1.out) fun w5 hb => ?_; obtain ⟨K1, K2, K3, HB⟩ := bk3 K1 K2 K3 HB hb; (try clear hb); have := ns1 N5; have := cB4 K2) | (go_at_call 76; (with_reducible refine (impl_ValOk.calls _ _ _ _ _ _ _ A2.out).mono ?_); rintro e w6 ⟨rfl, hb⟩; obtain ⟨K1, K2, K3, HB⟩ := bk3 K1 K2 K3 HB hb; (try clear hb)))
  go_meet
  case rel => exact ⟨_, (!t2), ey, H', le0, ⟨Z K1⟩, ⟨Z K2⟩, ⟨Z K3⟩, ⟨YA HB⟩⟩
 clear C1
 obtain ⟨kq, x1, rfl, HA, J1, K1, K2, K3, HB⟩ := hcut
 cases kq with
 | zero => exact absurd HA.out (by simp [impl_ValJoin.j0])
 | succ k1 => ?_
 have H := HA.out
 clear HA
 simp only [impl_ValJoin.j0] at H
 by_cases c1 : x1 = true
 ·subst c1
  rw [if_pos rfl] at H
  obtain ⟨⟨t3, t4, t5, t6⟩, A1, H⟩ := bd H
  try dsimp only at H
  obtain ⟨rfl, rfl, rfl, rfl⟩ := sj4 H
  go_wp2_with (first | ((with_reducible refine gate_callee (f := 78) rfl ?_); refine gL 14 Try.func78 (impl_valNone.calls _ _ _ _ _ A1.out) fun w5 hb => ?_; obtain ⟨K1, K2, K3, HB⟩ := bk3 K1 K2 K3 HB hb; (try clear hb); have := ns2 N4 N6; have := cB4 K3))
  refine bodyPost_ret (results_cell_row rfl _ _ g3 50 #[.int .i64 t3, .int .i64 t4, .int .i64 t5, .int .i64 t6] (0, 0) _ rfl (by refine pf ?_; refine bp (ia4 t3 t4 t5 0) ?_ 3; refine pf ?_; refine bp (ia4 t3 t4 0 0) ?_ 2; refine pf ?_; refine bp (ia4 t3 0 0 0) ?_ 1; refine pf ?_; refine bp (ia4 0 0 0 0) ?_ 0; exact Z K3) Try.underlying50 rfl (by kernel_rfl)) rfl ?_
  exact ⟨ez, YA HB⟩
 replace c1 := Bool.eq_false_iff.mpr c1
 subst c1
 rw [if_neg ff] at H
 obtain ⟨t3, A1, H⟩ := bd H
 try dsimp only at H
 by_cases c2 : t3 = true
 ·subst c2
  rw [if_pos rfl] at H
  obtain ⟨rfl, rfl, rfl, rfl⟩ := sj4 H
  have := ns2 N1 N3
  have := cB4 K1
  go_wp2_with (first | ((with_reducible refine gate_callee (f := 77) rfl ?_); refine gL 17 Try.func77 (impl_Val_none.calls _ _ _ _ _ _ A1.out) fun w5 hb => ?_; obtain ⟨K1, K2, K3, HB⟩ := bk3 K1 K2 K3 HB hb; (try clear hb); have := ns1 N5; have := cB4 K2; have := cB4 K3))
  refine bodyPost_ret (results_cell_row rfl _ _ g3 50 #[.int .i64 a1_0, .int .i64 a1_1, .int .i64 a1_2, .int .i64 a1_3] (0, 0) _ rfl (by refine pf ?_; refine bp (ia4 a1_0 a1_1 a1_2 0) ?_ 3; refine pf ?_; refine bp (ia4 a1_0 a1_1 0 0) ?_ 2; refine pf ?_; refine bp (ia4 a1_0 0 0 0) ?_ 1; refine pf ?_; refine bp (ia4 0 0 0 0) ?_ 0; exact Z K3) Try.underlying50 rfl (by kernel_rfl)) rfl ?_
  exact ⟨ez, YA HB⟩
 replace c2 := Bool.eq_false_iff.mpr c2
 subst c2
 rw [if_neg ff] at H
 obtain ⟨t4, A2, H⟩ := bd H
 try dsimp only at H
 by_cases c3 : t4 = true
 ·subst c3
  rw [if_pos rfl] at H
  obtain ⟨rfl, rfl, rfl, rfl⟩ := sj4 H
  have := ns2 N1 N3
  have := cB4 K1
  go_wp2_with (first | ((with_reducible refine gate_callee (f := 77) rfl ?_); refine gL 17 Try.func77 (impl_Val_none.calls _ _ _ _ _ _ A1.out) fun w5 hb => ?_; obtain ⟨K1, K2, K3, HB⟩ := bk3 K1 K2 K3 HB hb; (try clear hb); have := ns1 N5; have := cB4 K2) | ((with_reducible refine gate_callee (f := 77) rfl ?_); refine gL 21 Try.func77 (impl_Val_none.calls _ _ _ _ _ _ A2.out) fun w6 hb => ?_; obtain ⟨K1, K2, K3, HB⟩ := bk3 K1 K2 K3 HB hb; (try clear hb); have := cB4 K1; have := cB4 K3))
  refine bodyPost_ret (results_cell_row rfl _ _ g3 50 #[.int .i64 a0_0, .int .i64 a0_1, .int .i64 a0_2, .int .i64 a0_3] (0, 0) _ rfl (by refine pf ?_; refine bp (ia4 a0_0 a0_1 a0_2 0) ?_ 3; refine pf ?_; refine bp (ia4 a0_0 a0_1 0 0) ?_ 2; refine pf ?_; refine bp (ia4 a0_0 0 0 0) ?_ 1; refine pf ?_; refine bp (ia4 0 0 0 0) ?_ 0; exact Z K3) Try.underlying50 rfl (by kernel_rfl)) rfl ?_
  exact ⟨ez, YA HB⟩
 replace c3 := Bool.eq_false_iff.mpr c3
 subst c3
 rw [if_neg ff] at H
 obtain ⟨⟨t5, t6⟩, A3, H⟩ := bd H
 try dsimp only at H
 obtain ⟨⟨t7, t8⟩, A4, H⟩ := bd H
 try dsimp only at H
 obtain ⟨⟨t9, t10⟩, A5, H⟩ := bd H
 try dsimp only at H
 obtain ⟨⟨t11, t12⟩, A6, H⟩ := bd H
 try dsimp only at H
 obtain ⟨⟨t13, t14⟩, A7, H⟩ := bd H
 try dsimp only at H
 obtain ⟨⟨t15, t16⟩, A8, H⟩ := bd H
 try dsimp only at H
 obtain ⟨⟨t17, t18, t19, t20⟩, A9, H⟩ := bd H
 try dsimp only at H
 obtain ⟨rfl, rfl, rfl, rfl⟩ := sj4 H
 have := ns2 N1 N3
 have := cB4 K1
 try go_wp2_with (first | ((with_reducible refine gate_callee (f := 77) rfl ?_); refine gL 17 Try.func77 (impl_Val_none.calls _ _ _ _ _ _ A1.out) fun w5 hb => ?_; obtain ⟨K1, K2, K3, HB⟩ := bk3 K1 K2 K3 HB hb; (try clear hb); have := ns1 N5; have := cB4 K2) | ((with_reducible refine gate_callee (f := 77) rfl ?_); refine gL 21 Try.func77 (impl_Val_none.calls _ _ _ _ _ _ A2.out) fun w6 hb => ?_; obtain ⟨K1, K2, K3, HB⟩ := bk3 K1 K2 K3 HB hb; (try clear hb)))
 obtain ⟨K1, K2, K3, HB⟩ := dk3 K1 K2 K3 HB
 refine start_ (n := 12) (S := fun w' => ce4 w' g1 a0_0 a0_1 a0_2 a0_3 ∧ ce4 w' g2 a1_0 a1_1 a1_2 a1_3) (ds := []) (lb 12 0) (by kernel_rfl) rfl rfl ⟨cc4 K1, cc4 K2⟩ (fun hHeld => ?_); refine with_tabW impl_ValJoin.tab7 impl_ValJoin.bits7 (fun HT_ HW_ => ?_)
 generalize w6.drew = w7 at K1 K2 K3 HB hHeld ⊢
 refine tk 0 23 1 hHeld ?_
 refine tk 2 25 5 hHeld ?_
 refine tk 5 28 37 hHeld ?_
 refine tk 7 30 165 hHeld ?_
 refine on 1 (some 24) 167 fun K hK => ?_
 refine ck hK Try.func79 (impl_Val_span.calls _ _ _ _ _ _ _ A3.out) (fun _ b => bk3 K1 K2 K3 HB b) fun w8 Q_ hHeld => ?_
 clear hK K
 obtain ⟨K1, K2, K3, HB⟩ := Q_
 refine on 3 (some 26) 175 fun K hK => ?_
 refine ck hK Try.func79 (impl_Val_span.calls _ _ _ _ _ _ _ A4.out) (fun _ b => bk3 K1 K2 K3 HB b) fun w9 Q_ hHeld => ?_
 clear hK K
 obtain ⟨K1, K2, K3, HB⟩ := Q_
 refine on 4 (some 27) 191 fun K hK => ?_
 refine ck hK Try.func84 (impl_RangeJoin.calls _ _ _ _ _ _ _ _ A5.out) (fun _ b => bk3 K1 K2 K3 HB b) fun w10 Q_ hHeld => ?_
 clear hK K
 obtain ⟨K1, K2, K3, HB⟩ := Q_
 refine on 6 (some 29) 255 fun K hK => ?_
 refine ck hK Try.func82 (impl_Val_rest.calls _ _ _ _ _ _ _ A6.out) (fun _ b => bk3 K1 K2 K3 HB b) fun w11 Q_ hHeld => ?_
 clear hK K
 obtain ⟨K1, K2, K3, HB⟩ := Q_
 refine on 8 (some 31) 511 fun K hK => ?_
 refine ck hK Try.func82 (impl_Val_rest.calls _ _ _ _ _ _ _ A7.out) (fun _ b => bk3 K1 K2 K3 HB b) fun w12 Q_ hHeld => ?_
 clear hK K
 obtain ⟨K1, K2, K3, HB⟩ := Q_
 refine on 9 (some 32) 1023 fun K hK => ?_
 refine ck hK Try.func85 (impl_RestJoin.calls _ _ _ _ _ _ _ _ A8.out) (fun _ b => bk3 K1 K2 K3 HB b) fun w13 Q_ hHeld => ?_
 clear hK K
 obtain ⟨K1, K2, K3, HB⟩ := Q_
 refine on 10 (some 33) 2047 fun K hK => ?_
 refine ck hK Try.func80 (impl_ValMake.calls _ _ _ _ _ _ _ _ _ _ A9.out) (fun _ b => bk3 K1 K2 K3 HB b) fun w14 Q_ hHeld => ?_
 clear hK K
 obtain ⟨K1, K2, K3, HB⟩ := Q_
 refine on 11 none 4095 fun K hK => ?_
 have s1 : w14.cell? ⟨g3, 0, none⟩ = some (.int .i64 0) := bc K3 0
 have hfs69 := blk_frozen K3.out 0
 have := ns4 N3 N5 N4 N6
 have s2 : w14.cell? ⟨g3, 1, none⟩ = some (.int .i64 0) := bc K3 1
 have hfs70 := blk_frozen K3.out 1
 have := ns4 N3 N5 N4 N6
 have s3 : w14.cell? ⟨g3, 2, none⟩ = some (.int .i64 0) := bc K3 2
 have hfs71 := blk_frozen K3.out 2
 have := ns4 N3 N5 N4 N6
 have s4 : w14.cell? ⟨g3, 3, none⟩ = some (.int .i64 0) := bc K3 3
 have hfs72 := blk_frozen K3.out 3
 have := ns4 N3 N5 N4 N6
 refine skip_ (w1 := ?_) (by rfl) rfl ?_ ?_
 rotate_left
 ·go_simp
  rfl
 refine hK.out _ _ ⟨cf4 N3 (cf4 N3 (cf4 N3 (cf4 N3 hHeld.1))), cf4 N5 (cf4 N5 (cf4 N5 (cf4 N5 hHeld.2)))⟩ (fun hHeld => ?_)
 clear hK K
 refine done_ (done_of HT_.out (by kernel_rfl)) ?_
 try go_wp2
 refine bodyPost_ret (results_cell_row rfl _ _ g3 50 #[.int .i64 t17, .int .i64 t18, .int .i64 t19, .int .i64 t20] (0, 0) _ rfl (by refine pf ?_; refine bp (ia4 t17 t18 t19 0) ?_ 3; refine pf ?_; refine bp (ia4 t17 t18 0 0) ?_ 2; refine pf ?_; refine bp (ia4 t17 0 0 0) ?_ 1; refine pf ?_; refine bp (ia4 0 0 0 0) ?_ 0; exact Z K3) Try.underlying50 rfl (by kernel_rfl)) rfl ?_
 exact ⟨ez, YA HB⟩
end
section
attribute [local go_sem] max2_int min2_int max_two min_two max_three min_three max_four min_four
attribute [local go_sem high] eqA24
attribute [local go_sem] Go.Proofs.YthbkakcchgnhpaaSet.isSome_setCell
def spec_RangeJoin.j0 : Nat → Bool → Int → Int → Int → Int → Option (Int × Int)
 | 0, _, _, _, _, _ => none
 | k + 1, x1, x2, x3, x4, x5 => if x1 = true then ((spec_l8None.f).bind fun u1 => (some (u1.1, u1.2))) else ((spec_l8None.f).bind fun u2 => (if (x2 == u2.1 && (x3 == u2.2)) = true then (some (x4, x5)) else ((spec_l8None.f).bind fun u3 => (if (x4 == u3.1 && (x5 == u3.2)) = true then (some (x2, x3)) else ((spec_l8Min.f x2 x4).bind fun t1 => ((spec_l8Max.f x3 x5).bind fun t2 => (some (t1, t2))))))))
def spec_RangeJoin.f (k : Nat) (a0_0 : Int) (a0_1 : Int) (a1_0 : Int) (a1_1 : Int) : Option (Int × Int) := (spec_RangeOk.f a0_0 a0_1).bind fun t1 => (if t1 = true then ((spec_RangeOk.f a1_0 a1_1).bind fun t2 => (spec_RangeJoin.j0 k (!t2) a0_0 a0_1 a1_0 a1_1)) else (spec_RangeJoin.j0 k true a0_0 a0_1 a1_0 a1_1))
theorem spec_RangeJoin.mono_l : ∀ k, (∀ y0 y1 y2 y3 y4, LeO (spec_RangeJoin.j0 k y0 y1 y2 y3 y4) (spec_RangeJoin.j0 (k + 1) y0 y1 y2 y3 y4))
 | 0 => fun _ _ _ _ _ r h => by simp [spec_RangeJoin.j0] at h
 | k + 1 => by
  have ih0 := spec_RangeJoin.mono_l k
  ·intro y0 y1 y2 y3 y4
   unfold spec_RangeJoin.j0
   repeat' first | (with_reducible first | apply ih0 | apply LeO.refl | apply LeO.none | refine LeO.ite ?_ ?_ | refine LeO.bind ?_ (fun _ => ?_)) | apply ih0 | apply LeO.none | refine LeO.ite ?_ ?_ | refine LeO.bind ?_ (fun _ => ?_)
theorem spec_RangeJoin.mono : ∀ a0 a1 a2 a3 k, LeO (spec_RangeJoin.f k a0 a1 a2 a3) (spec_RangeJoin.f (k + 1) a0 a1 a2 a3) := by
 intro a0 a1 a2 a3 k
 have ih0 := spec_RangeJoin.mono_l k
 unfold spec_RangeJoin.f
 repeat' first | (with_reducible first | apply ih0 | apply LeO.refl | apply LeO.none | refine LeO.ite ?_ ?_ | refine LeO.bind ?_ (fun _ => ?_)) | apply ih0 | apply LeO.none | refine LeO.ite ?_ ?_ | refine LeO.bind ?_ (fun _ => ?_)
def spec_RangeJoin.T7 : Bool × List (List Nat × List Nat) := (true, [([], []), ([0], [0]), ([], []), ([2], [2]), ([1, 3], [1, 3]), ([], []), ([5], [5]), ([], []), ([7], [7]), ([6, 8, 4], [6, 8]), ([4, 9], [4, 9]), ([10, 9, 0, 1, 2, 3, 4, 5, 6, 7, 8, 9, 10], [10])])
def spec_RangeJoin.B7 : List Nat := [0, 1, 0, 4, 15, 0, 32, 0, 128, 511, 1023, 2047]
theorem spec_RangeJoin.tab7 : rtab .any (opsOf Try.f25 7) = spec_RangeJoin.T7 := by kernel_rfl
theorem spec_RangeJoin.bits7 : waitsOk spec_RangeJoin.T7.2 spec_RangeJoin.B7 = true := by kernel_rfl
set_option maxHeartbeats 8000000 in
set_option maxRecDepth 100000 in
theorem spec_RangeJoin.calls (k : Nat) (a0_0 : Int) (a0_1 : Int) (a1_0 : Int) (a1_1 : Int) (r1 : Int) (r2 : Int) (w : World) (h : spec_RangeJoin.f k a0_0 a0_1 a1_0 a1_1 = some (r1, r2)) :
  Calls Try.prog 25 #[.agg #[.int .i64 a0_0, .int .i64 a0_1], .agg #[.int .i64 a1_0, .int .i64 a1_1]] w fun e w' => e = .returned (.agg #[.int .i64 r1, .int .i64 r2]) ∧ Below w.heap.size w w' := by
 have hu24 := Try.underlying24
 have HB := am (Below.refl w.heap.size w)
 have H : ((spec_RangeOk.f a0_0 a0_1).bind fun t1 => (if t1 = true then ((spec_RangeOk.f a1_0 a1_1).bind fun t2 => (spec_RangeJoin.j0 k (!t2) a0_0 a0_1 a1_0 a1_1)) else (spec_RangeJoin.j0 k true a0_0 a0_1 a1_0 a1_1))) = some (r1, r2) := h
 clear h
 have C1 := am H
 clear H
 go_enter Try.func25, Try.ntmps25
 go_upto_region 1 with (first | ((with_reducible refine gate_dst (N := 2) rfl ?_); refine bxn 2 #[.int .i64 a0_0, .int .i64 a0_1] 24 HB fun g1 w2 K1 G1 hg hb => ?_; replace HB := am (below_step (YA HB) hb); clear hb hg) | ((with_reducible refine gate_dst (N := 3) rfl ?_); refine bxn 3 #[.int .i64 a1_0, .int .i64 a1_1] 24 HB fun g2 w3 K2 G2 hg hb => ?_; obtain ⟨N1,N2⟩ := ne_ hg K1; obtain ⟨K1, HB⟩ := bk1 K1 HB hb; clear hb hg) | ((with_reducible refine gate_dst (N := 4) rfl ?_); refine bxn 4 #[.int .i64 0, .int .i64 0] 24 HB fun g3 w4 K3 G3 hg hb => ?_; obtain ⟨N3,N4⟩ := ne_ hg K1; obtain ⟨N5,N6⟩ := ne_ hg K2; obtain ⟨K1, K2, HB⟩ := bk2 K1 K2 HB hb; clear hb hg))
 (try simp only [Act.put, List.setIfInBounds_toArray, List.set_cons_zero, List.set_cons_succ])
 go_cut [12] (fun v1 wc => ∃ (kq : Nat) (x1 : Bool), v1 = .bool x1 ∧ Aside0 (spec_RangeJoin.j0 kq x1 a0_0 a0_1 a1_0 a1_1 = some (r1, r2)) ∧ Aside0 (kq ≤ k) ∧ Bx2 wc g1 a0_0 a0_1 24 ∧ Bx2 wc g2 a1_0 a1_1 24 ∧ Bx2 wc g3 0 0 24 ∧ Aside0 (Below w.heap.size w wc))
 case first =>
  have H := C1.out
  clear C1
  obtain ⟨t1, A1, H⟩ := bd H
  try dsimp only at H
  by_cases c1 : t1 = true
  rotate_left
  ·replace c1 := Bool.eq_false_iff.mpr c1
   subst c1
   rw [if_neg ff] at H
   have H' := am H
   clear H
   have := ns2 N1 N3
   have := cB2 K1
   go_wp2_with (first | ((with_reducible refine gate_callee (f := 24) rfl ?_); refine gL 6 Try.func24 (spec_RangeOk.calls _ _ _ _ A1.out) fun w5 hb => ?_; obtain ⟨K1, K2, K3, HB⟩ := bk3 K1 K2 K3 HB hb; (try clear hb)))
   go_meet
   case rel => exact ⟨_, (true), ey, H', le0, ⟨Z K1⟩, ⟨Z K2⟩, ⟨Z K3⟩, ⟨YA HB⟩⟩
  subst c1
  rw [if_pos rfl] at H
  obtain ⟨t2, A2, H⟩ := bd H
  try dsimp only at H
  have H' := am H
  clear H
  have := ns2 N1 N3
  have := cB2 K1
  go_wp2_with (first | ((with_reducible refine gate_callee (f := 24) rfl ?_); refine gL 6 Try.func24 (spec_RangeOk.calls _ _ _ _ A1.out) fun w5 hb => ?_; obtain ⟨K1, K2, K3, HB⟩ := bk3 K1 K2 K3 HB hb; (try clear hb); have := ns1 N5; have := cB2 K2) | (go_at_call 24; (with_reducible refine (spec_RangeOk.calls _ _ _ _ A2.out).mono ?_); rintro e w6 ⟨rfl, hb⟩; obtain ⟨K1, K2, K3, HB⟩ := bk3 K1 K2 K3 HB hb; (try clear hb)))
  go_meet
  case rel => exact ⟨_, (!t2), ey, H', le0, ⟨Z K1⟩, ⟨Z K2⟩, ⟨Z K3⟩, ⟨YA HB⟩⟩
 clear C1
 obtain ⟨kq, x1, rfl, HA, J1, K1, K2, K3, HB⟩ := hcut
 cases kq with
 | zero => exact absurd HA.out (by simp [spec_RangeJoin.j0])
 | succ k1 => ?_
 have H := HA.out
 clear HA
 simp only [spec_RangeJoin.j0] at H
 by_cases c1 : x1 = true
 ·subst c1
  rw [if_pos rfl] at H
  obtain ⟨⟨t3, t4⟩, A1, H⟩ := bd H
  try dsimp only at H
  obtain ⟨rfl, rfl⟩ := sj2 H
  go_wp2_with (first | ((with_reducible refine gate_callee (f := 38) rfl ?_); refine gL 13 Try.func38 (spec_l8None.calls _ _ _ A1.out) fun w5 hb => ?_; obtain ⟨K1, K2, K3, HB⟩ := bk3 K1 K2 K3 HB hb; (try clear hb); have := ns2 N4 N6; have := cB2 K3))
  refine bodyPost_ret (results_cell_row rfl _ _ g3 24 #[.int .i64 t3, .int .i64 t4] (0, 0) _ rfl (by refine pf ?_; refine bp (ia2 t3 0) ?_ 1; refine pf ?_; refine bp (ia2 0 0) ?_ 0; exact Z K3) Try.underlying24 rfl (by kernel_rfl)) rfl ?_
  exact ⟨ez, YA HB⟩
 replace c1 := Bool.eq_false_iff.mpr c1
 subst c1
 rw [if_neg ff] at H
 obtain ⟨⟨t3, t4⟩, A1, H⟩ := bd H
 try dsimp only at H
 by_cases c2 : (a0_0 == t3 && (a0_1 == t4)) = true
 ·rw [if_pos c2] at H
  have d1 : (a0_0 == t3 && (a0_1 == t4)) = true := c2
  (try (have d2 : decide (a0_0 = t3 && (a0_1 == t4)) = true := by simpa using c2))
  (try (have d3 : (a0_0 == t3 && (a0_1 == t4)) = true := by simpa using c2))
  clear c2
  obtain ⟨rfl, rfl⟩ := sj2 H
  try go_wp2
  obtain ⟨K1, K2, K3, HB⟩ := dk3 K1 K2 K3 HB
  refine start_ (n := 3) (S := fun w' => ce2 w' g1 a0_0 a0_1) (ds := []) (lb 3 0) (by kernel_rfl) rfl rfl (cc2 K1) (fun hHeld => ?_)
  generalize wc.drew = w5 at K1 K2 K3 HB hHeld ⊢
  refine tq 0 14 1 hHeld ?_
  refine one_ (i := 1) (N := some 15) (lb 3 3) rfl rfl (by kernel_rfl) (by decide) (fun K hK => ?_)
  refine ck hK Try.func38 (spec_l8None.calls _ _ _ A1.out) (fun _ b => bk3 K1 K2 K3 HB b) fun w6 Q_ hHeld => ?_
  clear hK K
  obtain ⟨K1, K2, K3, HB⟩ := Q_
  refine pure_ (i := 2) (N := some 16) (v := ?_) (a' := ?_) (lb 3 7) rfl rfl (by kernel_rfl) (fun _ _ _ h => h) (Or.inl ⟨by rfl, ?_⟩) ?_ ?_
  rotate_left
  ·exact gz
  rotate_left
  ·exact pz
  refine done_ (by kernel_rfl) ?_
  have := ns3 N2 N5 N4
  have := cB2 K2
  have := cB2 K3
  try go_wp2
  refine bodyPost_ret (results_cell_row rfl _ _ g3 24 #[.int .i64 a1_0, .int .i64 a1_1] (0, 0) _ rfl (by refine pf ?_; refine bp (ia2 a1_0 0) ?_ 1; refine pf ?_; refine bp (ia2 0 0) ?_ 0; exact Z K3) Try.underlying24 rfl (by kernel_rfl)) rfl ?_
  exact ⟨ez, YA HB⟩
 rw [if_neg c2] at H
 have d1 : (a0_0 == t3 && (a0_1 == t4)) = false := by simpa using c2
 (try (have d2 : decide (a0_0 = t3 && (a0_1 == t4)) = false := by simpa using c2))
 (try (have d3 : (a0_0 == t3 && (a0_1 == t4)) = false := by simpa using c2))
 (try (have d4 : ¬ (a0_0 = t3 && (a0_1 == t4)) := by simpa using c2))
 clear c2
 obtain ⟨⟨t5, t6⟩, A2, H⟩ := bd H
 try dsimp only at H
 by_cases c3 : (a1_0 == t5 && (a1_1 == t6)) = true
 ·rw [if_pos c3] at H
  have d5 : (a1_0 == t5 && (a1_1 == t6)) = true := c3
  (try (have d6 : decide (a1_0 = t5 && (a1_1 == t6)) = true := by simpa using c3))
  (try (have d7 : (a1_0 == t5 && (a1_1 == t6)) = true := by simpa using c3))
  clear c3
  obtain ⟨rfl, rfl⟩ := sj2 H
  try go_wp2
  obtain ⟨K1, K2, K3, HB⟩ := dk3 K1 K2 K3 HB
  refine start_ (n := 3) (S := fun w' => ce2 w' g1 a0_0 a0_1) (ds := []) (lb 3 0) (by kernel_rfl) rfl rfl (cc2 K1) (fun hHeld => ?_)
  generalize wc.drew = w5 at K1 K2 K3 HB hHeld ⊢
  refine tq 0 14 1 hHeld ?_
  refine one_ (i := 1) (N := some 15) (lb 3 3) rfl rfl (by kernel_rfl) (by decide) (fun K hK => ?_)
  refine ck hK Try.func38 (spec_l8None.calls _ _ _ A1.out) (fun _ b => bk3 K1 K2 K3 HB b) fun w6 Q_ hHeld => ?_
  clear hK K
  obtain ⟨K1, K2, K3, HB⟩ := Q_
  refine pure_ (i := 2) (N := some 16) (v := ?_) (a' := ?_) (lb 3 7) rfl rfl (by kernel_rfl) (fun _ _ _ h => h) (Or.inl ⟨by rfl, ?_⟩) ?_ ?_
  rotate_left
  ·exact gz
  rotate_left
  ·exact pz
  refine done_ (by kernel_rfl) ?_
  try go_wp2
  obtain ⟨K1, K2, K3, HB⟩ := dk3 K1 K2 K3 HB
  refine start_ (n := 3) (S := fun w' => ce2 w' g2 a1_0 a1_1) (ds := []) (lb 3 0) (by kernel_rfl) rfl rfl (cc2 K2) (fun hHeld => ?_)
  generalize w6.drew = w7 at K1 K2 K3 HB hHeld ⊢
  refine tq 0 18 1 hHeld ?_
  refine one_ (i := 1) (N := some 19) (lb 3 3) rfl rfl (by kernel_rfl) (by decide) (fun K hK => ?_)
  refine ck hK Try.func38 (spec_l8None.calls _ _ _ A2.out) (fun _ b => bk3 K1 K2 K3 HB b) fun w8 Q_ hHeld => ?_
  clear hK K
  obtain ⟨K1, K2, K3, HB⟩ := Q_
  refine pure_ (i := 2) (N := some 20) (v := ?_) (a' := ?_) (lb 3 7) rfl rfl (by kernel_rfl) (fun _ _ _ h => h) (Or.inl ⟨by rfl, ?_⟩) ?_ ?_
  rotate_left
  ·exact gz
  rotate_left
  ·exact pz
  refine done_ (by kernel_rfl) ?_
  have := ns3 N1 N3 N6
  have := cB2 K1
  have := cB2 K3
  try go_wp2
  refine bodyPost_ret (results_cell_row rfl _ _ g3 24 #[.int .i64 a0_0, .int .i64 a0_1] (0, 0) _ rfl (by refine pf ?_; refine bp (ia2 a0_0 0) ?_ 1; refine pf ?_; refine bp (ia2 0 0) ?_ 0; exact Z K3) Try.underlying24 rfl (by kernel_rfl)) rfl ?_
  exact ⟨ez, YA HB⟩
 rw [if_neg c3] at H
 have d5 : (a1_0 == t5 && (a1_1 == t6)) = false := by simpa using c3
 (try (have d6 : decide (a1_0 = t5 && (a1_1 == t6)) = false := by simpa using c3))
 (try (have d7 : (a1_0 == t5 && (a1_1 == t6)) = false := by simpa using c3))
 (try (have d8 : ¬ (a1_0 = t5 && (a1_1 == t6)) := by simpa using c3))
 clear c3
 obtain ⟨t7, A3, H⟩ := bd H
 try dsimp only at H
 obtain ⟨t8, A4, H⟩ := bd H
 try dsimp only at H
 obtain ⟨rfl, rfl⟩ := sj2 H
 try go_wp2
 obtain ⟨K1, K2, K3, HB⟩ := dk3 K1 K2 K3 HB
 refine start_ (n := 3) (S := fun w' => ce2 w' g1 a0_0 a0_1) (ds := []) (lb 3 0) (by kernel_rfl) rfl rfl (cc2 K1) (fun hHeld => ?_)
 generalize wc.drew = w5 at K1 K2 K3 HB hHeld ⊢
 refine tq 0 14 1 hHeld ?_
 refine one_ (i := 1) (N := some 15) (lb 3 3) rfl rfl (by kernel_rfl) (by decide) (fun K hK => ?_)
 refine ck hK Try.func38 (spec_l8None.calls _ _ _ A1.out) (fun _ b => bk3 K1 K2 K3 HB b) fun w6 Q_ hHeld => ?_
 clear hK K
 obtain ⟨K1, K2, K3, HB⟩ := Q_
 refine pure_ (i := 2) (N := some 16) (v := ?_) (a' := ?_) (lb 3 7) rfl rfl (by kernel_rfl) (fun _ _ _ h => h) (Or.inl ⟨by rfl, ?_⟩) ?_ ?_
 rotate_left
 ·exact gz
 rotate_left
 ·exact pz
 refine done_ (by kernel_rfl) ?_
 try go_wp2
 obtain ⟨K1, K2, K3, HB⟩ := dk3 K1 K2 K3 HB
 refine start_ (n := 3) (S := fun w' => ce2 w' g2 a1_0 a1_1) (ds := []) (lb 3 0) (by kernel_rfl) rfl rfl (cc2 K2) (fun hHeld => ?_)
 generalize w6.drew = w7 at K1 K2 K3 HB hHeld ⊢
 refine tq 0 18 1 hHeld ?_
 refine one_ (i := 1) (N := some 19) (lb 3 3) rfl rfl (by kernel_rfl) (by decide) (fun K hK => ?_)
 refine ck hK Try.func38 (spec_l8None.calls _ _ _ A2.out) (fun _ b => bk3 K1 K2 K3 HB b) fun w8 Q_ hHeld => ?_
 clear hK K
 obtain ⟨K1, K2, K3, HB⟩ := Q_
 refine pure_ (i := 2) (N := some 20) (v := ?_) (a' := ?_) (lb 3 7) rfl rfl (by kernel_rfl) (fun _ _ _ h => h) (Or.inl ⟨by rfl, ?_⟩) ?_ ?_
 rotate_left
 ·exact gz
 rotate_left
 ·exact pz
 refine done_ (by kernel_rfl) ?_
 try go_wp2
 obtain ⟨K1, K2, K3, HB⟩ := dk3 K1 K2 K3 HB
 refine start_ (n := 12) (S := fun w' => ce2 w' g1 a0_0 a0_1 ∧ ce2 w' g2 a1_0 a1_1) (ds := []) (lb 12 0) (by kernel_rfl) rfl rfl ⟨cc2 K1, cc2 K2⟩ (fun hHeld => ?_); refine with_tabW spec_RangeJoin.tab7 spec_RangeJoin.bits7 (fun HT_ HW_ => ?_)
 generalize w8.drew = w9 at K1 K2 K3 HB hHeld ⊢
 refine pk 0 22 1 ?_
 refine pk 2 24 5 ?_
 refine pk 5 27 37 ?_
 refine pk 7 29 165 ?_
 refine tk 1 23 167 hHeld ?_
 refine tk 3 25 175 hHeld ?_
 refine tk 6 28 239 hHeld ?_
 refine tk 8 30 495 hHeld ?_
 refine on 4 (some 26) 511 fun K hK => ?_
 refine goes_ Try.func68 (by kernel_rfl) rfl #[.int .i64 a0_0, .int .i64 a1_0] (by rfl) rfl rfl mz ?_
 with_reducible refine (spec_l8Min.calls _ _ _ _ A3.out).mono ?_
 rintro e w' ⟨rfl, ⟨nd, rfl⟩⟩
 refine ⟨_, rfl, ?_⟩
 refine kk hK ⟨cc2 K1, cc2 K2⟩ fun hHeld => ?_
 clear hK K
 refine on 9 (some 31) 1023 fun K hK => ?_
 refine goes_ Try.func69 (by kernel_rfl) rfl #[.int .i64 a0_1, .int .i64 a1_1] (by rfl) rfl rfl mz ?_
 with_reducible refine (spec_l8Max.calls _ _ _ _ A4.out).mono ?_
 rintro e w' ⟨rfl, ⟨nd, rfl⟩⟩
 refine ⟨_, rfl, ?_⟩
 refine kk hK ⟨cc2 K1, cc2 K2⟩ fun hHeld => ?_
 clear hK K
 refine pk 10 32 2047 ?_
 refine on 11 none 4095 fun K hK => ?_
 have s2 : w9.cell? ⟨g3, 0, none⟩ = some (.int .i64 0) := bc K3 0
 have hfs54 := blk_frozen K3.out 0
 have := ns4 N3 N5 N4 N6
 have s3 : w9.cell? ⟨g3, 1, none⟩ = some (.int .i64 0) := bc K3 1
 have hfs55 := blk_frozen K3.out 1
 have := ns4 N3 N5 N4 N6
 refine skip_ (w1 := ?_) (by rfl) rfl ?_ ?_
 rotate_left
 ·go_simp
  rfl
 refine hK.out _ _ ⟨cf2 N3 (cf2 N3 hHeld.1), cf2 N5 (cf2 N5 hHeld.2)⟩ (fun hHeld => ?_)
 clear hK K
 refine done_ (done_of HT_.out (by kernel_rfl)) ?_
 try go_wp2
 refine bodyPost_ret (results_cell_row rfl _ _ g3 24 #[.int .i64 t7, .int .i64 t8] (0, 0) _ rfl (by refine pf ?_; refine bp (ia2 t7 0) ?_ 1; refine pf ?_; refine bp (ia2 0 0) ?_ 0; exact Z K3) Try.underlying24 rfl (by kernel_rfl)) rfl ?_
 exact ⟨ez, YA HB⟩
end
section
attribute [local go_sem] max2_int min2_int max_two min_two max_three min_three max_four min_four
attribute [local go_sem] Go.Proofs.YthbkakcchgnhpaaSet.isSome_setCell
mutual
def spec_l9Gcd.j0 : Nat → Int → Int → Option (Int)
 | 0, _, _ => none
 | k + 1, x1, x2 => if x2 < 0 then (spec_l9Gcd.j1 k x1 (wrap64 (-x2))) else (spec_l9Gcd.j1 k x1 x2)
def spec_l9Gcd.j1 : Nat → Int → Int → Option (Int)
 | 0, _, _ => none
 | k + 1, x1, x2 => spec_l9Gcd.l0 k x1 x2
def spec_l9Gcd.l0 : Nat → Int → Int → Option (Int)
 | 0, _, _ => none
 | k + 1, x1, x2 => if x2 = 0 then (some x1) else (spec_l9Gcd.l0 k x2 (Int.tmod x1 x2))
end
def spec_l9Gcd.f (k : Nat) (a0 : Int) (a1 : Int) : Option (Int) := if a0 < 0 then (spec_l9Gcd.j0 k (wrap64 (-a0)) a1) else (spec_l9Gcd.j0 k a0 a1)
theorem spec_l9Gcd.mono_l : ∀ k, (∀ y0 y1, LeO (spec_l9Gcd.j0 k y0 y1) (spec_l9Gcd.j0 (k + 1) y0 y1)) ∧ (∀ y0 y1, LeO (spec_l9Gcd.j1 k y0 y1) (spec_l9Gcd.j1 (k + 1) y0 y1)) ∧ (∀ y0 y1, LeO (spec_l9Gcd.l0 k y0 y1) (spec_l9Gcd.l0 (k + 1) y0 y1))
 | 0 => ⟨fun _ _ r h => by simp [spec_l9Gcd.j0] at h, fun _ _ r h => by simp [spec_l9Gcd.j1] at h, fun _ _ r h => by simp [spec_l9Gcd.l0] at h⟩
 | k + 1 => by
  obtain ⟨ih0, ih1, ih2⟩ := spec_l9Gcd.mono_l k
  refine ⟨?_, ?_, ?_⟩ <;> (intros; (first | unfold spec_l9Gcd.j0 | unfold spec_l9Gcd.j1 | unfold spec_l9Gcd.l0); repeat' first | (with_reducible first | apply ih0 | apply ih1 | apply ih2 | apply LeO.refl | apply LeO.none | refine LeO.ite ?_ ?_ | refine LeO.bind ?_ (fun _ => ?_)) | apply ih0 | apply ih1 | apply ih2 | apply LeO.none | refine LeO.ite ?_ ?_ | refine LeO.bind ?_ (fun _ => ?_))
theorem spec_l9Gcd.mono : ∀ a0 a1 k, LeO (spec_l9Gcd.f k a0 a1) (spec_l9Gcd.f (k + 1) a0 a1) := by
 intro a0 a1 k
 obtain ⟨ih0, ih1, ih2⟩ := spec_l9Gcd.mono_l k
 unfold spec_l9Gcd.f
 repeat' first | (with_reducible first | apply ih0 | apply ih1 | apply ih2 | apply LeO.refl | apply LeO.none | refine LeO.ite ?_ ?_ | refine LeO.bind ?_ (fun _ => ?_)) | apply ih0 | apply ih1 | apply ih2 | apply LeO.none | refine LeO.ite ?_ ?_ | refine LeO.bind ?_ (fun _ => ?_)
set_option maxHeartbeats 8000000 in
set_option maxRecDepth 100000 in
theorem spec_l9Gcd.calls (k : Nat) (a0 : Int) (a1 : Int) (r : Int) (w : World) (h : spec_l9Gcd.f k a0 a1 = some r) :
  Calls Try.prog 107 #[.int .i64 a0, .int .i64 a1] w fun e w' => e = .returned (.int .i64 r) ∧ Drawn0 w w' := by
 have H : (if a0 < 0 then (spec_l9Gcd.j0 k (wrap64 (-a0)) a1) else (spec_l9Gcd.j0 k a0 a1)) = some r := h
 clear h
 have C1 := am H
 clear H
 go_enter Try.func107, Try.ntmps107
 go_upto_if 7 with (fail)
 go_cut [0] (fun v1 wc => ∃ (kq : Nat) (x1 : Int), v1 = .int .i64 x1 ∧ Aside0 (spec_l9Gcd.j0 kq x1 a1 = some r) ∧ Aside0 (kq ≤ k) ∧ Drawn0 w wc)
 case first =>
  have H := C1.out
  clear C1
  by_cases c1 : a0 < 0
  rotate_left
  ·rw [if_neg c1] at H
   have d1 := dF c1
   clear c1
   (first | rw [d1] | (simp only [i64_w, i32_w]; rw [d1]) | skip)
   have H' := am H
   clear H
   go_wp2
   go_meet
   case rel => exact ⟨_, (a0), ey, H', le0, qs1⟩
  rw [if_pos c1] at H
  have d1 := dT c1
  clear c1
  (first | rw [d1] | (simp only [i64_w, i32_w]; rw [d1]) | skip)
  have H' := am H
  clear H
  go_wp2
  go_meet
  case rel => exact ⟨_, (wrap64 (-a0)), ey, H', le0, qs1⟩
 clear C1
 obtain ⟨kq, x1, rfl, HA, J1, ⟨mc2, rfl⟩⟩ := hcut
 cases kq with
 | zero => exact absurd HA.out (by simp [spec_l9Gcd.j0])
 | succ k1 => ?_
 have H := HA.out
 clear HA
 simp only [spec_l9Gcd.j0] at H
 have C2 := am H
 clear H
 go_upto_if 11 with (fail)
 go_cut [1] (fun v2 wc => ∃ (kq : Nat) (x2 : Int), v2 = .int .i64 x2 ∧ Aside0 (spec_l9Gcd.j1 kq x1 x2 = some r) ∧ Aside0 (kq ≤ k1) ∧ Drawn0 w wc)
 case first =>
  have H := C2.out
  clear C2
  by_cases c1 : a1 < 0
  rotate_left
  ·rw [if_neg c1] at H
   have d1 := dF c1
   clear c1
   (first | rw [d1] | (simp only [i64_w, i32_w]; rw [d1]) | skip)
   have H' := am H
   clear H
   go_wp2
   go_meet
   case rel => exact ⟨_, (a1), ey, H', le1 J1, qs1⟩
  rw [if_pos c1] at H
  have d1 := dT c1
  clear c1
  (first | rw [d1] | (simp only [i64_w, i32_w]; rw [d1]) | skip)
  have H' := am H
  clear H
  go_wp2
  go_meet
  case rel => exact ⟨_, (wrap64 (-a1)), ey, H', le1 J1, qs1⟩
 clear C2
 obtain ⟨kq, x2, rfl, HA, J2, ⟨mc4, rfl⟩⟩ := hcut
 cases kq with
 | zero => exact absurd HA.out (by simp [spec_l9Gcd.j1])
 | succ k2 => ?_
 have H := HA.out
 clear HA
 simp only [spec_l9Gcd.j1] at H
 have H' := am H
 clear H
 go_wp2
 go_loopg [0, 1] k2 (fun kq v1 v2 w' => ∃ (x3 : Int) (x4 : Int), v1 = .int .i64 x3 ∧ v2 = .int .i64 x4 ∧ Aside0 (spec_l9Gcd.l0 kq x3 x4 = some r) ∧ Aside0 (kq ≤ k2) ∧ Drawn0 w w')
 case atStart => exact ⟨(x1), (x2), ey, ey, H', ⟨Nat.le_refl _⟩, qs1⟩
 case round =>
  clear H'
  obtain ⟨x3, x4, rfl, rfl, HA, HK3, ⟨m3, rfl⟩⟩ := hrel
  cases gk with
  | zero => exact absurd HA.out (by simp [spec_l9Gcd.l0])
  | succ k3 => ?_
  have H := HA.out
  clear HA
  simp only [spec_l9Gcd.l0] at H
  by_cases c1 : x4 = 0
  ·rw [if_pos c1] at H
   have d1 := eT c1
   have d2 := nF c1
   clear c1
   obtain rfl := Option.some.inj H
   go_wp2
   go_ret
   exact ⟨by first | rfl | (simp; done) | (simp [*]; done), qs1⟩
  rw [if_neg c1] at H
  have d1 := eF c1
  have d2 := nT c1
  have H' := am H
  clear H
  go_wp2
  go_roundg k3
  case measure => have := J1.out; have := J2.out; have := HK3.out; omega
  case rel => exact ⟨(x4), (Int.tmod x3 x4), ey, ey, H', ⟨by have := J1.out; have := J2.out; have := HK3.out; omega⟩, qs1⟩

def spec_l9Make.f (k : Nat) (a0 : Int) (a1 : Int) : Option (Int × Int) := if a0 > 65536 then ((spec_l9Gcd.f k a0 65536).bind fun t1 => (if t1 = 0 then (some (0, a1)) else ((spec_l1Mod.f a1 t1).bind fun t2 => (some (t1, t2))))) else (if a0 = 0 then (some (0, a1)) else ((spec_l1Mod.f a1 a0).bind fun t3 => (some (a0, t3))))
theorem spec_l9Make.mono : ∀ a0 a1 k, LeO (spec_l9Make.f k a0 a1) (spec_l9Make.f (k + 1) a0 a1) := by
 intro a0 a1 k
 unfold spec_l9Make.f
 repeat' first | (with_reducible first | apply spec_l9Gcd.mono | apply LeO.refl | apply LeO.none | refine LeO.ite ?_ ?_ | refine LeO.bind ?_ (fun _ => ?_)) | apply spec_l9Gcd.mono | apply LeO.none | refine LeO.ite ?_ ?_ | refine LeO.bind ?_ (fun _ => ?_)
set_option maxHeartbeats 8000000 in
set_option maxRecDepth 100000 in
theorem spec_l9Make.calls (k : Nat) (a0 : Int) (a1 : Int) (r1 : Int) (r2 : Int) (w : World) (h : spec_l9Make.f k a0 a1 = some (r1, r2)) :
  Calls Try.prog 106 #[.int .i64 a0, .int .i64 a1] w fun e w' => e = .returned (.agg #[.int .i64 r1, .int .i64 r2]) ∧ Below w.heap.size w w' := by
 have hu86 := Try.underlying86
 have HB := am (Below.refl w.heap.size w)
 have H : (if a0 > 65536 then ((spec_l9Gcd.f k a0 65536).bind fun t1 => (if t1 = 0 then (some (0, a1)) else ((spec_l1Mod.f a1 t1).bind fun t2 => (some (t1, t2))))) else (if a0 = 0 then (some (0, a1)) else ((spec_l1Mod.f a1 a0).bind fun t3 => (some (a0, t3))))) = some (r1, r2) := h
 clear h
 by_cases c1 : a0 > 65536
 rotate_left
 ·rw [if_neg c1] at H
  have d1 := dF c1
  clear c1
  by_cases c2 : a0 = 0
  ·rw [if_pos c2] at H
   have d2 := eT c2
   have d3 := nF c2
   clear c2
   obtain ⟨rfl, rfl⟩ := sj2 H
   go_enter Try.func106, Try.ntmps106
   go_wp2_with (first | ((with_reducible refine gate_dst (N := 4) rfl ?_); refine bxn 4 #[.int .i64 0, .int .i64 0] 86 HB fun g1 w1 K1 G1 hg hb => ?_; replace HB := am (below_step (YA HB) hb); clear hb hg; have := cB2 K1))
   refine bodyPost_ret (results_cell_row rfl _ _ g1 86 #[.int .i64 0, .int .i64 a1] (0, 0) _ rfl (by refine pf ?_; refine bp (ia2 0 0) ?_ 1; refine pf ?_; refine bp (ia2 0 0) ?_ 0; exact Z K1) Try.underlying86 rfl (by kernel_rfl)) rfl ?_
   exact ⟨ez, YA HB⟩
  rw [if_neg c2] at H
  have d2 := eF c2
  have d3 := nT c2
  obtain ⟨t3, A1, H⟩ := bd H
  try dsimp only at H
  obtain ⟨rfl, rfl⟩ := sj2 H
  go_enter Try.func106, Try.ntmps106
  go_wp2_with (first | ((with_reducible refine gate_dst (N := 4) rfl ?_); refine bxn 4 #[.int .i64 0, .int .i64 0] 86 HB fun g1 w1 K1 G1 hg hb => ?_; replace HB := am (below_step (YA HB) hb); clear hb hg) | ((with_reducible refine gate_callee (f := 100) rfl ?_); refine goesL_ (some 16) rfl rfl Try.func100 (by kernel_rfl) rfl #[.int .i64 a1, .int .i64 a0] rfl mz ?_; (with_reducible refine (spec_l1Mod.calls _ _ _ _ A1.out).mono ?_); rintro e w' ⟨rfl, ⟨nd, rfl⟩⟩; refine ⟨_, rfl, ?_⟩; (try (rw [drewN_self w1]; generalize hq_ : World.drewN w1 _ = w1; replace K1 : Bx2 w1 g1 0 0 86 := ⟨by rw [← hq_]; exact (Z K1)⟩; replace HB : Aside0 (Below w.heap.size w w1) := ⟨by rw [← hq_]; exact (YA HB)⟩; clear hq_)); have := cB2 K1))
  refine bodyPost_ret (results_cell_row rfl _ _ g1 86 #[.int .i64 a0, .int .i64 t3] (0, 0) _ rfl (by refine pf ?_; refine bp (ia2 a0 0) ?_ 1; refine pf ?_; refine bp (ia2 0 0) ?_ 0; exact Z K1) Try.underlying86 rfl (by kernel_rfl)) rfl ?_
  exact ⟨ez, YA HB⟩
 rw [if_pos c1] at H
 have d1 := dT c1
 clear c1
 obtain ⟨t1, A1, H⟩ := bd H
 try dsimp only at H
 by_cases c2 : t1 = 0
 ·rw [if_pos c2] at H
  have d2 := eT c2
  have d3 := nF c2
  clear c2
  obtain ⟨rfl, rfl⟩ := sj2 H
  go_enter Try.func106, Try.ntmps106
  go_wp2_with (first | ((with_reducible refine gate_dst (N := 4) rfl ?_); refine bxn 4 #[.int .i64 0, .int .i64 0] 86 HB fun g1 w1 K1 G1 hg hb => ?_; replace HB := am (below_step (YA HB) hb); clear hb hg) | ((with_reducible refine gate_callee (f := 107) rfl ?_); refine goesL_ (some 8) rfl rfl Try.func107 (by kernel_rfl) rfl #[.int .i64 a0, .int .i64 65536] rfl mz ?_; (with_reducible refine (spec_l9Gcd.calls _ _ _ _ _ A1.out).mono ?_); rintro e w' ⟨rfl, ⟨nd, rfl⟩⟩; refine ⟨_, rfl, ?_⟩; (try (rw [drewN_self w1]; generalize hq_ : World.drewN w1 _ = w1; replace K1 : Bx2 w1 g1 0 0 86 := ⟨by rw [← hq_]; exact (Z K1)⟩; replace HB : Aside0 (Below w.heap.size w w1) := ⟨by rw [← hq_]; exact (YA HB)⟩; clear hq_)); have := cB2 K1))
  refine bodyPost_ret (results_cell_row rfl _ _ g1 86 #[.int .i64 0, .int .i64 a1] (0, 0) _ rfl (by refine pf ?_; refine bp (ia2 0 0) ?_ 1; refine pf ?_; refine bp (ia2 0 0) ?_ 0; exact Z K1) Try.underlying86 rfl (by kernel_rfl)) rfl ?_
  exact ⟨ez, YA HB⟩
 rw [if_neg c2] at H
 have d2 := eF c2
 have d3 := nT c2
 obtain ⟨t2, A2, H⟩ := bd H
 try dsimp only at H
 obtain ⟨rfl, rfl⟩ := sj2 H
 go_enter Try.func106, Try.ntmps106
 go_wp2_with (first | ((with_reducible refine gate_dst (N := 4) rfl ?_); refine bxn 4 #[.int .i64 0, .int .i64 0] 86 HB fun g1 w1 K1 G1 hg hb => ?_; replace HB := am (below_step (YA HB) hb); clear hb hg) | ((with_reducible refine gate_callee (f := 107) rfl ?_); refine goesL_ (some 8) rfl rfl Try.func107 (by kernel_rfl) rfl #[.int .i64 a0, .int .i64 65536] rfl mz ?_; (with_reducible refine (spec_l9Gcd.calls _ _ _ _ _ A1.out).mono ?_); rintro e w' ⟨rfl, ⟨nd, rfl⟩⟩; refine ⟨_, rfl, ?_⟩; (try (rw [drewN_self w1]; generalize hq_ : World.drewN w1 _ = w1; replace K1 : Bx2 w1 g1 0 0 86 := ⟨by rw [← hq_]; exact (Z K1)⟩; replace HB : Aside0 (Below w.heap.size w w1) := ⟨by rw [← hq_]; exact (YA HB)⟩; clear hq_))) | ((with_reducible refine gate_callee (f := 100) rfl ?_); refine goesL_ (some 16) rfl rfl Try.func100 (by kernel_rfl) rfl #[.int .i64 a1, .int .i64 t1] rfl mz ?_; (with_reducible refine (spec_l1Mod.calls _ _ _ _ A2.out).mono ?_); rintro e w' ⟨rfl, ⟨nd, rfl⟩⟩; refine ⟨_, rfl, ?_⟩; (try (rw [drewN_self w1]; generalize hq_ : World.drewN w1 _ = w1; replace K1 : Bx2 w1 g1 0 0 86 := ⟨by rw [← hq_]; exact (Z K1)⟩; replace HB : Aside0 (Below w.heap.size w w1) := ⟨by rw [← hq_]; exact (YA HB)⟩; clear hq_)); have := cB2 K1))
 refine bodyPost_ret (results_cell_row rfl _ _ g1 86 #[.int .i64 t1, .int .i64 t2] (0, 0) _ rfl (by refine pf ?_; refine bp (ia2 t1 0) ?_ 1; refine pf ?_; refine bp (ia2 0 0) ?_ 0; exact Z K1) Try.underlying86 rfl (by kernel_rfl)) rfl ?_
 exact ⟨ez, YA HB⟩

def spec_RestJoin.j0 : Nat → Bool → Int → Int → Int → Int → Option (Int × Int)
 | 0, _, _, _, _, _ => none
 | k + 1, x1, x2, x3, x4, x5 => if x1 = true then ((spec_l9All.f).bind fun u1 => (some (u1.1, u1.2))) else ((spec_l9Gcd.f k x2 x4).bind fun t1 => ((spec_l9Gcd.f k t1 (wrap64 (x3 - x5))).bind fun t2 => ((spec_l9Make.f k t2 x3).bind fun u2 => (some (u2.1, u2.2)))))
def spec_RestJoin.f (k : Nat) (a0_0 : Int) (a0_1 : Int) (a1_0 : Int) (a1_1 : Int) : Option (Int × Int) := (spec_RestOk.f a0_0 a0_1).bind fun t1 => (if t1 = true then ((spec_RestOk.f a1_0 a1_1).bind fun t2 => (spec_RestJoin.j0 k (!t2) a0_0 a0_1 a1_0 a1_1)) else (spec_RestJoin.j0 k true a0_0 a0_1 a1_0 a1_1))
theorem spec_RestJoin.mono_l : ∀ k, (∀ y0 y1 y2 y3 y4, LeO (spec_RestJoin.j0 k y0 y1 y2 y3 y4) (spec_RestJoin.j0 (k + 1) y0 y1 y2 y3 y4))
 | 0 => fun _ _ _ _ _ r h => by simp [spec_RestJoin.j0] at h
 | k + 1 => by
  have ih0 := spec_RestJoin.mono_l k
  ·intro y0 y1 y2 y3 y4
   unfold spec_RestJoin.j0
   repeat' first | (with_reducible first | apply ih0 | apply spec_l9Gcd.mono | apply spec_l9Make.mono | apply LeO.refl | apply LeO.none | refine LeO.ite ?_ ?_ | refine LeO.bind ?_ (fun _ => ?_)) | apply ih0 | apply spec_l9Gcd.mono | apply spec_l9Make.mono | apply LeO.none | refine LeO.ite ?_ ?_ | refine LeO.bind ?_ (fun _ => ?_)
theorem spec_RestJoin.mono : ∀ a0 a1 a2 a3 k, LeO (spec_RestJoin.f k a0 a1 a2 a3) (spec_RestJoin.f (k + 1) a0 a1 a2 a3) := by
 intro a0 a1 a2 a3 k
 have ih0 := spec_RestJoin.mono_l k
 unfold spec_RestJoin.f
 repeat' first | (with_reducible first | apply ih0 | apply spec_l9Gcd.mono | apply spec_l9Make.mono | apply LeO.refl | apply LeO.none | refine LeO.ite ?_ ?_ | refine LeO.bind ?_ (fun _ => ?_)) | apply ih0 | apply spec_l9Gcd.mono | apply spec_l9Make.mono | apply LeO.none | refine LeO.ite ?_ ?_ | refine LeO.bind ?_ (fun _ => ?_)
def spec_RestJoin.T3 : Bool × List (List Nat × List Nat) := (true, [([], []), ([0], [0]), ([], []), ([2], [2]), ([1, 3], [1, 3]), ([], []), ([5], [5]), ([], []), ([7], [7]), ([6, 8], [6, 8]), ([4, 9, 4], [4, 9]), ([], []), ([11], [11]), ([10, 12, 10], [10, 12]), ([13, 13, 0, 1, 2, 3, 4, 5, 6, 7, 8, 9, 10, 11, 12, 13], [13])])
def spec_RestJoin.B3 : List Nat := [0, 1, 0, 4, 15, 0, 32, 0, 128, 480, 1023, 0, 2048, 8191, 16383]
theorem spec_RestJoin.tab3 : rtab .any (opsOf Try.f86 3) = spec_RestJoin.T3 := by kernel_rfl
theorem spec_RestJoin.bits3 : waitsOk spec_RestJoin.T3.2 spec_RestJoin.B3 = true := by kernel_rfl
set_option maxHeartbeats 8000000 in
set_option maxRecDepth 100000 in
theorem spec_RestJoin.calls (k : Nat) (a0_0 : Int) (a0_1 : Int) (a1_0 : Int) (a1_1 : Int) (r1 : Int) (r2 : Int) (w : World) (h : spec_RestJoin.f k a0_0 a0_1 a1_0 a1_1 = some (r1, r2)) :
  Calls Try.prog 86 #[.agg #[.int .i64 a0_0, .int .i64 a0_1], .agg #[.int .i64 a1_0, .int .i64 a1_1]] w fun e w' => e = .returned (.agg #[.int .i64 r1, .int .i64 r2]) ∧ Below w.heap.size w w' := by
 have hu86 := Try.underlying86
 have HB := am (Below.refl w.heap.size w)
 have H : ((spec_RestOk.f a0_0 a0_1).bind fun t1 => (if t1 = true then ((spec_RestOk.f a1_0 a1_1).bind fun t2 => (spec_RestJoin.j0 k (!t2) a0_0 a0_1 a1_0 a1_1)) else (spec_RestJoin.j0 k true a0_0 a0_1 a1_0 a1_1))) = some (r1, r2) := h
 clear h
 have C1 := am H
 clear H
 go_enter Try.func86, Try.ntmps86
 go_upto_region 1 with (first | ((with_reducible refine gate_dst (N := 2) rfl ?_); refine bxn 2 #[.int .i64 a0_0, .int .i64 a0_1] 86 HB fun g1 w2 K1 G1 hg hb => ?_; replace HB := am (below_step (YA HB) hb); clear hb hg) | ((with_reducible refine gate_dst (N := 3) rfl ?_); refine bxn 3 #[.int .i64 a1_0, .int .i64 a1_1] 86 HB fun g2 w3 K2 G2 hg hb => ?_; obtain ⟨N1,N2⟩ := ne_ hg K1; obtain ⟨K1, HB⟩ := bk1 K1 HB hb; clear hb hg) | ((with_reducible refine gate_dst (N := 4) rfl ?_); refine bxn 4 #[.int .i64 0, .int .i64 0] 86 HB fun g3 w4 K3 G3 hg hb => ?_; obtain ⟨N3,N4⟩ := ne_ hg K1; obtain ⟨N5,N6⟩ := ne_ hg K2; obtain ⟨K1, K2, HB⟩ := bk2 K1 K2 HB hb; clear hb hg))
 (try simp only [Act.put, List.setIfInBounds_toArray, List.set_cons_zero, List.set_cons_succ])
 go_cut [12] (fun v1 wc => ∃ (kq : Nat) (x1 : Bool), v1 = .bool x1 ∧ Aside0 (spec_RestJoin.j0 kq x1 a0_0 a0_1 a1_0 a1_1 = some (r1, r2)) ∧ Aside0 (kq ≤ k) ∧ Bx2 wc g1 a0_0 a0_1 86 ∧ Bx2 wc g2 a1_0 a1_1 86 ∧ Bx2 wc g3 0 0 86 ∧ Aside0 (Below w.heap.size w wc))
 case first =>
  have H := C1.out
  clear C1
  obtain ⟨t1, A1, H⟩ := bd H
  try dsimp only at H
  by_cases c1 : t1 = true
  rotate_left
  ·replace c1 := Bool.eq_false_iff.mpr c1
   subst c1
   rw [if_neg ff] at H
   have H' := am H
   clear H
   have := ns2 N1 N3
   have := cB2 K1
   go_wp2_with (first | ((with_reducible refine gate_callee (f := 102) rfl ?_); refine gL 6 Try.func102 (spec_RestOk.calls _ _ _ _ A1.out) fun w5 hb => ?_; obtain ⟨K1, K2, K3, HB⟩ := bk3 K1 K2 K3 HB hb; (try clear hb)))
   go_meet
   case rel => exact ⟨_, (true), ey, H', le0, ⟨Z K1⟩, ⟨Z K2⟩, ⟨Z K3⟩, ⟨YA HB⟩⟩
  subst c1
  rw [if_pos rfl] at H
  obtain ⟨t2, A2, H⟩ := bd H
  try dsimp only at H
  have H' := am H
  clear H
  have := ns2 N1 N3
  have := cB2 K1
  go_wp2_with (first | ((with_reducible refine gate_callee (f := 102) rfl ?_); refine gL 6 Try.func102 (spec_RestOk.calls _ _ _ _ A1.out) fun w5 hb => ?_; obtain ⟨K1, K2, K3, HB⟩ := bk3 K1 K2 K3 HB hb; (try clear hb); have := ns1 N5; have := cB2 K2) | (go_at_call 102; (with_reducible refine (spec_RestOk.calls _ _ _ _ A2.out).mono ?_); rintro e w6 ⟨rfl, hb⟩; obtain ⟨K1, K2, K3, HB⟩ := bk3 K1 K2 K3 HB hb; (try clear hb)))
  go_meet
  case rel => exact ⟨_, (!t2), ey, H', le0, ⟨Z K1⟩, ⟨Z K2⟩, ⟨Z K3⟩, ⟨YA HB⟩⟩
 clear C1
 obtain ⟨kq, x1, rfl, HA, J1, K1, K2, K3, HB⟩ := hcut
 cases kq with
 | zero => exact absurd HA.out (by simp [spec_RestJoin.j0])
 | succ k1 => ?_
 have H := HA.out
 clear HA
 simp only [spec_RestJoin.j0] at H
 by_cases c1 : x1 = true
 ·subst c1
  rw [if_pos rfl] at H
  obtain ⟨⟨t3, t4⟩, A1, H⟩ := bd H
  try dsimp only at H
  obtain ⟨rfl, rfl⟩ := sj2 H
  go_wp2_with (first | ((with_reducible refine gate_callee (f := 104) rfl ?_); refine gL 13 Try.func104 (spec_l9All.calls _ _ _ A1.out) fun w5 hb => ?_; obtain ⟨K1, K2, K3, HB⟩ := bk3 K1 K2 K3 HB hb; (try clear hb); have := ns2 N4 N6; have := cB2 K3))
  refine bodyPost_ret (results_cell_row rfl _ _ g3 86 #[.int .i64 t3, .int .i64 t4] (0, 0) _ rfl (by refine pf ?_; refine bp (ia2 t3 0) ?_ 1; refine pf ?_; refine bp (ia2 0 0) ?_ 0; exact Z K3) Try.underlying86 rfl (by kernel_rfl)) rfl ?_
  exact ⟨ez, YA HB⟩
 replace c1 := Bool.eq_false_iff.mpr c1
 subst c1
 rw [if_neg ff] at H
 obtain ⟨t3, A1, H⟩ := bd H
 try dsimp only at H
 obtain ⟨t4, A2, H⟩ := bd H
 try dsimp only at H
 obtain ⟨⟨t5, t6⟩, A3, H⟩ := bd H
 try dsimp only at H
 obtain ⟨rfl, rfl⟩ := sj2 H
 try go_wp2
 obtain ⟨K1, K2, K3, HB⟩ := dk3 K1 K2 K3 HB
 refine start_ (n := 15) (S := fun w' => ce2 w' g1 a0_0 a0_1 ∧ ce2 w' g2 a1_0 a1_1) (ds := []) (lb 15 0) (by kernel_rfl) rfl rfl ⟨cc2 K1, cc2 K2⟩ (fun hHeld => ?_); refine with_tabW spec_RestJoin.tab3 spec_RestJoin.bits3 (fun HT_ HW_ => ?_)
 generalize wc.drew = w5 at K1 K2 K3 HB hHeld ⊢
 refine pk 0 14 1 ?_
 refine pk 2 16 5 ?_
 refine pk 5 19 37 ?_
 refine pk 7 21 165 ?_
 refine pk 11 25 2213 ?_
 refine tk 1 15 2215 hHeld ?_
 refine tk 3 17 2223 hHeld ?_
 refine tk 6 20 2287 hHeld ?_
 refine tk 8 22 2543 hHeld ?_
 refine pk 9 23 3055 ?_
 refine tk 12 26 7151 hHeld ?_
 refine on 4 (some 18) 7167 fun K hK => ?_
 refine goes_ Try.func107 (by kernel_rfl) rfl #[.int .i64 a0_0, .int .i64 a1_0] (by rfl) rfl rfl mz ?_
 with_reducible refine (spec_l9Gcd.calls _ _ _ _ _ A1.out).mono ?_
 rintro e w' ⟨rfl, ⟨nd, rfl⟩⟩
 refine ⟨_, rfl, ?_⟩
 refine kk hK ⟨cc2 K1, cc2 K2⟩ fun hHeld => ?_
 clear hK K
 refine on 10 (some 24) 8191 fun K hK => ?_
 refine goes_ Try.func107 (by kernel_rfl) rfl #[.int .i64 t3, .int .i64 (wrap64 (a0_1 - a1_1))] (by rfl) rfl rfl mz ?_
 with_reducible refine (spec_l9Gcd.calls _ _ _ _ _ A2.out).mono ?_
 rintro e w' ⟨rfl, ⟨nd, rfl⟩⟩
 refine ⟨_, rfl, ?_⟩
 refine kk hK ⟨cc2 K1, cc2 K2⟩ fun hHeld => ?_
 clear hK K
 refine on 13 (some 27) 16383 fun K hK => ?_
 refine ck hK Try.func106 (spec_l9Make.calls _ _ _ _ _ _ A3.out) (fun _ b => bk3 K1 K2 K3 HB b) fun w6 Q_ hHeld => ?_
 clear hK K
 obtain ⟨K1, K2, K3, HB⟩ := Q_
 refine on 14 none 32767 fun K hK => ?_
 have s1 : w6.cell? ⟨g3, 0, none⟩ = some (.int .i64 0) := bc K3 0
 have hfs32 := blk_frozen K3.out 0
 have := ns4 N3 N5 N4 N6
 have s2 : w6.cell? ⟨g3, 1, none⟩ = some (.int .i64 0) := bc K3 1
 have hfs33 := blk_frozen K3.out 1
 have := ns4 N3 N5 N4 N6
 refine skip_ (w1 := ?_) (by rfl) rfl ?_ ?_
 rotate_left
 ·go_simp
  rfl
 refine hK.out _ _ ⟨cf2 N3 (cf2 N3 hHeld.1), cf2 N5 (cf2 N5 hHeld.2)⟩ (fun hHeld => ?_)
 clear hK K
 refine done_ (done_of HT_.out (by kernel_rfl)) ?_
 try go_wp2
 refine bodyPost_ret (results_cell_row rfl _ _ g3 86 #[.int .i64 t5, .int .i64 t6] (0, 0) _ rfl (by refine pf ?_; refine bp (ia2 t5 0) ?_ 1; refine pf ?_; refine bp (ia2 0 0) ?_ 0; exact Z K3) Try.underlying86 rfl (by kernel_rfl)) rfl ?_
 exact ⟨ez, YA HB⟩
end
end Go.Proofs.Ythbkakcchgnhpaa.PFnValTurn
