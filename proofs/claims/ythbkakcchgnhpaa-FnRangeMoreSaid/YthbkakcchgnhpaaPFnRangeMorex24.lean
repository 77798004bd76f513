/- Written by this session's own driver (wip/dprint.py): the functions that the law FnRangeMore reaches, as Lean functions, each with its contract. -/
import Derived.Test.YthbkakcchgnhpaaPFnRangeMorex0
import Derived.Test.YthbkakcchgnhpaaPFnRangeMorex1
import Derived.Test.YthbkakcchgnhpaaPFnRangeMorex2
import Derived.Test.YthbkakcchgnhpaaPFnRangeMorex3
import Derived.Test.YthbkakcchgnhpaaPFnRangeMorex22
import Derived.Test.YthbkakcchgnhpaaPFnRangeMorex23
import Derived.Test.YthbkakcchgnhpaaSv
namespace Go.Proofs.Ythbkakcchgnhpaa.PFnRangeMore
open Go.RowKit Go.Proofs.YthbkakcchgnhpaaV.PrintWords Go.Proofs.YthbkakcchgnhpaaV.PrintLast Go.Proofs.YthbkakcchgnhpaaV.PrintMore Go.Proofs.YthbkakcchgnhpaaSv
attribute [local go_sem] max2_int min2_int max_two min_two max_three min_three max_four min_four   -- for this text's walks alone
set_option linter.unusedVariables false
set_option linter.unusedSimpArgs false

attribute [local go_sem high] eqA24
/-! ### spec_l8Two: function 67 -/
attribute [local go_sem] Go.Proofs.YthbkakcchgnhpaaSet.isSome_setCell
def spec_l8Two.j0 : Nat → Bool → List Int → Int → Int → Int → Int → Int → Option (Int × Int × Int × Int × Int)
 | 0, _, _, _, _, _, _, _ => none
 | k + 1, x1, x2, x3, x4, x5, x6, x7 => if x1 = true then ((spec_l1Rd_pick.f k x2 x3 9).bind fun u1 => ((spec_l1Rd_pick.f k x2 u1.2 9).bind fun u2 => ((spec_l8Cut.f (wrap64 ((wrap64 (x4 + u1.1)) - 4)) (wrap64 ((wrap64 (x5 + u2.1)) - 4))).bind fun u3 => (some (x4, x5, u3.1, u3.2, u2.2))))) else (some (x4, x5, x6, x7, x3))
def spec_l8Two.f (k : Nat) (s0_0 : List Int) (s0_1 : Int) : Option (Int × Int × Int × Int × Int) := (spec_l8Wild.f k s0_0 s0_1).bind fun u1 => ((spec_l8Wild.f k s0_0 u1.2.2).bind fun u2 => ((spec_l1Rd_pick.f k s0_0 u2.2.2 3).bind fun u3 => (if u3.1 = 0 then ((spec_RangeOk.f u1.1 u1.2.1).bind fun t1 => (if t1 = true then ((spec_l8None.f).bind fun u4 => (spec_l8Two.j0 k (!(u1.1 == u4.1) || (!(u1.2.1 == u4.2))) s0_0 u3.2 u1.1 u1.2.1 u2.1 u2.2.1)) else (spec_l8Two.j0 k false s0_0 u3.2 u1.1 u1.2.1 u2.1 u2.2.1))) else (spec_l8Two.j0 k false s0_0 u3.2 u1.1 u1.2.1 u2.1 u2.2.1))))
theorem spec_l8Two.mono_l : ∀ k, (∀ y0 y1 y2 y3 y4 y5 y6, LeO (spec_l8Two.j0 k y0 y1 y2 y3 y4 y5 y6) (spec_l8Two.j0 (k + 1) y0 y1 y2 y3 y4 y5 y6))
 | 0 => fun _ _ _ _ _ _ _ r h => by simp [spec_l8Two.j0] at h
 | k + 1 => by
  have ih0 := spec_l8Two.mono_l k
  ·intro y0 y1 y2 y3 y4 y5 y6
   unfold spec_l8Two.j0
   repeat' first | (with_reducible first | apply ih0 | apply spec_l1Rd_pick.mono | apply spec_l8Wild.mono | apply LeO.refl | apply LeO.none | refine LeO.ite ?_ ?_ | refine LeO.bind ?_ (fun _ => ?_)) | apply ih0 | apply spec_l1Rd_pick.mono | apply spec_l8Wild.mono | apply LeO.none | refine LeO.ite ?_ ?_ | refine LeO.bind ?_ (fun _ => ?_)
theorem spec_l8Two.mono : ∀ a0 a1 k, LeO (spec_l8Two.f k a0 a1) (spec_l8Two.f (k + 1) a0 a1) := by
 intro a0 a1 k
 have ih0 := spec_l8Two.mono_l k
 unfold spec_l8Two.f
 repeat' first | (with_reducible first | apply ih0 | apply spec_l1Rd_pick.mono | apply spec_l8Wild.mono | apply LeO.refl | apply LeO.none | refine LeO.ite ?_ ?_ | refine LeO.bind ?_ (fun _ => ?_)) | apply ih0 | apply spec_l1Rd_pick.mono | apply spec_l8Wild.mono | apply LeO.none | refine LeO.ite ?_ ?_ | refine LeO.bind ?_ (fun _ => ?_)
def spec_l8Two.T3 : Bool × List (List Nat × List Nat) := (true, [([], []), ([0], [0]), ([1], [1]), ([2, 1], [2]), ([3], [3]), ([4, 3, 3], [3, 4]), ([3, 5], [3, 5]), ([6, 5], [6]), ([7], [7]), ([7, 7], [7]), ([8, 9, 7], [7, 8, 9]), ([7, 10], [7, 10])])
def spec_l8Two.B3 : List Nat := [0, 1, 3, 7, 15, 31, 63, 127, 255, 255, 1023, 2047]
theorem spec_l8Two.tab3 : rtab .any (opsOf Try.f67 3) = spec_l8Two.T3 := by kernel_rfl
theorem spec_l8Two.bits3 : waitsOk spec_l8Two.T3.2 spec_l8Two.B3 = true := by kernel_rfl
def spec_l8Two.T4 : Bool × List (List Nat × List Nat) := (true, [([], []), ([0], [0]), ([], []), ([2], [2]), ([1, 3], [1, 3]), ([4], [4]), ([], []), ([6], [6]), ([], []), ([8, 3], [8]), ([7, 9], [7, 9]), ([10], [10]), ([5, 11, 9], [5, 11]), ([12, 12, 0, 1, 2, 3, 4, 5, 6, 7, 8, 9, 10, 11, 12], [12])])
def spec_l8Two.B4 : List Nat := [0, 1, 0, 4, 15, 31, 0, 64, 0, 268, 972, 1996, 4095, 8191]
theorem spec_l8Two.tab4 : rtab .any (opsOf Try.f67 4) = spec_l8Two.T4 := by kernel_rfl
theorem spec_l8Two.bits4 : waitsOk spec_l8Two.T4.2 spec_l8Two.B4 = true := by kernel_rfl
set_option maxHeartbeats 8000000 in
set_option maxRecDepth 100000 in
theorem spec_l8Two.calls (k : Nat) (g : Nat) (s0_0 : List Int) (s0_1 : Int) (r1 : Int) (r2 : Int) (r3 : Int) (r4 : Int) (r5 : Int) (w2 w : World) (hI : IsS99 w2 w g s0_0 s0_1) (hB : Below w2.heap.size w2 w) (h : spec_l8Two.f k s0_0 s0_1 = some (r1, r2, r3, r4, r5)) :
  Calls Try.prog 67 #[.pointer (some ⟨g, 0, none⟩)] w fun e w' => e = .returned (.tuple #[.agg #[.int .i64 r1, .int .i64 r2], .agg #[.int .i64 r3, .int .i64 r4]]) ∧ IsS99 w2 w' g s0_0 r5 ∧ Below w2.heap.size w2 w' ∧ KeepBut w w' g none := by
 have hu24 := Try.underlying24
 have I1 := am hI
 have HK := am (KeepBut.refl w g none)
 have HL := am hB.size
 clear hI
 have HW0 := am hB.size
 have HB := am hB
 clear hB
 have H : ((spec_l8Wild.f k s0_0 s0_1).bind fun u1 => ((spec_l8Wild.f k s0_0 u1.2.2).bind fun u2 => ((spec_l1Rd_pick.f k s0_0 u2.2.2 3).bind fun u3 => (if u3.1 = 0 then ((spec_RangeOk.f u1.1 u1.2.1).bind fun t1 => (if t1 = true then ((spec_l8None.f).bind fun u4 => (spec_l8Two.j0 k (!(u1.1 == u4.1) || (!(u1.2.1 == u4.2))) s0_0 u3.2 u1.1 u1.2.1 u2.1 u2.2.1)) else (spec_l8Two.j0 k false s0_0 u3.2 u1.1 u1.2.1 u2.1 u2.2.1))) else (spec_l8Two.j0 k false s0_0 u3.2 u1.1 u1.2.1 u2.1 u2.2.1))))) = some (r1, r2, r3, r4, r5) := h
 clear h
 obtain ⟨⟨t2, t3, t4⟩, A1, H⟩ := bd H
 try dsimp only at H
 obtain ⟨⟨t5, t6, t7⟩, A2, H⟩ := bd H
 try dsimp only at H
 have C1 := am H
 clear H
 go_enter Try.func67, Try.ntmps67
 go_upto_region 3 with (first | ((with_reducible refine gate_dst (N := 2) rfl ?_); refine bx 2 #[.int .i64 0, .int .i64 0] 24 ?_; intro g1 hg w3 hbox hb; have K1 := am (hbox); have G1 := am ((by rw [hg]; exact (keep_size (w := w) (g := g) (row := none) (by repeat (first | (with_reducible first | exact HK.out | apply KeepBut.set_ | apply keep_drewN | apply keep_drew | apply keep_alloc) | exact HK.out))) : w.heap.size ≤ g1)); have G2 := am ((Nat.le_trans HW0.out (by rw [hg]; exact (keep_size (w := w) (g := g) (row := none) (by repeat (first | (with_reducible first | exact HK.out | apply KeepBut.set_ | apply keep_drewN | apply keep_drew | apply keep_alloc) | exact HK.out))) : w.heap.size ≤ g1) : w2.heap.size ≤ g1)); have N1 := am ((by rw [hg]; exact Nat.ne_of_lt (IsS99.lt (show IsS99 w2 _ g s0_0 s0_1 from by repeat (first | (with_reducible first | exact I1.out | apply IsS99.alloc | apply IsS99.drewN | apply IsS99.drew | apply IsS99.set_1) | exact I1.out))) : g ≠ g1)); have N2 := am ((by rw [hg]; exact Nat.ne_of_gt (IsS99.lt (show IsS99 w2 _ g s0_0 s0_1 from by repeat (first | (with_reducible first | exact I1.out | apply IsS99.alloc | apply IsS99.drewN | apply IsS99.drew | apply IsS99.set_1) | exact I1.out))) : g1 ≠ g)); replace HK := am (KeepBut.trans (by repeat (first | (with_reducible first | exact HK.out | apply KeepBut.set_ | apply keep_drewN | apply keep_drew | apply keep_alloc) | exact HK.out)) (KeepBut.of_below hb g none) (.inl rfl)); replace HB := am (below_step (by repeat (first | (with_reducible first | exact HB.out | apply below_alloc | apply pw_below_drewN | apply below_drew1 | refine below_set ?_ (IsS99.ge I1.out)) | exact HB.out)) hb); replace I1 := am (IsS99.below (by repeat (first | (with_reducible first | exact I1.out | apply IsS99.alloc | apply IsS99.drewN | apply IsS99.drew | apply IsS99.set_1) | exact I1.out)) hb); clear hb hbox hg) | ((with_reducible refine gate_dst (N := 3) rfl ?_); refine bx 3 #[.int .i64 0, .int .i64 0] 24 ?_; intro g2 hg w4 hbox hb; have K2 := am (hbox); have G3 := am ((by rw [hg]; exact (keep_size (w := w) (g := g) (row := none) (by repeat (first | (with_reducible first | exact HK.out | apply KeepBut.set_ | apply keep_drewN | apply keep_drew | apply keep_alloc | refine keep_far ?_ G1.out _) | exact HK.out))) : w.heap.size ≤ g2)); have G4 := am ((Nat.le_trans HW0.out (by rw [hg]; exact (keep_size (w := w) (g := g) (row := none) (by repeat (first | (with_reducible first | exact HK.out | apply KeepBut.set_ | apply keep_drewN | apply keep_drew | apply keep_alloc | refine keep_far ?_ G1.out _) | exact HK.out))) : w.heap.size ≤ g2) : w2.heap.size ≤ g2)); obtain ⟨N3,N4⟩ := ne_ hg K1; have N5 := am ((by rw [hg]; exact Nat.ne_of_lt (IsS99.lt (show IsS99 w2 _ g s0_0 s0_1 from by repeat (first | (with_reducible first | exact I1.out | apply IsS99.alloc | apply IsS99.drewN | apply IsS99.drew | apply IsS99.set_1 | refine IsS99.far ?_ N1.out _) | exact I1.out))) : g ≠ g2)); have N6 := am ((by rw [hg]; exact Nat.ne_of_gt (IsS99.lt (show IsS99 w2 _ g s0_0 s0_1 from by repeat (first | (with_reducible first | exact I1.out | apply IsS99.alloc | apply IsS99.drewN | apply IsS99.drew | apply IsS99.set_1 | refine IsS99.far ?_ N1.out _) | exact I1.out))) : g2 ≠ g)); replace K1 := bb K1 hb; replace HK := am (KeepBut.trans (by repeat (first | (with_reducible first | exact HK.out | apply KeepBut.set_ | apply keep_drewN | apply keep_drew | apply keep_alloc | refine keep_far ?_ G1.out _) | exact HK.out)) (KeepBut.of_below hb g none) (.inl rfl)); replace HB := am (below_step (by repeat (first | (with_reducible first | exact HB.out | apply below_alloc | apply pw_below_drewN | apply below_drew1 | refine below_set ?_ (IsS99.ge I1.out) | refine below_set ?_ G2.out) | exact HB.out)) hb); replace I1 := am (IsS99.below (by repeat (first | (with_reducible first | exact I1.out | apply IsS99.alloc | apply IsS99.drewN | apply IsS99.drew | apply IsS99.set_1 | refine IsS99.far ?_ N1.out _) | exact I1.out)) hb); clear hb hbox hg) | ((with_reducible refine gate_callee (f := 65) rfl ?_); refine goesL_ (some 7) rfl rfl Try.func65 (by kernel_rfl) rfl #[.pointer (some ⟨g, 0, none⟩)] rfl mz ?_; (with_reducible refine (spec_l8Wild.calls k g s0_0 s0_1 t2 t3 t4 w2 _ ?side1 ?side2 A1.out).mono ?_); (case side1 => repeat (first | (with_reducible first | exact I1.out | apply IsS99.alloc | apply IsS99.drewN | apply IsS99.drew | apply IsS99.set_1 | refine IsS99.far ?_ N1.out _ | refine IsS99.far ?_ N5.out _) | exact I1.out)); (case side2 => repeat (first | (with_reducible first | exact HB.out | apply below_alloc | apply pw_below_drewN | apply below_drew1 | refine below_set ?_ (IsS99.ge I1.out) | refine below_set ?_ G2.out | refine below_set ?_ G4.out) | exact HB.out)); rintro e w5 ⟨rfl, hi, hb, hk⟩; refine ⟨_, rfl, ?_⟩; replace K1 := am (KeepBut.blk hk (g' := g1) (o := b2 0 0 24) (Z K1) N2.out (by simp)); replace K2 := am (KeepBut.blk hk (g' := g2) (o := b2 0 0 24) (Z K2) N6.out (by simp)); replace HK := am (KeepBut.trans (by repeat (first | (with_reducible first | exact HK.out | apply KeepBut.set_ | apply keep_drewN | apply keep_drew | apply keep_alloc | refine keep_far ?_ G1.out _ | refine keep_far ?_ G3.out _) | exact HK.out)) hk (.inl rfl)); replace HB := am (hb); replace I1 := am (hi); (try clear hb)) | ((with_reducible refine gate_dst (N := 4) rfl ?_); refine bx 4 #[.int .i64 0, .int .i64 0] 24 ?_; intro g3 hg w6 hbox hb; have K3 := am (hbox); have G5 := am ((by rw [hg]; exact (keep_size (w := w) (g := g) (row := none) (by repeat (first | (with_reducible first | exact HK.out | apply KeepBut.set_ | apply keep_drewN | apply keep_drew | apply keep_alloc | refine keep_far ?_ G1.out _ | refine keep_far ?_ G3.out _) | exact HK.out))) : w.heap.size ≤ g3)); have G6 := am ((Nat.le_trans HW0.out (by rw [hg]; exact (keep_size (w := w) (g := g) (row := none) (by repeat (first | (with_reducible first | exact HK.out | apply KeepBut.set_ | apply keep_drewN | apply keep_drew | apply keep_alloc | refine keep_far ?_ G1.out _ | refine keep_far ?_ G3.out _) | exact HK.out))) : w.heap.size ≤ g3) : w2.heap.size ≤ g3)); obtain ⟨N7,N8⟩ := ne_ hg K1; obtain ⟨N9,N10⟩ := ne_ hg K2; have N11 := am ((by rw [hg]; exact Nat.ne_of_lt (IsS99.lt (show IsS99 w2 _ g s0_0 t4 from by repeat (first | (with_reducible first | exact I1.out | apply IsS99.alloc | apply IsS99.drewN | apply IsS99.drew | apply IsS99.set_1 | refine IsS99.far ?_ N1.out _ | refine IsS99.far ?_ N5.out _) | exact I1.out))) : g ≠ g3)); have N12 := am ((by rw [hg]; exact Nat.ne_of_gt (IsS99.lt (show IsS99 w2 _ g s0_0 t4 from by repeat (first | (with_reducible first | exact I1.out | apply IsS99.alloc | apply IsS99.drewN | apply IsS99.drew | apply IsS99.set_1 | refine IsS99.far ?_ N1.out _ | refine IsS99.far ?_ N5.out _) | exact I1.out))) : g3 ≠ g)); replace K1 := bb K1 hb; replace K2 := bb K2 hb; replace HK := am (KeepBut.trans (by repeat (first | (with_reducible first | exact HK.out | apply KeepBut.set_ | apply keep_drewN | apply keep_drew | apply keep_alloc | refine keep_far ?_ G1.out _ | refine keep_far ?_ G3.out _) | exact HK.out)) (KeepBut.of_below hb g none) (.inl rfl)); replace HB := am (below_step (by repeat (first | (with_reducible first | exact HB.out | apply below_alloc | apply pw_below_drewN | apply below_drew1 | refine below_set ?_ (IsS99.ge I1.out) | refine below_set ?_ G2.out | refine below_set ?_ G4.out) | exact HB.out)) hb); replace I1 := am (IsS99.below (by repeat (first | (with_reducible first | exact I1.out | apply IsS99.alloc | apply IsS99.drewN | apply IsS99.drew | apply IsS99.set_1 | refine IsS99.far ?_ N1.out _ | refine IsS99.far ?_ N5.out _) | exact I1.out)) hb); clear hb hbox hg; have z_ := ns3 N8 N10 N12; have z_ := cB2 K3) | ((with_reducible refine gate_callee (f := 65) rfl ?_); refine goesL_ (some 9) rfl rfl Try.func65 (by kernel_rfl) rfl #[.pointer (some ⟨g, 0, none⟩)] rfl mz ?_; (with_reducible refine (spec_l8Wild.calls k g s0_0 t4 t5 t6 t7 w2 _ ?side1 ?side2 A2.out).mono ?_); (case side1 => repeat (first | (with_reducible first | exact I1.out | apply IsS99.alloc | apply IsS99.drewN | apply IsS99.drew | apply IsS99.set_1 | refine IsS99.far ?_ N1.out _ | refine IsS99.far ?_ N5.out _ | refine IsS99.far ?_ N11.out _) | exact I1.out)); (case side2 => repeat (first | (with_reducible first | exact HB.out | apply below_alloc | apply pw_below_drewN | apply below_drew1 | refine below_set ?_ (IsS99.ge I1.out) | refine below_set ?_ G2.out | refine below_set ?_ G4.out | refine below_set ?_ G6.out) | exact HB.out)); rintro e w7 ⟨rfl, hi, hb, hk⟩; refine ⟨_, rfl, ?_⟩; replace K1 := am (KeepBut.blk hk (g' := g1) (o := b2 0 0 24) (by refine fa N7 ?_; refine fa N7 ?_; exact Z K1) N2.out (by simp)); replace K2 := am (KeepBut.blk hk (g' := g2) (o := b2 0 0 24) (by refine fa N9 ?_; refine fa N9 ?_; exact Z K2) N6.out (by simp)); replace K3 := am (KeepBut.blk hk (g' := g3) (o := b2 t2 t3 24) (by refine pf ?_; refine blk_put (cs := #[.int .i64 t2, .int .i64 0]) ?_ 1 _ rfl; refine pf ?_; refine blk_put (cs := #[.int .i64 0, .int .i64 0]) ?_ 0 _ rfl; exact Z K3) N12.out (by simp)); replace HK := am (KeepBut.trans (by repeat (first | (with_reducible first | exact HK.out | apply KeepBut.set_ | apply keep_drewN | apply keep_drew | apply keep_alloc | refine keep_far ?_ G1.out _ | refine keep_far ?_ G3.out _ | refine keep_far ?_ G5.out _) | exact HK.out)) hk (.inl rfl)); replace HB := am (hb); replace I1 := am (hi); (try clear hb)) | ((with_reducible refine gate_dst (N := 5) rfl ?_); refine bx 5 #[.int .i64 0, .int .i64 0] 24 ?_; intro g4 hg w8 hbox hb; have K4 := am (hbox); have G7 := am ((by rw [hg]; exact (keep_size (w := w) (g := g) (row := none) (by repeat (first | (with_reducible first | exact HK.out | apply KeepBut.set_ | apply keep_drewN | apply keep_drew | apply keep_alloc | refine keep_far ?_ G1.out _ | refine keep_far ?_ G3.out _ | refine keep_far ?_ G5.out _) | exact HK.out))) : w.heap.size ≤ g4)); have G8 := am ((Nat.le_trans HW0.out (by rw [hg]; exact (keep_size (w := w) (g := g) (row := none) (by repeat (first | (with_reducible first | exact HK.out | apply KeepBut.set_ | apply keep_drewN | apply keep_drew | apply keep_alloc | refine keep_far ?_ G1.out _ | refine keep_far ?_ G3.out _ | refine keep_far ?_ G5.out _) | exact HK.out))) : w.heap.size ≤ g4) : w2.heap.size ≤ g4)); obtain ⟨N13,N14⟩ := ne_ hg K1; obtain ⟨N15,N16⟩ := ne_ hg K2; obtain ⟨N17,N18⟩ := ne_ hg K3; have N19 := am ((by rw [hg]; exact Nat.ne_of_lt (IsS99.lt (show IsS99 w2 _ g s0_0 t7 from by repeat (first | (with_reducible first | exact I1.out | apply IsS99.alloc | apply IsS99.drewN | apply IsS99.drew | apply IsS99.set_1 | refine IsS99.far ?_ N1.out _ | refine IsS99.far ?_ N5.out _ | refine IsS99.far ?_ N11.out _) | exact I1.out))) : g ≠ g4)); have N20 := am ((by rw [hg]; exact Nat.ne_of_gt (IsS99.lt (show IsS99 w2 _ g s0_0 t7 from by repeat (first | (with_reducible first | exact I1.out | apply IsS99.alloc | apply IsS99.drewN | apply IsS99.drew | apply IsS99.set_1 | refine IsS99.far ?_ N1.out _ | refine IsS99.far ?_ N5.out _ | refine IsS99.far ?_ N11.out _) | exact I1.out))) : g4 ≠ g)); replace K1 := bb K1 hb; replace K2 := bb K2 hb; replace K3 := bb K3 hb; replace HK := am (KeepBut.trans (by repeat (first | (with_reducible first | exact HK.out | apply KeepBut.set_ | apply keep_drewN | apply keep_drew | apply keep_alloc | refine keep_far ?_ G1.out _ | refine keep_far ?_ G3.out _ | refine keep_far ?_ G5.out _) | exact HK.out)) (KeepBut.of_below hb g none) (.inl rfl)); replace HB := am (below_step (by repeat (first | (with_reducible first | exact HB.out | apply below_alloc | apply pw_below_drewN | apply below_drew1 | refine below_set ?_ (IsS99.ge I1.out) | refine below_set ?_ G2.out | refine below_set ?_ G4.out | refine below_set ?_ G6.out) | exact HB.out)) hb); replace I1 := am (IsS99.below (by repeat (first | (with_reducible first | exact I1.out | apply IsS99.alloc | apply IsS99.drewN | apply IsS99.drew | apply IsS99.set_1 | refine IsS99.far ?_ N1.out _ | refine IsS99.far ?_ N5.out _ | refine IsS99.far ?_ N11.out _) | exact I1.out)) hb); clear hb hbox hg; have z_ := ns4 N14 N16 N18 N20; have z_ := cB2 K4))
 (try simp only [Act.put, List.setIfInBounds_toArray, List.set_cons_zero, List.set_cons_succ])
 go_cut [21] (fun v1 wc => ∃ (kq : Nat) (x1 : Bool) (x2 : Int), v1 = .bool x1 ∧ Aside0 (spec_l8Two.j0 kq x1 s0_0 x2 t2 t3 t5 t6 = some (r1, r2, r3, r4, r5)) ∧ Aside0 (kq ≤ k) ∧ Bx2 wc g1 0 0 24 ∧ Bx2 wc g2 0 0 24 ∧ Bx2 wc g3 t2 t3 24 ∧ Bx2 wc g4 t5 t6 24 ∧ Aside0 (IsS99 w2 wc g s0_0 x2) ∧ Aside0 (KeepBut w wc g none) ∧ Aside0 (Below w2.heap.size w2 wc))
 case first =>
  have H := C1.out
  clear C1
  obtain ⟨⟨t8, t9⟩, A3, H⟩ := bd H
  try dsimp only at H
  by_cases c1 : t8 = 0
  rotate_left
  ·rw [if_neg c1] at H
   have d1 := eF c1
   have d2 := nT c1
   (first | rw [d1] | (simp only [i64_w, i32_w]; rw [d1]) | skip)
   have H' := am H
   clear H
   try go_wp2
   have n0_ : Aside0 (((w8.setCell ⟨g4, 0, none⟩ (.int .i64 t5)).setCell ⟨g4, 1, none⟩ (.int .i64 t6)).heap[g1]? = some (.cells #[.int .i64 0, .int .i64 0] 24 (0, 0))) := ⟨by refine fa N13 ?_; refine fa N13 ?_; exact Z K1⟩
   have n1_ : Aside0 (((w8.setCell ⟨g4, 0, none⟩ (.int .i64 t5)).setCell ⟨g4, 1, none⟩ (.int .i64 t6)).heap[g2]? = some (.cells #[.int .i64 0, .int .i64 0] 24 (0, 0))) := ⟨by refine fa N15 ?_; refine fa N15 ?_; exact Z K2⟩
   have n2_ : Aside0 (((w8.setCell ⟨g4, 0, none⟩ (.int .i64 t5)).setCell ⟨g4, 1, none⟩ (.int .i64 t6)).heap[g3]? = some (.cells #[.int .i64 t2, .int .i64 t3] 24 (0, 0))) := ⟨by refine fa N17 ?_; refine fa N17 ?_; exact Z K3⟩
   have n3_ : Aside0 (((w8.setCell ⟨g4, 0, none⟩ (.int .i64 t5)).setCell ⟨g4, 1, none⟩ (.int .i64 t6)).heap[g4]? = some (.cells #[.int .i64 t5, .int .i64 t6] 24 (0, 0))) := ⟨by refine pf ?_; refine blk_put (cs := #[.int .i64 t5, .int .i64 0]) ?_ 1 _ rfl; refine pf ?_; refine blk_put (cs := #[.int .i64 0, .int .i64 0]) ?_ 0 _ rfl; exact Z K4⟩
   have n4_ : Aside0 (IsS99 w2 ((w8.setCell ⟨g4, 0, none⟩ (.int .i64 t5)).setCell ⟨g4, 1, none⟩ (.int .i64 t6)) g s0_0 t7) := ⟨by repeat (first | (with_reducible first | exact I1.out | apply IsS99.alloc | apply IsS99.drewN | apply IsS99.drew | apply IsS99.set_1 | refine IsS99.far ?_ N1.out _ | refine IsS99.far ?_ N5.out _ | refine IsS99.far ?_ N11.out _ | refine IsS99.far ?_ N19.out _) | exact I1.out)⟩
   have n5_ : Aside0 (KeepBut w ((w8.setCell ⟨g4, 0, none⟩ (.int .i64 t5)).setCell ⟨g4, 1, none⟩ (.int .i64 t6)) g none) := ⟨by repeat (first | (with_reducible first | exact HK.out | apply KeepBut.set_ | apply keep_drewN | apply keep_drew | apply keep_alloc | refine keep_far ?_ G1.out _ | refine keep_far ?_ G3.out _ | refine keep_far ?_ G5.out _ | refine keep_far ?_ G7.out _) | exact HK.out)⟩
   have n6_ : Aside0 (Below w2.heap.size w2 ((w8.setCell ⟨g4, 0, none⟩ (.int .i64 t5)).setCell ⟨g4, 1, none⟩ (.int .i64 t6))) := ⟨by repeat (first | (with_reducible first | exact HB.out | apply below_alloc | apply pw_below_drewN | apply below_drew1 | refine below_set ?_ (IsS99.ge I1.out) | refine below_set ?_ G2.out | refine below_set ?_ G4.out | refine below_set ?_ G6.out | refine below_set ?_ G8.out) | exact HB.out)⟩
   (try clear K1)
   (try clear K2)
   (try clear K3)
   (try clear K4)
   (try clear I1)
   (try clear HK)
   (try clear HB)
   generalize ((w8.setCell ⟨g4, 0, none⟩ (.int .i64 t5)).setCell ⟨g4, 1, none⟩ (.int .i64 t6)) = w9 at n0_ n1_ n2_ n3_ n4_ n5_ n6_ ⊢
   have K1 := n0_
   have K2 := n1_
   have K3 := n2_
   have K4 := n3_
   have I1 := n4_
   have HK := n5_
   have HB := n6_
   clear n0_ n1_ n2_ n3_ n4_ n5_ n6_
   replace K1 := am (blk_drew K1.out)
   replace K2 := am (blk_drew K2.out)
   replace K3 := am (blk_drew K3.out)
   replace K4 := am (blk_drew K4.out)
   replace I1 := am (IsS99.drew I1.out)
   replace HK := am (keep_drew HK.out)
   replace HB := am (below_drew1 HB.out)
   refine start_ (n := 12) (S := fun w' => True) (ds := []) (lb 12 0) (by kernel_rfl) rfl rfl trivial (fun hHeld => ?_); refine with_tabW spec_l8Two.tab3 spec_l8Two.bits3 (fun HT_ HW_ => ?_)
   generalize w9.drew = w10 at K1 K2 K3 K4 I1 HK HB hHeld ⊢
   refine pk 0 10 1 ?_
   refine on 1 (some 11) 3 fun K hK => ?_
   refine goes_ Try.func57 (by kernel_rfl) rfl #[.pointer (some ⟨g, 0, none⟩), .int .i64 3] (by rfl) rfl rfl mz ?_
   with_reducible refine (spec_l1Rd_pick.calls k g s0_0 t7 3 t8 t9 w2 _ ?side1 ?side2 A3.out).mono ?_
   (case side1 => repeat (first | (with_reducible first | exact I1.out | apply IsS99.alloc | apply IsS99.drewN | apply IsS99.drew | apply IsS99.set_1 | refine IsS99.far ?_ N1.out _ | refine IsS99.far ?_ N5.out _ | refine IsS99.far ?_ N11.out _ | refine IsS99.far ?_ N19.out _) | exact I1.out))
   (case side2 => repeat (first | (with_reducible first | exact HB.out | apply below_alloc | apply pw_below_drewN | apply below_drew1 | refine below_set ?_ (IsS99.ge I1.out) | refine below_set ?_ G2.out | refine below_set ?_ G4.out | refine below_set ?_ G6.out | refine below_set ?_ G8.out) | exact HB.out))
   rintro e w11 ⟨rfl, hi, hb, hk⟩
   refine ⟨_, rfl, ?_⟩
   replace K1 := am (KeepBut.blk hk (g' := g1) (o := b2 0 0 24) (Z K1) N2.out (by simp))
   replace K2 := am (KeepBut.blk hk (g' := g2) (o := b2 0 0 24) (Z K2) N6.out (by simp))
   replace K3 := am (KeepBut.blk hk (g' := g3) (o := b2 t2 t3 24) (Z K3) N12.out (by simp))
   replace K4 := am (KeepBut.blk hk (g' := g4) (o := b2 t5 t6 24) (Z K4) N20.out (by simp))
   replace HK := am (KeepBut.trans (by repeat (first | (with_reducible first | exact HK.out | apply KeepBut.set_ | apply keep_drewN | apply keep_drew | apply keep_alloc | refine keep_far ?_ G1.out _ | refine keep_far ?_ G3.out _ | refine keep_far ?_ G5.out _ | refine keep_far ?_ G7.out _) | exact HK.out)) hk (.inl rfl))
   replace HB := am (hb)
   replace I1 := am (hi)
   (try clear hb)
   (try clear hb2)
   (try clear hk)
   (try clear hi)
   refine kk hK trivial fun hHeld => ?_
   clear hK K
   refine pk 2 12 7 ?_
   refine pk 3 13 15 ?_
   refine uk 4 14 31 ?_
   refine uk 5 15 63 ?_
   refine pk 6 16 127 ?_
   refine pk 7 17 255 ?_
   refine uk 8 18 511 ?_
   refine uk 9 19 1023 ?_
   refine uk 10 20 2047 ?_
   refine pk 11 21 4095 ?_
   refine done_ (done_of HT_.out (by kernel_rfl)) ?_
   try go_wp2
   go_meet
   case rel => exact ⟨_, (false), (t9), ey, H', le0, ⟨Z K1⟩, ⟨Z K2⟩, ⟨Z K3⟩, ⟨Z K4⟩, ⟨by repeat (first | (with_reducible first | exact I1.out | apply IsS99.alloc | apply IsS99.drewN | apply IsS99.drew | apply IsS99.set_1 | refine IsS99.far ?_ N1.out _ | refine IsS99.far ?_ N5.out _ | refine IsS99.far ?_ N11.out _ | refine IsS99.far ?_ N19.out _) | exact I1.out)⟩, ⟨by repeat (first | (with_reducible first | exact HK.out | apply KeepBut.set_ | apply keep_drewN | apply keep_drew | apply keep_alloc | refine keep_far ?_ G1.out _ | refine keep_far ?_ G3.out _ | refine keep_far ?_ G5.out _ | refine keep_far ?_ G7.out _) | exact HK.out)⟩, ⟨by repeat (first | (with_reducible first | exact HB.out | apply below_alloc | apply pw_below_drewN | apply below_drew1 | refine below_set ?_ (IsS99.ge I1.out) | refine below_set ?_ G2.out | refine below_set ?_ G4.out | refine below_set ?_ G6.out | refine below_set ?_ G8.out) | exact HB.out)⟩⟩
  rw [if_pos c1] at H
  have d1 := eT c1
  have d2 := nF c1
  clear c1
  (first | rw [d1] | (simp only [i64_w, i32_w]; rw [d1]) | skip)
  obtain ⟨t1, A4, H⟩ := bd H
  try dsimp only at H
  by_cases c2 : t1 = true
  rotate_left
  ·replace c2 := Bool.eq_false_iff.mpr c2
   subst c2
   rw [if_neg ff] at H
   have H' := am H
   clear H
   try go_wp2
   have n0_ : Aside0 (((w8.setCell ⟨g4, 0, none⟩ (.int .i64 t5)).setCell ⟨g4, 1, none⟩ (.int .i64 t6)).heap[g1]? = some (.cells #[.int .i64 0, .int .i64 0] 24 (0, 0))) := ⟨by refine fa N13 ?_; refine fa N13 ?_; exact Z K1⟩
   have n1_ : Aside0 (((w8.setCell ⟨g4, 0, none⟩ (.int .i64 t5)).setCell ⟨g4, 1, none⟩ (.int .i64 t6)).heap[g2]? = some (.cells #[.int .i64 0, .int .i64 0] 24 (0, 0))) := ⟨by refine fa N15 ?_; refine fa N15 ?_; exact Z K2⟩
   have n2_ : Aside0 (((w8.setCell ⟨g4, 0, none⟩ (.int .i64 t5)).setCell ⟨g4, 1, none⟩ (.int .i64 t6)).heap[g3]? = some (.cells #[.int .i64 t2, .int .i64 t3] 24 (0, 0))) := ⟨by refine fa N17 ?_; refine fa N17 ?_; exact Z K3⟩
   have n3_ : Aside0 (((w8.setCell ⟨g4, 0, none⟩ (.int .i64 t5)).setCell ⟨g4, 1, none⟩ (.int .i64 t6)).heap[g4]? = some (.cells #[.int .i64 t5, .int .i64 t6] 24 (0, 0))) := ⟨by refine pf ?_; refine blk_put (cs := #[.int .i64 t5, .int .i64 0]) ?_ 1 _ rfl; refine pf ?_; refine blk_put (cs := #[.int .i64 0, .int .i64 0]) ?_ 0 _ rfl; exact Z K4⟩
   have n4_ : Aside0 (IsS99 w2 ((w8.setCell ⟨g4, 0, none⟩ (.int .i64 t5)).setCell ⟨g4, 1, none⟩ (.int .i64 t6)) g s0_0 t7) := ⟨by repeat (first | (with_reducible first | exact I1.out | apply IsS99.alloc | apply IsS99.drewN | apply IsS99.drew | apply IsS99.set_1 | refine IsS99.far ?_ N1.out _ | refine IsS99.far ?_ N5.out _ | refine IsS99.far ?_ N11.out _ | refine IsS99.far ?_ N19.out _) | exact I1.out)⟩
   have n5_ : Aside0 (KeepBut w ((w8.setCell ⟨g4, 0, none⟩ (.int .i64 t5)).setCell ⟨g4, 1, none⟩ (.int .i64 t6)) g none) := ⟨by repeat (first | (with_reducible first | exact HK.out | apply KeepBut.set_ | apply keep_drewN | apply keep_drew | apply keep_alloc | refine keep_far ?_ G1.out _ | refine keep_far ?_ G3.out _ | refine keep_far ?_ G5.out _ | refine keep_far ?_ G7.out _) | exact HK.out)⟩
   have n6_ : Aside0 (Below w2.heap.size w2 ((w8.setCell ⟨g4, 0, none⟩ (.int .i64 t5)).setCell ⟨g4, 1, none⟩ (.int .i64 t6))) := ⟨by repeat (first | (with_reducible first | exact HB.out | apply below_alloc | apply pw_below_drewN | apply below_drew1 | refine below_set ?_ (IsS99.ge I1.out) | refine below_set ?_ G2.out | refine below_set ?_ G4.out | refine below_set ?_ G6.out | refine below_set ?_ G8.out) | exact HB.out)⟩
   (try clear K1)
   (try clear K2)
   (try clear K3)
   (try clear K4)
   (try clear I1)
   (try clear HK)
   (try clear HB)
   generalize ((w8.setCell ⟨g4, 0, none⟩ (.int .i64 t5)).setCell ⟨g4, 1, none⟩ (.int .i64 t6)) = w9 at n0_ n1_ n2_ n3_ n4_ n5_ n6_ ⊢
   have K1 := n0_
   have K2 := n1_
   have K3 := n2_
   have K4 := n3_
   have I1 := n4_
   have HK := n5_
   have HB := n6_
   clear n0_ n1_ n2_ n3_ n4_ n5_ n6_
   replace K1 := am (blk_drew K1.out)
   replace K2 := am (blk_drew K2.out)
   replace K3 := am (blk_drew K3.out)
   replace K4 := am (blk_drew K4.out)
   replace I1 := am (IsS99.drew I1.out)
   replace HK := am (keep_drew HK.out)
   replace HB := am (below_drew1 HB.out)
   refine start_ (n := 12) (S := fun w' => w'.cell? ⟨g3, 0, none⟩ = some (.int .i64 t2) ∧ w'.cell? ⟨g3, 1, none⟩ = some (.int .i64 t3)) (ds := []) (lb 12 0) (by kernel_rfl) rfl rfl ⟨bc K3 0, bc K3 1⟩ (fun hHeld => ?_); refine with_tabW spec_l8Two.tab3 spec_l8Two.bits3 (fun HT_ HW_ => ?_)
   generalize w9.drew = w10 at K1 K2 K3 K4 I1 HK HB hHeld ⊢
   refine pk 0 10 1 ?_
   refine on 1 (some 11) 3 fun K hK => ?_
   refine goes_ Try.func57 (by kernel_rfl) rfl #[.pointer (some ⟨g, 0, none⟩), .int .i64 3] (by rfl) rfl rfl mz ?_
   with_reducible refine (spec_l1Rd_pick.calls k g s0_0 t7 3 t8 t9 w2 _ ?side1 ?side2 A3.out).mono ?_
   (case side1 => repeat (first | (with_reducible first | exact I1.out | apply IsS99.alloc | apply IsS99.drewN | apply IsS99.drew | apply IsS99.set_1 | refine IsS99.far ?_ N1.out _ | refine IsS99.far ?_ N5.out _ | refine IsS99.far ?_ N11.out _ | refine IsS99.far ?_ N19.out _) | exact I1.out))
   (case side2 => repeat (first | (with_reducible first | exact HB.out | apply below_alloc | apply pw_below_drewN | apply below_drew1 | refine below_set ?_ (IsS99.ge I1.out) | refine below_set ?_ G2.out | refine below_set ?_ G4.out | refine below_set ?_ G6.out | refine below_set ?_ G8.out) | exact HB.out))
   rintro e w11 ⟨rfl, hi, hb, hk⟩
   refine ⟨_, rfl, ?_⟩
   replace K1 := am (KeepBut.blk hk (g' := g1) (o := b2 0 0 24) (Z K1) N2.out (by simp))
   replace K2 := am (KeepBut.blk hk (g' := g2) (o := b2 0 0 24) (Z K2) N6.out (by simp))
   replace K3 := am (KeepBut.blk hk (g' := g3) (o := b2 t2 t3 24) (Z K3) N12.out (by simp))
   replace K4 := am (KeepBut.blk hk (g' := g4) (o := b2 t5 t6 24) (Z K4) N20.out (by simp))
   replace HK := am (KeepBut.trans (by repeat (first | (with_reducible first | exact HK.out | apply KeepBut.set_ | apply keep_drewN | apply keep_drew | apply keep_alloc | refine keep_far ?_ G1.out _ | refine keep_far ?_ G3.out _ | refine keep_far ?_ G5.out _ | refine keep_far ?_ G7.out _) | exact HK.out)) hk (.inl rfl))
   replace HB := am (hb)
   replace I1 := am (hi)
   (try clear hb)
   (try clear hb2)
   (try clear hk)
   (try clear hi)
   refine kk hK ⟨bc K3 0, bc K3 1⟩ fun hHeld => ?_
   clear hK K
   refine pk 2 12 7 ?_
   refine pk 3 13 15 ?_
   refine tk 4 14 31 hHeld ?_
   refine on 5 (some 15) 63 fun K hK => ?_
   refine gq Try.func24 (spec_RangeOk.calls _ _ _ _ A4.out) fun w12 hb => ?_
   replace K1 := bb K1 hb
   replace K2 := bb K2 hb
   replace K3 := bb K3 hb
   replace K4 := bb K4 hb
   replace HK := am (KeepBut.trans (by repeat (first | (with_reducible first | exact HK.out | apply KeepBut.set_ | apply keep_drewN | apply keep_drew | apply keep_alloc | refine keep_far ?_ G1.out _ | refine keep_far ?_ G3.out _ | refine keep_far ?_ G5.out _ | refine keep_far ?_ G7.out _) | exact HK.out)) (KeepBut.of_below hb g none) (.inl rfl))
   replace HB := am (below_step (by repeat (first | (with_reducible first | exact HB.out | apply below_alloc | apply pw_below_drewN | apply below_drew1 | refine below_set ?_ (IsS99.ge I1.out) | refine below_set ?_ G2.out | refine below_set ?_ G4.out | refine below_set ?_ G6.out | refine below_set ?_ G8.out) | exact HB.out)) hb)
   replace I1 := am (IsS99.below (by repeat (first | (with_reducible first | exact I1.out | apply IsS99.alloc | apply IsS99.drewN | apply IsS99.drew | apply IsS99.set_1 | refine IsS99.far ?_ N1.out _ | refine IsS99.far ?_ N5.out _ | refine IsS99.far ?_ N11.out _ | refine IsS99.far ?_ N19.out _) | exact I1.out)) hb)
   (try clear hb)
   (try clear hb2)
   (try clear hk)
   (try clear hi)
   refine kk hK ⟨bc K3 0, bc K3 1⟩ fun hHeld => ?_
   clear hK K
   refine pk 6 16 127 ?_
   refine pk 7 17 255 ?_
   refine uk 8 18 511 ?_
   refine uk 9 19 1023 ?_
   refine uk 10 20 2047 ?_
   refine pk 11 21 4095 ?_
   refine done_ (done_of HT_.out (by kernel_rfl)) ?_
   try go_wp2
   go_meet
   case rel => exact ⟨_, (false), (t9), ey, H', le0, ⟨Z K1⟩, ⟨Z K2⟩, ⟨Z K3⟩, ⟨Z K4⟩, ⟨by repeat (first | (with_reducible first | exact I1.out | apply IsS99.alloc | apply IsS99.drewN | apply IsS99.drew | apply IsS99.set_1 | refine IsS99.far ?_ N1.out _ | refine IsS99.far ?_ N5.out _ | refine IsS99.far ?_ N11.out _ | refine IsS99.far ?_ N19.out _) | exact I1.out)⟩, ⟨by repeat (first | (with_reducible first | exact HK.out | apply KeepBut.set_ | apply keep_drewN | apply keep_drew | apply keep_alloc | refine keep_far ?_ G1.out _ | refine keep_far ?_ G3.out _ | refine keep_far ?_ G5.out _ | refine keep_far ?_ G7.out _) | exact HK.out)⟩, ⟨by repeat (first | (with_reducible first | exact HB.out | apply below_alloc | apply pw_below_drewN | apply below_drew1 | refine below_set ?_ (IsS99.ge I1.out) | refine below_set ?_ G2.out | refine below_set ?_ G4.out | refine below_set ?_ G6.out | refine below_set ?_ G8.out) | exact HB.out)⟩⟩
  subst c2
  rw [if_pos rfl] at H
  obtain ⟨⟨t10, t11⟩, A5, H⟩ := bd H
  try dsimp only at H
  have H' := am H
  clear H
  try go_wp2
  have n0_ : Aside0 (((w8.setCell ⟨g4, 0, none⟩ (.int .i64 t5)).setCell ⟨g4, 1, none⟩ (.int .i64 t6)).heap[g1]? = some (.cells #[.int .i64 0, .int .i64 0] 24 (0, 0))) := ⟨by refine fa N13 ?_; refine fa N13 ?_; exact Z K1⟩
  have n1_ : Aside0 (((w8.setCell ⟨g4, 0, none⟩ (.int .i64 t5)).setCell ⟨g4, 1, none⟩ (.int .i64 t6)).heap[g2]? = some (.cells #[.int .i64 0, .int .i64 0] 24 (0, 0))) := ⟨by refine fa N15 ?_; refine fa N15 ?_; exact Z K2⟩
  have n2_ : Aside0 (((w8.setCell ⟨g4, 0, none⟩ (.int .i64 t5)).setCell ⟨g4, 1, none⟩ (.int .i64 t6)).heap[g3]? = some (.cells #[.int .i64 t2, .int .i64 t3] 24 (0, 0))) := ⟨by refine fa N17 ?_; refine fa N17 ?_; exact Z K3⟩
  have n3_ : Aside0 (((w8.setCell ⟨g4, 0, none⟩ (.int .i64 t5)).setCell ⟨g4, 1, none⟩ (.int .i64 t6)).heap[g4]? = some (.cells #[.int .i64 t5, .int .i64 t6] 24 (0, 0))) := ⟨by refine pf ?_; refine blk_put (cs := #[.int .i64 t5, .int .i64 0]) ?_ 1 _ rfl; refine pf ?_; refine blk_put (cs := #[.int .i64 0, .int .i64 0]) ?_ 0 _ rfl; exact Z K4⟩
  have n4_ : Aside0 (IsS99 w2 ((w8.setCell ⟨g4, 0, none⟩ (.int .i64 t5)).setCell ⟨g4, 1, none⟩ (.int .i64 t6)) g s0_0 t7) := ⟨by repeat (first | (with_reducible first | exact I1.out | apply IsS99.alloc | apply IsS99.drewN | apply IsS99.drew | apply IsS99.set_1 | refine IsS99.far ?_ N1.out _ | refine IsS99.far ?_ N5.out _ | refine IsS99.far ?_ N11.out _ | refine IsS99.far ?_ N19.out _) | exact I1.out)⟩
  have n5_ : Aside0 (KeepBut w ((w8.setCell ⟨g4, 0, none⟩ (.int .i64 t5)).setCell ⟨g4, 1, none⟩ (.int .i64 t6)) g none) := ⟨by repeat (first | (with_reducible first | exact HK.out | apply KeepBut.set_ | apply keep_drewN | apply keep_drew | apply keep_alloc | refine keep_far ?_ G1.out _ | refine keep_far ?_ G3.out _ | refine keep_far ?_ G5.out _ | refine keep_far ?_ G7.out _) | exact HK.out)⟩
  have n6_ : Aside0 (Below w2.heap.size w2 ((w8.setCell ⟨g4, 0, none⟩ (.int .i64 t5)).setCell ⟨g4, 1, none⟩ (.int .i64 t6))) := ⟨by repeat (first | (with_reducible first | exact HB.out | apply below_alloc | apply pw_below_drewN | apply below_drew1 | refine below_set ?_ (IsS99.ge I1.out) | refine below_set ?_ G2.out | refine below_set ?_ G4.out | refine below_set ?_ G6.out | refine below_set ?_ G8.out) | exact HB.out)⟩
  (try clear K1)
  (try clear K2)
  (try clear K3)
  (try clear K4)
  (try clear I1)
  (try clear HK)
  (try clear HB)
  generalize ((w8.setCell ⟨g4, 0, none⟩ (.int .i64 t5)).setCell ⟨g4, 1, none⟩ (.int .i64 t6)) = w9 at n0_ n1_ n2_ n3_ n4_ n5_ n6_ ⊢
  have K1 := n0_
  have K2 := n1_
  have K3 := n2_
  have K4 := n3_
  have I1 := n4_
  have HK := n5_
  have HB := n6_
  clear n0_ n1_ n2_ n3_ n4_ n5_ n6_
  replace K1 := am (blk_drew K1.out)
  replace K2 := am (blk_drew K2.out)
  replace K3 := am (blk_drew K3.out)
  replace K4 := am (blk_drew K4.out)
  replace I1 := am (IsS99.drew I1.out)
  replace HK := am (keep_drew HK.out)
  replace HB := am (below_drew1 HB.out)
  refine start_ (n := 12) (S := fun w' => w'.cell? ⟨g3, 0, none⟩ = some (.int .i64 t2) ∧ w'.cell? ⟨g3, 1, none⟩ = some (.int .i64 t3)) (ds := []) (lb 12 0) (by kernel_rfl) rfl rfl ⟨bc K3 0, bc K3 1⟩ (fun hHeld => ?_); refine with_tabW spec_l8Two.tab3 spec_l8Two.bits3 (fun HT_ HW_ => ?_)
  generalize w9.drew = w10 at K1 K2 K3 K4 I1 HK HB hHeld ⊢
  refine pk 0 10 1 ?_
  refine on 1 (some 11) 3 fun K hK => ?_
  refine goes_ Try.func57 (by kernel_rfl) rfl #[.pointer (some ⟨g, 0, none⟩), .int .i64 3] (by rfl) rfl rfl mz ?_
  with_reducible refine (spec_l1Rd_pick.calls k g s0_0 t7 3 t8 t9 w2 _ ?side1 ?side2 A3.out).mono ?_
  (case side1 => repeat (first | (with_reducible first | exact I1.out | apply IsS99.alloc | apply IsS99.drewN | apply IsS99.drew | apply IsS99.set_1 | refine IsS99.far ?_ N1.out _ | refine IsS99.far ?_ N5.out _ | refine IsS99.far ?_ N11.out _ | refine IsS99.far ?_ N19.out _) | exact I1.out))
  (case side2 => repeat (first | (with_reducible first | exact HB.out | apply below_alloc | apply pw_below_drewN | apply below_drew1 | refine below_set ?_ (IsS99.ge I1.out) | refine below_set ?_ G2.out | refine below_set ?_ G4.out | refine below_set ?_ G6.out | refine below_set ?_ G8.out) | exact HB.out))
  rintro e w11 ⟨rfl, hi, hb, hk⟩
  refine ⟨_, rfl, ?_⟩
  replace K1 := am (KeepBut.blk hk (g' := g1) (o := b2 0 0 24) (Z K1) N2.out (by simp))
  replace K2 := am (KeepBut.blk hk (g' := g2) (o := b2 0 0 24) (Z K2) N6.out (by simp))
  replace K3 := am (KeepBut.blk hk (g' := g3) (o := b2 t2 t3 24) (Z K3) N12.out (by simp))
  replace K4 := am (KeepBut.blk hk (g' := g4) (o := b2 t5 t6 24) (Z K4) N20.out (by simp))
  replace HK := am (KeepBut.trans (by repeat (first | (with_reducible first | exact HK.out | apply KeepBut.set_ | apply keep_drewN | apply keep_drew | apply keep_alloc | refine keep_far ?_ G1.out _ | refine keep_far ?_ G3.out _ | refine keep_far ?_ G5.out _ | refine keep_far ?_ G7.out _) | exact HK.out)) hk (.inl rfl))
  replace HB := am (hb)
  replace I1 := am (hi)
  (try clear hb)
  (try clear hb2)
  (try clear hk)
  (try clear hi)
  refine kk hK ⟨bc K3 0, bc K3 1⟩ fun hHeld => ?_
  clear hK K
  refine pk 2 12 7 ?_
  refine pk 3 13 15 ?_
  refine tk 4 14 31 hHeld ?_
  refine on 5 (some 15) 63 fun K hK => ?_
  refine gq Try.func24 (spec_RangeOk.calls _ _ _ _ A4.out) fun w12 hb => ?_
  replace K1 := bb K1 hb
  replace K2 := bb K2 hb
  replace K3 := bb K3 hb
  replace K4 := bb K4 hb
  replace HK := am (KeepBut.trans (by repeat (first | (with_reducible first | exact HK.out | apply KeepBut.set_ | apply keep_drewN | apply keep_drew | apply keep_alloc | refine keep_far ?_ G1.out _ | refine keep_far ?_ G3.out _ | refine keep_far ?_ G5.out _ | refine keep_far ?_ G7.out _) | exact HK.out)) (KeepBut.of_below hb g none) (.inl rfl))
  replace HB := am (below_step (by repeat (first | (with_reducible first | exact HB.out | apply below_alloc | apply pw_below_drewN | apply below_drew1 | refine below_set ?_ (IsS99.ge I1.out) | refine below_set ?_ G2.out | refine below_set ?_ G4.out | refine below_set ?_ G6.out | refine below_set ?_ G8.out) | exact HB.out)) hb)
  replace I1 := am (IsS99.below (by repeat (first | (with_reducible first | exact I1.out | apply IsS99.alloc | apply IsS99.drewN | apply IsS99.drew | apply IsS99.set_1 | refine IsS99.far ?_ N1.out _ | refine IsS99.far ?_ N5.out _ | refine IsS99.far ?_ N11.out _ | refine IsS99.far ?_ N19.out _) | exact I1.out)) hb)
  (try clear hb)
  (try clear hb2)
  (try clear hk)
  (try clear hi)
  refine kk hK ⟨bc K3 0, bc K3 1⟩ fun hHeld => ?_
  clear hK K
  refine pk 6 16 127 ?_
  refine pk 7 17 255 ?_
  refine tk 8 18 511 hHeld ?_
  refine on 9 (some 19) 1023 fun K hK => ?_
  refine gq Try.func38 (spec_l8None.calls _ _ _ A5.out) fun w13 hb => ?_
  replace K1 := bb K1 hb
  replace K2 := bb K2 hb
  replace K3 := bb K3 hb
  replace K4 := bb K4 hb
  replace HK := am (KeepBut.trans (by repeat (first | (with_reducible first | exact HK.out | apply KeepBut.set_ | apply keep_drewN | apply keep_drew | apply keep_alloc | refine keep_far ?_ G1.out _ | refine keep_far ?_ G3.out _ | refine keep_far ?_ G5.out _ | refine keep_far ?_ G7.out _) | exact HK.out)) (KeepBut.of_below hb g none) (.inl rfl))
  replace HB := am (below_step (by repeat (first | (with_reducible first | exact HB.out | apply below_alloc | apply pw_below_drewN | apply below_drew1 | refine below_set ?_ (IsS99.ge I1.out) | refine below_set ?_ G2.out | refine below_set ?_ G4.out | refine below_set ?_ G6.out | refine below_set ?_ G8.out) | exact HB.out)) hb)
  replace I1 := am (IsS99.below (by repeat (first | (with_reducible first | exact I1.out | apply IsS99.alloc | apply IsS99.drewN | apply IsS99.drew | apply IsS99.set_1 | refine IsS99.far ?_ N1.out _ | refine IsS99.far ?_ N5.out _ | refine IsS99.far ?_ N11.out _ | refine IsS99.far ?_ N19.out _) | exact I1.out)) hb)
  (try clear hb)
  (try clear hb2)
  (try clear hk)
  (try clear hi)
  refine kk hK ⟨bc K3 0, bc K3 1⟩ fun hHeld => ?_
  clear hK K
  refine pk 10 20 2047 ?_
  refine pk 11 21 4095 ?_
  refine done_ (done_of HT_.out (by kernel_rfl)) ?_
  try go_wp2
  go_meet
  case rel => exact ⟨_, ((!(t2 == t10) || (!(t3 == t11)))), (t9), ey, H', le0, ⟨Z K1⟩, ⟨Z K2⟩, ⟨Z K3⟩, ⟨Z K4⟩, ⟨by repeat (first | (with_reducible first | exact I1.out | apply IsS99.alloc | apply IsS99.drewN | apply IsS99.drew | apply IsS99.set_1 | refine IsS99.far ?_ N1.out _ | refine IsS99.far ?_ N5.out _ | refine IsS99.far ?_ N11.out _ | refine IsS99.far ?_ N19.out _) | exact I1.out)⟩, ⟨by repeat (first | (with_reducible first | exact HK.out | apply KeepBut.set_ | apply keep_drewN | apply keep_drew | apply keep_alloc | refine keep_far ?_ G1.out _ | refine keep_far ?_ G3.out _ | refine keep_far ?_ G5.out _ | refine keep_far ?_ G7.out _) | exact HK.out)⟩, ⟨by repeat (first | (with_reducible first | exact HB.out | apply below_alloc | apply pw_below_drewN | apply below_drew1 | refine below_set ?_ (IsS99.ge I1.out) | refine below_set ?_ G2.out | refine below_set ?_ G4.out | refine below_set ?_ G6.out | refine below_set ?_ G8.out) | exact HB.out)⟩⟩
 case rest =>
  clear C1
  obtain ⟨kq, x1, x2, rfl, HA, J1, K1, K2, K3, K4, I1, HK, HB⟩ := hcut
  cases kq with
  | zero => exact absurd HA.out (by simp [spec_l8Two.j0])
  | succ k1 =>
   have H := HA.out
   clear HA
   simp only [spec_l8Two.j0] at H
   by_cases c1 : x1 = true
   rotate_left
   ·replace c1 := Bool.eq_false_iff.mpr c1
    subst c1
    rw [if_neg ff] at H
    simp only [Option.some.injEq, Prod.mk.injEq] at H
    obtain ⟨rfl, rfl, rfl, rfl, rfl⟩ := H
    try go_wp2
    replace K1 := am (blk_drew K1.out)
    replace K2 := am (blk_drew K2.out)
    replace K3 := am (blk_drew K3.out)
    replace K4 := am (blk_drew K4.out)
    replace I1 := am (IsS99.drew I1.out)
    replace HK := am (keep_drew HK.out)
    replace HB := am (below_drew1 HB.out)
    refine start_ (n := 4) (S := fun w' => w'.cell? ⟨g3, 0, none⟩ = some (.int .i64 t2) ∧ w'.cell? ⟨g3, 1, none⟩ = some (.int .i64 t3) ∧ w'.cell? ⟨g4, 0, none⟩ = some (.int .i64 t5) ∧ w'.cell? ⟨g4, 1, none⟩ = some (.int .i64 t6)) (ds := []) (lb 4 0) (by kernel_rfl) rfl rfl ⟨bc K3 0, bc K3 1, bc K4 0, bc K4 1⟩ (fun hHeld => ?_)
    generalize wc.drew = w9 at K1 K2 K3 K4 I1 HK HB hHeld ⊢
    refine take_ (i := 0) (N := some 35) (v := ?_) (a' := ?_) (lb 4 1) rfl rfl (by kernel_rfl) (fun _ _ _ h => h) (Or.inl ⟨by rfl, ?_⟩) hHeld ?_ ?_
    rotate_left
    ·rintro w' ⟨s0, s1, s2, s3⟩
     go_simp
     with_reducible rfl
    rotate_left
    ·exact pz
    refine take_ (i := 1) (N := some 36) (v := ?_) (a' := ?_) (lb 4 3) rfl rfl (by kernel_rfl) (fun _ _ _ h => h) (Or.inl ⟨by rfl, ?_⟩) hHeld ?_ ?_
    rotate_left
    ·rintro w' ⟨s0, s1, s2, s3⟩
     go_simp
     with_reducible rfl
    rotate_left
    ·exact pz
    refine one_ (i := 2) (N := none) (lb 4 7) rfl rfl (by kernel_rfl) (by decide) (fun K hK => ?_)
    have s4 : w9.cell? ⟨g1, 0, none⟩ = some (.int .i64 0) := bc K1 0
    have hfs54 := blk_frozen K1.out 0
    have z_ := ns6 N4 N8 N14 N3 N7 N13
    have s5 : w9.cell? ⟨g1, 1, none⟩ = some (.int .i64 0) := bc K1 1
    have hfs55 := blk_frozen K1.out 1
    have z_ := ns6 N4 N8 N14 N3 N7 N13
    refine skip_ (w1 := ?_) (by rfl) rfl ?_ ?_
    rotate_left
    ·go_simp
     rfl
    refine hK.out _ _ ⟨((cell_far (p := ⟨g1, _, none⟩) N8.out _).trans (((cell_far (p := ⟨g1, _, none⟩) N8.out _).trans (hHeld.1)))), ((cell_far (p := ⟨g1, _, none⟩) N8.out _).trans (((cell_far (p := ⟨g1, _, none⟩) N8.out _).trans (hHeld.2.1)))), ((cell_far (p := ⟨g1, _, none⟩) N14.out _).trans (((cell_far (p := ⟨g1, _, none⟩) N14.out _).trans (hHeld.2.2.1)))), ((cell_far (p := ⟨g1, _, none⟩) N14.out _).trans (((cell_far (p := ⟨g1, _, none⟩) N14.out _).trans (hHeld.2.2.2))))⟩ (fun hHeld => ?_)
    clear hK K
    refine one_ (i := 3) (N := none) (lb 4 15) rfl rfl (by kernel_rfl) (by decide) (fun K hK => ?_)
    have s6 : w9.cell? ⟨g2, 0, none⟩ = some (.int .i64 0) := bc K2 0
    have hfs56 := blk_frozen K2.out 0
    have z_ := ns6 N3 N10 N16 N4 N9 N15
    have s7 : w9.cell? ⟨g2, 1, none⟩ = some (.int .i64 0) := bc K2 1
    have hfs57 := blk_frozen K2.out 1
    have z_ := ns6 N3 N10 N16 N4 N9 N15
    refine skip_ (w1 := ?_) (by rfl) rfl ?_ ?_
    rotate_left
    ·go_simp
     rfl
    refine hK.out _ _ ⟨((cell_far (p := ⟨g2, _, none⟩) N10.out _).trans (((cell_far (p := ⟨g2, _, none⟩) N10.out _).trans (hHeld.1)))), ((cell_far (p := ⟨g2, _, none⟩) N10.out _).trans (((cell_far (p := ⟨g2, _, none⟩) N10.out _).trans (hHeld.2.1)))), ((cell_far (p := ⟨g2, _, none⟩) N16.out _).trans (((cell_far (p := ⟨g2, _, none⟩) N16.out _).trans (hHeld.2.2.1)))), ((cell_far (p := ⟨g2, _, none⟩) N16.out _).trans (((cell_far (p := ⟨g2, _, none⟩) N16.out _).trans (hHeld.2.2.2))))⟩ (fun hHeld => ?_)
    clear hK K
    refine done_ (by kernel_rfl) ?_
    try go_wp2
    refine bodyPost_ret (results_cc rfl _ _ g1 g2 24 24 #[.int .i64 t2, .int .i64 t3] #[.int .i64 t5, .int .i64 t6] (0, 0) (0, 0) _ _ rfl (by refine fa N3 ?_; refine fa N3 ?_; refine pf ?_; refine blk_put (cs := #[.int .i64 t2, .int .i64 0]) ?_ 1 _ rfl; refine pf ?_; refine blk_put (cs := #[.int .i64 0, .int .i64 0]) ?_ 0 _ rfl; exact Z K1) Try.underlying24 rfl (by kernel_rfl) rfl (by refine pf ?_; refine blk_put (cs := #[.int .i64 t5, .int .i64 0]) ?_ 1 _ rfl; refine pf ?_; refine blk_put (cs := #[.int .i64 0, .int .i64 0]) ?_ 0 _ rfl; refine fa N4 ?_; refine fa N4 ?_; exact Z K2) Try.underlying24 rfl (by kernel_rfl)) rfl ?_
    exact ⟨ez, by repeat (first | (with_reducible first | exact I1.out | apply IsS99.alloc | apply IsS99.drewN | apply IsS99.drew | apply IsS99.set_1 | refine IsS99.far ?_ N1.out _ | refine IsS99.far ?_ N5.out _ | refine IsS99.far ?_ N11.out _ | refine IsS99.far ?_ N19.out _) | exact I1.out), by repeat (first | (with_reducible first | exact HB.out | apply below_alloc | apply pw_below_drewN | apply below_drew1 | refine below_set ?_ (IsS99.ge I1.out) | refine below_set ?_ G2.out | refine below_set ?_ G4.out | refine below_set ?_ G6.out | refine below_set ?_ G8.out) | exact HB.out), by repeat (first | (with_reducible first | exact HK.out | apply KeepBut.set_ | apply keep_drewN | apply keep_drew | apply keep_alloc | refine keep_far ?_ G1.out _ | refine keep_far ?_ G3.out _ | refine keep_far ?_ G5.out _ | refine keep_far ?_ G7.out _) | exact HK.out)⟩
   subst c1
   rw [if_pos rfl] at H
   obtain ⟨⟨t8, t9⟩, A3, H⟩ := bd H
   try dsimp only at H
   obtain ⟨⟨t10, t11⟩, A4, H⟩ := bd H
   try dsimp only at H
   obtain ⟨⟨t12, t13⟩, A5, H⟩ := bd H
   try dsimp only at H
   simp only [Option.some.injEq, Prod.mk.injEq] at H
   obtain ⟨rfl, rfl, rfl, rfl, rfl⟩ := H
   try go_wp2
   replace K1 := am (blk_drew K1.out)
   replace K2 := am (blk_drew K2.out)
   replace K3 := am (blk_drew K3.out)
   replace K4 := am (blk_drew K4.out)
   replace I1 := am (IsS99.drew I1.out)
   replace HK := am (keep_drew HK.out)
   replace HB := am (below_drew1 HB.out)
   refine start_ (n := 14) (S := fun w' => w'.cell? ⟨g3, 0, none⟩ = some (.int .i64 t2) ∧ w'.cell? ⟨g3, 1, none⟩ = some (.int .i64 t3)) (ds := []) (lb 14 0) (by kernel_rfl) rfl rfl ⟨bc K3 0, bc K3 1⟩ (fun hHeld => ?_); refine with_tabW spec_l8Two.tab4 spec_l8Two.bits4 (fun HT_ HW_ => ?_)
   generalize wc.drew = w9 at K1 K2 K3 K4 I1 HK HB hHeld ⊢
   refine pk 0 22 1 ?_
   refine pk 2 24 5 ?_
   refine pk 6 28 69 ?_
   refine pk 8 30 325 ?_
   refine tk 1 23 327 hHeld ?_
   refine tk 7 29 455 hHeld ?_
   refine on 3 (some 25) 463 fun K hK => ?_
   refine goes_ Try.func57 (by kernel_rfl) rfl #[.pointer (some ⟨g, 0, none⟩), .int .i64 9] (by rfl) rfl rfl mz ?_
   with_reducible refine (spec_l1Rd_pick.calls k1 g s0_0 x2 9 t8 t9 w2 _ ?side1 ?side2 A3.out).mono ?_
   (case side1 => repeat (first | (with_reducible first | exact I1.out | apply IsS99.alloc | apply IsS99.drewN | apply IsS99.drew | apply IsS99.set_1 | refine IsS99.far ?_ N1.out _ | refine IsS99.far ?_ N5.out _ | refine IsS99.far ?_ N11.out _ | refine IsS99.far ?_ N19.out _) | exact I1.out))
   (case side2 => repeat (first | (with_reducible first | exact HB.out | apply below_alloc | apply pw_below_drewN | apply below_drew1 | refine below_set ?_ (IsS99.ge I1.out) | refine below_set ?_ G2.out | refine below_set ?_ G4.out | refine below_set ?_ G6.out | refine below_set ?_ G8.out) | exact HB.out))
   rintro e w10 ⟨rfl, hi, hb, hk⟩
   refine ⟨_, rfl, ?_⟩
   replace K1 := am (KeepBut.blk hk (g' := g1) (o := b2 0 0 24) (Z K1) N2.out (by simp))
   replace K2 := am (KeepBut.blk hk (g' := g2) (o := b2 0 0 24) (Z K2) N6.out (by simp))
   replace K3 := am (KeepBut.blk hk (g' := g3) (o := b2 t2 t3 24) (Z K3) N12.out (by simp))
   replace K4 := am (KeepBut.blk hk (g' := g4) (o := b2 t5 t6 24) (Z K4) N20.out (by simp))
   replace HK := am (KeepBut.trans (by repeat (first | (with_reducible first | exact HK.out | apply KeepBut.set_ | apply keep_drewN | apply keep_drew | apply keep_alloc | refine keep_far ?_ G1.out _ | refine keep_far ?_ G3.out _ | refine keep_far ?_ G5.out _ | refine keep_far ?_ G7.out _) | exact HK.out)) hk (.inl rfl))
   replace HB := am (hb)
   replace I1 := am (hi)
   (try clear hb)
   (try clear hb2)
   (try clear hk)
   (try clear hi)
   refine kk hK ⟨bc K3 0, bc K3 1⟩ fun hHeld => ?_
   clear hK K
   refine pk 4 26 479 ?_
   refine pk 5 27 511 ?_
   refine on 9 (some 31) 1023 fun K hK => ?_
   refine goes_ Try.func57 (by kernel_rfl) rfl #[.pointer (some ⟨g, 0, none⟩), .int .i64 9] (by rfl) rfl rfl mz ?_
   with_reducible refine (spec_l1Rd_pick.calls k1 g s0_0 t9 9 t10 t11 w2 _ ?side1 ?side2 A4.out).mono ?_
   (case side1 => repeat (first | (with_reducible first | exact I1.out | apply IsS99.alloc | apply IsS99.drewN | apply IsS99.drew | apply IsS99.set_1 | refine IsS99.far ?_ N1.out _ | refine IsS99.far ?_ N5.out _ | refine IsS99.far ?_ N11.out _ | refine IsS99.far ?_ N19.out _) | exact I1.out))
   (case side2 => repeat (first | (with_reducible first | exact HB.out | apply below_alloc | apply pw_below_drewN | apply below_drew1 | refine below_set ?_ (IsS99.ge I1.out) | refine below_set ?_ G2.out | refine below_set ?_ G4.out | refine below_set ?_ G6.out | refine below_set ?_ G8.out) | exact HB.out))
   rintro e w11 ⟨rfl, hi, hb, hk⟩
   refine ⟨_, rfl, ?_⟩
   replace K1 := am (KeepBut.blk hk (g' := g1) (o := b2 0 0 24) (Z K1) N2.out (by simp))
   replace K2 := am (KeepBut.blk hk (g' := g2) (o := b2 0 0 24) (Z K2) N6.out (by simp))
   replace K3 := am (KeepBut.blk hk (g' := g3) (o := b2 t2 t3 24) (Z K3) N12.out (by simp))
   replace K4 := am (KeepBut.blk hk (g' := g4) (o := b2 t5 t6 24) (Z K4) N20.out (by simp))
   replace HK := am (KeepBut.trans (by repeat (first | (with_reducible first | exact HK.out | apply KeepBut.set_ | apply keep_drewN | apply keep_drew | apply keep_alloc | refine keep_far ?_ G1.out _ | refine keep_far ?_ G3.out _ | refine keep_far ?_ G5.out _ | refine keep_far ?_ G7.out _) | exact HK.out)) hk (.inl rfl))
   replace HB := am (hb)
   replace I1 := am (hi)
   (try clear hb)
   (try clear hb2)
   (try clear hk)
   (try clear hi)
   refine kk hK ⟨bc K3 0, bc K3 1⟩ fun hHeld => ?_
   clear hK K
   refine pk 10 32 2047 ?_
   refine pk 11 33 4095 ?_
   refine on 12 (some 34) 8191 fun K hK => ?_
   refine gq Try.func44 (spec_l8Cut.calls _ _ _ _ _ A5.out) fun w12 hb => ?_
   replace K1 := bb K1 hb
   replace K2 := bb K2 hb
   replace K3 := bb K3 hb
   replace K4 := bb K4 hb
   replace HK := am (KeepBut.trans (by repeat (first | (with_reducible first | exact HK.out | apply KeepBut.set_ | apply keep_drewN | apply keep_drew | apply keep_alloc | refine keep_far ?_ G1.out _ | refine keep_far ?_ G3.out _ | refine keep_far ?_ G5.out _ | refine keep_far ?_ G7.out _) | exact HK.out)) (KeepBut.of_below hb g none) (.inl rfl))
   replace HB := am (below_step (by repeat (first | (with_reducible first | exact HB.out | apply below_alloc | apply pw_below_drewN | apply below_drew1 | refine below_set ?_ (IsS99.ge I1.out) | refine below_set ?_ G2.out | refine below_set ?_ G4.out | refine below_set ?_ G6.out | refine below_set ?_ G8.out) | exact HB.out)) hb)
   replace I1 := am (IsS99.below (by repeat (first | (with_reducible first | exact I1.out | apply IsS99.alloc | apply IsS99.drewN | apply IsS99.drew | apply IsS99.set_1 | refine IsS99.far ?_ N1.out _ | refine IsS99.far ?_ N5.out _ | refine IsS99.far ?_ N11.out _ | refine IsS99.far ?_ N19.out _) | exact I1.out)) hb)
   (try clear hb)
   (try clear hb2)
   (try clear hk)
   (try clear hi)
   refine kk hK ⟨bc K3 0, bc K3 1⟩ fun hHeld => ?_
   clear hK K
   refine on 13 none 16383 fun K hK => ?_
   have s4 : w12.cell? ⟨g4, 0, none⟩ = some (.int .i64 t5) := bc K4 0
   have hfs45 := blk_frozen K4.out 0
   have z_ := ns6 N13 N15 N17 N14 N16 N18
   have s5 : w12.cell? ⟨g4, 1, none⟩ = some (.int .i64 t6) := bc K4 1
   have hfs46 := blk_frozen K4.out 1
   have z_ := ns6 N13 N15 N17 N14 N16 N18
   refine skip_ (w1 := ?_) (by rfl) rfl ?_ ?_
   rotate_left
   ·go_simp
    rfl
   refine hK.out _ _ ⟨((cell_far (p := ⟨g4, _, none⟩) N17.out _).trans (((cell_far (p := ⟨g4, _, none⟩) N17.out _).trans (hHeld.1)))), ((cell_far (p := ⟨g4, _, none⟩) N17.out _).trans (((cell_far (p := ⟨g4, _, none⟩) N17.out _).trans (hHeld.2))))⟩ (fun hHeld => ?_)
   clear hK K
   refine done_ (done_of HT_.out (by kernel_rfl)) ?_
   try go_wp2
   have n0_ : Aside0 (((w12.setCell ⟨g4, 0, none⟩ (.int .i64 t12)).setCell ⟨g4, 1, none⟩ (.int .i64 t13)).heap[g1]? = some (.cells #[.int .i64 0, .int .i64 0] 24 (0, 0))) := ⟨by refine fa N13 ?_; refine fa N13 ?_; exact Z K1⟩
   have n1_ : Aside0 (((w12.setCell ⟨g4, 0, none⟩ (.int .i64 t12)).setCell ⟨g4, 1, none⟩ (.int .i64 t13)).heap[g2]? = some (.cells #[.int .i64 0, .int .i64 0] 24 (0, 0))) := ⟨by refine fa N15 ?_; refine fa N15 ?_; exact Z K2⟩
   have n2_ : Aside0 (((w12.setCell ⟨g4, 0, none⟩ (.int .i64 t12)).setCell ⟨g4, 1, none⟩ (.int .i64 t13)).heap[g3]? = some (.cells #[.int .i64 t2, .int .i64 t3] 24 (0, 0))) := ⟨by refine fa N17 ?_; refine fa N17 ?_; exact Z K3⟩
   have n3_ : Aside0 (((w12.setCell ⟨g4, 0, none⟩ (.int .i64 t12)).setCell ⟨g4, 1, none⟩ (.int .i64 t13)).heap[g4]? = some (.cells #[.int .i64 t12, .int .i64 t13] 24 (0, 0))) := ⟨by refine pf ?_; refine blk_put (cs := #[.int .i64 t12, .int .i64 t6]) ?_ 1 _ rfl; refine pf ?_; refine blk_put (cs := #[.int .i64 t5, .int .i64 t6]) ?_ 0 _ rfl; exact Z K4⟩
   have n4_ : Aside0 (IsS99 w2 ((w12.setCell ⟨g4, 0, none⟩ (.int .i64 t12)).setCell ⟨g4, 1, none⟩ (.int .i64 t13)) g s0_0 t11) := ⟨by repeat (first | (with_reducible first | exact I1.out | apply IsS99.alloc | apply IsS99.drewN | apply IsS99.drew | apply IsS99.set_1 | refine IsS99.far ?_ N1.out _ | refine IsS99.far ?_ N5.out _ | refine IsS99.far ?_ N11.out _ | refine IsS99.far ?_ N19.out _) | exact I1.out)⟩
   have n5_ : Aside0 (KeepBut w ((w12.setCell ⟨g4, 0, none⟩ (.int .i64 t12)).setCell ⟨g4, 1, none⟩ (.int .i64 t13)) g none) := ⟨by repeat (first | (with_reducible first | exact HK.out | apply KeepBut.set_ | apply keep_drewN | apply keep_drew | apply keep_alloc | refine keep_far ?_ G1.out _ | refine keep_far ?_ G3.out _ | refine keep_far ?_ G5.out _ | refine keep_far ?_ G7.out _) | exact HK.out)⟩
   have n6_ : Aside0 (Below w2.heap.size w2 ((w12.setCell ⟨g4, 0, none⟩ (.int .i64 t12)).setCell ⟨g4, 1, none⟩ (.int .i64 t13))) := ⟨by repeat (first | (with_reducible first | exact HB.out | apply below_alloc | apply pw_below_drewN | apply below_drew1 | refine below_set ?_ (IsS99.ge I1.out) | refine below_set ?_ G2.out | refine below_set ?_ G4.out | refine below_set ?_ G6.out | refine below_set ?_ G8.out) | exact HB.out)⟩
   (try clear K1)
   (try clear K2)
   (try clear K3)
   (try clear K4)
   (try clear I1)
   (try clear HK)
   (try clear HB)
   generalize ((w12.setCell ⟨g4, 0, none⟩ (.int .i64 t12)).setCell ⟨g4, 1, none⟩ (.int .i64 t13)) = w13 at n0_ n1_ n2_ n3_ n4_ n5_ n6_ ⊢
   have K1 := n0_
   have K2 := n1_
   have K3 := n2_
   have K4 := n3_
   have I1 := n4_
   have HK := n5_
   have HB := n6_
   clear n0_ n1_ n2_ n3_ n4_ n5_ n6_
   replace K1 := am (blk_drew K1.out)
   replace K2 := am (blk_drew K2.out)
   replace K3 := am (blk_drew K3.out)
   replace K4 := am (blk_drew K4.out)
   replace I1 := am (IsS99.drew I1.out)
   replace HK := am (keep_drew HK.out)
   replace HB := am (below_drew1 HB.out)
   refine start_ (n := 4) (S := fun w' => w'.cell? ⟨g3, 0, none⟩ = some (.int .i64 t2) ∧ w'.cell? ⟨g3, 1, none⟩ = some (.int .i64 t3) ∧ w'.cell? ⟨g4, 0, none⟩ = some (.int .i64 t12) ∧ w'.cell? ⟨g4, 1, none⟩ = some (.int .i64 t13)) (ds := []) (lb 4 0) (by kernel_rfl) rfl rfl ⟨bc K3 0, bc K3 1, bc K4 0, bc K4 1⟩ (fun hHeld => ?_)
   generalize w13.drew = w14 at K1 K2 K3 K4 I1 HK HB hHeld ⊢
   refine take_ (i := 0) (N := some 35) (v := ?_) (a' := ?_) (lb 4 1) rfl rfl (by kernel_rfl) (fun _ _ _ h => h) (Or.inl ⟨by rfl, ?_⟩) hHeld ?_ ?_
   rotate_left
   ·rintro w' ⟨s0, s1, s2, s3⟩
    go_simp
    with_reducible rfl
   rotate_left
   ·exact pz
   refine take_ (i := 1) (N := some 36) (v := ?_) (a' := ?_) (lb 4 3) rfl rfl (by kernel_rfl) (fun _ _ _ h => h) (Or.inl ⟨by rfl, ?_⟩) hHeld ?_ ?_
   rotate_left
   ·rintro w' ⟨s0, s1, s2, s3⟩
    go_simp
    with_reducible rfl
   rotate_left
   ·exact pz
   refine one_ (i := 2) (N := none) (lb 4 7) rfl rfl (by kernel_rfl) (by decide) (fun K hK => ?_)
   have s6 : w14.cell? ⟨g1, 0, none⟩ = some (.int .i64 0) := bc K1 0
   have hfs49 := blk_frozen K1.out 0
   have z_ := ns6 N4 N8 N14 N3 N7 N13
   have s7 : w14.cell? ⟨g1, 1, none⟩ = some (.int .i64 0) := bc K1 1
   have hfs50 := blk_frozen K1.out 1
   have z_ := ns6 N4 N8 N14 N3 N7 N13
   refine skip_ (w1 := ?_) (by rfl) rfl ?_ ?_
   rotate_left
   ·go_simp
    rfl
   refine hK.out _ _ ⟨((cell_far (p := ⟨g1, _, none⟩) N8.out _).trans (((cell_far (p := ⟨g1, _, none⟩) N8.out _).trans (hHeld.1)))), ((cell_far (p := ⟨g1, _, none⟩) N8.out _).trans (((cell_far (p := ⟨g1, _, none⟩) N8.out _).trans (hHeld.2.1)))), ((cell_far (p := ⟨g1, _, none⟩) N14.out _).trans (((cell_far (p := ⟨g1, _, none⟩) N14.out _).trans (hHeld.2.2.1)))), ((cell_far (p := ⟨g1, _, none⟩) N14.out _).trans (((cell_far (p := ⟨g1, _, none⟩) N14.out _).trans (hHeld.2.2.2))))⟩ (fun hHeld => ?_)
   clear hK K
   refine one_ (i := 3) (N := none) (lb 4 15) rfl rfl (by kernel_rfl) (by decide) (fun K hK => ?_)
   have s8 : w14.cell? ⟨g2, 0, none⟩ = some (.int .i64 0) := bc K2 0
   have hfs51 := blk_frozen K2.out 0
   have z_ := ns6 N3 N10 N16 N4 N9 N15
   have s9 : w14.cell? ⟨g2, 1, none⟩ = some (.int .i64 0) := bc K2 1
   have hfs52 := blk_frozen K2.out 1
   have z_ := ns6 N3 N10 N16 N4 N9 N15
   refine skip_ (w1 := ?_) (by rfl) rfl ?_ ?_
   rotate_left
   ·go_simp
    rfl
   refine hK.out _ _ ⟨((cell_far (p := ⟨g2, _, none⟩) N10.out _).trans (((cell_far (p := ⟨g2, _, none⟩) N10.out _).trans (hHeld.1)))), ((cell_far (p := ⟨g2, _, none⟩) N10.out _).trans (((cell_far (p := ⟨g2, _, none⟩) N10.out _).trans (hHeld.2.1)))), ((cell_far (p := ⟨g2, _, none⟩) N16.out _).trans (((cell_far (p := ⟨g2, _, none⟩) N16.out _).trans (hHeld.2.2.1)))), ((cell_far (p := ⟨g2, _, none⟩) N16.out _).trans (((cell_far (p := ⟨g2, _, none⟩) N16.out _).trans (hHeld.2.2.2))))⟩ (fun hHeld => ?_)
   clear hK K
   refine done_ (by kernel_rfl) ?_
   try go_wp2
   refine bodyPost_ret (results_cc rfl _ _ g1 g2 24 24 #[.int .i64 t2, .int .i64 t3] #[.int .i64 t12, .int .i64 t13] (0, 0) (0, 0) _ _ rfl (by refine fa N3 ?_; refine fa N3 ?_; refine pf ?_; refine blk_put (cs := #[.int .i64 t2, .int .i64 0]) ?_ 1 _ rfl; refine pf ?_; refine blk_put (cs := #[.int .i64 0, .int .i64 0]) ?_ 0 _ rfl; exact Z K1) Try.underlying24 rfl (by kernel_rfl) rfl (by refine pf ?_; refine blk_put (cs := #[.int .i64 t12, .int .i64 0]) ?_ 1 _ rfl; refine pf ?_; refine blk_put (cs := #[.int .i64 0, .int .i64 0]) ?_ 0 _ rfl; refine fa N4 ?_; refine fa N4 ?_; exact Z K2) Try.underlying24 rfl (by kernel_rfl)) rfl ?_
   exact ⟨ez, by repeat (first | (with_reducible first | exact I1.out | apply IsS99.alloc | apply IsS99.drewN | apply IsS99.drew | apply IsS99.set_1 | refine IsS99.far ?_ N1.out _ | refine IsS99.far ?_ N5.out _ | refine IsS99.far ?_ N11.out _ | refine IsS99.far ?_ N19.out _) | exact I1.out), by repeat (first | (with_reducible first | exact HB.out | apply below_alloc | apply pw_below_drewN | apply below_drew1 | refine below_set ?_ (IsS99.ge I1.out) | refine below_set ?_ G2.out | refine below_set ?_ G4.out | refine below_set ?_ G6.out | refine below_set ?_ G8.out) | exact HB.out), by repeat (first | (with_reducible first | exact HK.out | apply KeepBut.set_ | apply keep_drewN | apply keep_drew | apply keep_alloc | refine keep_far ?_ G1.out _ | refine keep_far ?_ G3.out _ | refine keep_far ?_ G5.out _ | refine keep_far ?_ G7.out _) | exact HK.out)⟩

end Go.Proofs.Ythbkakcchgnhpaa.PFnRangeMore
