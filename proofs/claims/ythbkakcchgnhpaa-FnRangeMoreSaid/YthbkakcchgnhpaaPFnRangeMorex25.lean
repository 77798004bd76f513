/- Written by this session's own driver (wip/dprint.py): the functions that the law FnRangeMore reaches, as Lean functions, each with its contract. -/
import Derived.Test.YthbkakcchgnhpaaPFnRangeMorex0
import Derived.Test.YthbkakcchgnhpaaPFnRangeMorex12
import Derived.Test.YthbkakcchgnhpaaPFnRangeMorex22
import Derived.Test.YthbkakcchgnhpaaPFnRangeMorex24
import Derived.Test.YthbkakcchgnhpaaSv
namespace Go.Proofs.Ythbkakcchgnhpaa.PFnRangeMore
open Go.RowKit Go.Proofs.YthbkakcchgnhpaaV.PrintWords Go.Proofs.YthbkakcchgnhpaaV.PrintLast Go.Proofs.YthbkakcchgnhpaaV.PrintMore Go.Proofs.YthbkakcchgnhpaaSv
attribute [local go_sem] max2_int min2_int max_two min_two max_three min_three max_four min_four   -- for this text's walks alone
set_option linter.unusedVariables false
set_option linter.unusedSimpArgs false

/-! ### spec_DrawRangeJoin: function 23 -/
attribute [local go_sem] Go.Proofs.YthbkakcchgnhpaaSet.isSome_setCell
def spec_DrawRangeJoin.f (k : Nat) (l0 : List Int) : Option (Int × Int × Int × Int) := (spec_l1Open.f l0).bind fun u1 => ((spec_l8Two.f k u1.1 u1.2).bind fun u2 => (some (u2.1, u2.2.1, u2.2.2.1, u2.2.2.2.1)))
theorem spec_DrawRangeJoin.mono : ∀ a0 k, LeO (spec_DrawRangeJoin.f k a0) (spec_DrawRangeJoin.f (k + 1) a0) := by
 intro a0 k
 unfold spec_DrawRangeJoin.f
 repeat' first | (with_reducible first | apply spec_l8Two.mono | apply LeO.refl | apply LeO.none | refine LeO.ite ?_ ?_ | refine LeO.bind ?_ (fun _ => ?_)) | apply spec_l8Two.mono | apply LeO.none | refine LeO.ite ?_ ?_ | refine LeO.bind ?_ (fun _ => ?_)
set_option maxHeartbeats 8000000 in
set_option maxRecDepth 100000 in
theorem spec_DrawRangeJoin.calls (k : Nat) (A1 : Option Addr) (c1 : Nat) (l0 : List Int) (r1 : Int) (r2 : Int) (r3 : Int) (r4 : Int) (w : World) (hr0 : Kd.C (Kd.int .u8) w A1 l0.length l0) (hc0 : l0.length ≤ c1) (h : spec_DrawRangeJoin.f k l0 = some (r1, r2, r3, r4)) :
  Calls Try.prog 23 #[.slice A1 l0.length c1] w fun e w' => e = .returned (.tuple #[.agg #[.int .i64 r1, .int .i64 r2], .agg #[.int .i64 r3, .int .i64 r4]]) ∧ Below w.heap.size w w' := by
 have hu24 := Try.underlying24
 have R1 := am hr0
 have C1 := am hc0
 clear hr0 hc0
 have HB := am (Below.refl w.heap.size w)
 have H : ((spec_l1Open.f l0).bind fun u1 => ((spec_l8Two.f k u1.1 u1.2).bind fun u2 => (some (u2.1, u2.2.1, u2.2.2.1, u2.2.2.2.1)))) = some (r1, r2, r3, r4) := h
 clear h
 obtain ⟨⟨t1, t2⟩, A2, H⟩ := bd H
 try dsimp only at H
 obtain ⟨⟨t3, t4, t5, t6, t7⟩, A3, H⟩ := bd H
 try dsimp only at H
 simp only [Option.some.injEq, Prod.mk.injEq] at H
 obtain ⟨rfl, rfl, rfl, rfl⟩ := H
 go_enter Try.func23, Try.ntmps23
 try go_wp2_with (first | ((with_reducible refine gate_dst (N := 2) rfl ?_); refine bxn 2 #[.int .i64 0, .int .i64 0] 24 HB fun g1 w2 K1 G1 hg hb => ?_; replace HB := am (below_step (YA HB) hb); clear hb hg) | ((with_reducible refine gate_dst (N := 3) rfl ?_); refine bxn 3 #[.int .i64 0, .int .i64 0] 24 HB fun g2 w3 K2 G2 hg hb => ?_; obtain ⟨N1,N2⟩ := ne_ hg K1; obtain ⟨K1, HB⟩ := bk1 K1 HB hb; clear hb hg) | ((with_reducible refine gate_callee (f := 56) rfl ?_); refine goesL_ (some 8) rfl rfl Try.func56 (by kernel_rfl) rfl #[.slice A1 l0.length c1] rfl mz ?_; (with_reducible refine (spec_l1Open.calls _ _ l0 t1 t2 w _ ?side1 ?side2 ?side3 A2.out).mono ?_); (case side1 => repeat (first | (with_reducible first | exact HB.out | apply below_alloc | apply pw_below_drewN | apply below_drew1 | refine below_set ?_ G1.out | refine below_set ?_ G2.out) | exact HB.out)); (case side2 => exact R1.out); (case side3 => exact C1.out); rintro e w4 ⟨g616, rfl, hi, hb, hb2⟩; refine ⟨_, rfl, ?_⟩; have I1 := am (hi); have N3 := am (IsS99.ne_blk hi (blk_below (g := g1) (o := b2 0 0 24) (Z K1) hb2) (by decide)); have N4 := am (Ne.symm (IsS99.ne_blk hi (blk_below (g := g1) (o := b2 0 0 24) (Z K1) hb2) (by decide))); have N5 := am (IsS99.ne_blk hi (blk_below (g := g2) (o := b2 0 0 24) (Z K2) hb2) (by decide)); have N6 := am (Ne.symm (IsS99.ne_blk hi (blk_below (g := g2) (o := b2 0 0 24) (Z K2) hb2) (by decide))); replace K1 := am (blk_below (g := g1) (o := b2 0 0 24) (Z K1) hb2); replace K2 := am (blk_below (g := g2) (o := b2 0 0 24) (Z K2) hb2); replace HB := am (hb); (try clear hb)) | ((with_reducible refine gate_callee (f := 67) rfl ?_); refine goesL_ (some 11) rfl rfl Try.func67 (by kernel_rfl) rfl #[.pointer (some ⟨g616, 0, none⟩)] rfl mz ?_; (with_reducible refine (spec_l8Two.calls k g616 t1 t2 t3 t4 t5 t6 t7 w _ ?side1 ?side2 A3.out).mono ?_); (case side1 => repeat (first | (with_reducible first | exact I1.out | apply IsS99.alloc | apply IsS99.drewN | apply IsS99.drew | apply IsS99.set_1 | refine IsS99.far ?_ N3.out _ | refine IsS99.far ?_ N5.out _) | exact I1.out)); (case side2 => repeat (first | (with_reducible first | exact HB.out | apply below_alloc | apply pw_below_drewN | apply below_drew1 | refine below_set ?_ (IsS99.ge I1.out) | refine below_set ?_ G1.out | refine below_set ?_ G2.out) | exact HB.out)); rintro e w5 ⟨rfl, hi, hb, hk⟩; refine ⟨_, rfl, ?_⟩; replace K1 := am (KeepBut.blk hk (g' := g1) (o := b2 0 0 24) (Z K1) N4.out (by simp)); replace K2 := am (KeepBut.blk hk (g' := g2) (o := b2 0 0 24) (Z K2) N6.out (by simp)); replace HB := am (hb); replace I1 := am (hi); (try clear hb)) | ((with_reducible refine gate_dst (N := 5) rfl ?_); refine bx 5 #[.int .i64 0, .int .i64 0] 24 ?_; intro g3 hg w6 hbox hb; have K3 := am (hbox); have G3 := am ((by rw [hg]; exact (below_size (by repeat (first | (with_reducible first | exact HB.out | apply below_alloc | apply pw_below_drewN | apply below_drew1 | refine below_set ?_ (IsS99.ge I1.out) | refine below_set ?_ G1.out | refine below_set ?_ G2.out) | exact HB.out))) : w.heap.size ≤ g3)); have G4 := am ((by rw [hg]; exact (below_size (by repeat (first | (with_reducible first | exact HB.out | apply below_alloc | apply pw_below_drewN | apply below_drew1 | refine below_set ?_ (IsS99.ge I1.out) | refine below_set ?_ G1.out | refine below_set ?_ G2.out) | exact HB.out))) : w.heap.size ≤ g3)); obtain ⟨N7,N8⟩ := ne_ hg K1; obtain ⟨N9,N10⟩ := ne_ hg K2; have N11 := am ((by rw [hg]; exact Nat.ne_of_lt (IsS99.lt (show IsS99 w _ g616 t1 t7 from by repeat (first | (with_reducible first | exact I1.out | apply IsS99.alloc | apply IsS99.drewN | apply IsS99.drew | apply IsS99.set_1 | refine IsS99.far ?_ N3.out _ | refine IsS99.far ?_ N5.out _) | exact I1.out))) : g616 ≠ g3)); have N12 := am ((by rw [hg]; exact Nat.ne_of_gt (IsS99.lt (show IsS99 w _ g616 t1 t7 from by repeat (first | (with_reducible first | exact I1.out | apply IsS99.alloc | apply IsS99.drewN | apply IsS99.drew | apply IsS99.set_1 | refine IsS99.far ?_ N3.out _ | refine IsS99.far ?_ N5.out _) | exact I1.out))) : g3 ≠ g616)); replace K1 := bb K1 hb; replace K2 := bb K2 hb; replace HB := am (below_step (by repeat (first | (with_reducible first | exact HB.out | apply below_alloc | apply pw_below_drewN | apply below_drew1 | refine below_set ?_ (IsS99.ge I1.out) | refine below_set ?_ G1.out | refine below_set ?_ G2.out) | exact HB.out)) hb); replace I1 := am (IsS99.below (by repeat (first | (with_reducible first | exact I1.out | apply IsS99.alloc | apply IsS99.drewN | apply IsS99.drew | apply IsS99.set_1 | refine IsS99.far ?_ N3.out _ | refine IsS99.far ?_ N5.out _) | exact I1.out)) hb); clear hb hbox hg) | ((with_reducible refine gate_dst (N := 6) rfl ?_); refine bx 6 #[.int .i64 0, .int .i64 0] 24 ?_; intro g4 hg w7 hbox hb; have K4 := am (hbox); have G5 := am ((by rw [hg]; exact (below_size (by repeat (first | (with_reducible first | exact HB.out | apply below_alloc | apply pw_below_drewN | apply below_drew1 | refine below_set ?_ (IsS99.ge I1.out) | refine below_set ?_ G1.out | refine below_set ?_ G2.out | refine below_set ?_ G4.out) | exact HB.out))) : w.heap.size ≤ g4)); have G6 := am ((by rw [hg]; exact (below_size (by repeat (first | (with_reducible first | exact HB.out | apply below_alloc | apply pw_below_drewN | apply below_drew1 | refine below_set ?_ (IsS99.ge I1.out) | refine below_set ?_ G1.out | refine below_set ?_ G2.out | refine below_set ?_ G4.out) | exact HB.out))) : w.heap.size ≤ g4)); obtain ⟨N13,N14⟩ := ne_ hg K1; obtain ⟨N15,N16⟩ := ne_ hg K2; obtain ⟨N17,N18⟩ := ne_ hg K3; have N19 := am ((by rw [hg]; exact Nat.ne_of_lt (IsS99.lt (show IsS99 w _ g616 t1 t7 from by repeat (first | (with_reducible first | exact I1.out | apply IsS99.alloc | apply IsS99.drewN | apply IsS99.drew | apply IsS99.set_1 | refine IsS99.far ?_ N3.out _ | refine IsS99.far ?_ N5.out _ | refine IsS99.far ?_ N11.out _) | exact I1.out))) : g616 ≠ g4)); have N20 := am ((by rw [hg]; exact Nat.ne_of_gt (IsS99.lt (show IsS99 w _ g616 t1 t7 from by repeat (first | (with_reducible first | exact I1.out | apply IsS99.alloc | apply IsS99.drewN | apply IsS99.drew | apply IsS99.set_1 | refine IsS99.far ?_ N3.out _ | refine IsS99.far ?_ N5.out _ | refine IsS99.far ?_ N11.out _) | exact I1.out))) : g4 ≠ g616)); replace K1 := bb K1 hb; replace K2 := bb K2 hb; replace K3 := bb K3 hb; replace HB := am (below_step (by repeat (first | (with_reducible first | exact HB.out | apply below_alloc | apply pw_below_drewN | apply below_drew1 | refine below_set ?_ (IsS99.ge I1.out) | refine below_set ?_ G1.out | refine below_set ?_ G2.out | refine below_set ?_ G4.out) | exact HB.out)) hb); replace I1 := am (IsS99.below (by repeat (first | (with_reducible first | exact I1.out | apply IsS99.alloc | apply IsS99.drewN | apply IsS99.drew | apply IsS99.set_1 | refine IsS99.far ?_ N3.out _ | refine IsS99.far ?_ N5.out _ | refine IsS99.far ?_ N11.out _) | exact I1.out)) hb); clear hb hbox hg; have z_ := ns7 N8 N10 N17 N12 N14 N16 N20; have z_ := cB2 K3; have z_ := cB2 K4))
 have n0_ : Aside0 (((((w7.setCell ⟨g3, 0, none⟩ (.int .i64 t3)).setCell ⟨g3, 1, none⟩ (.int .i64 t4)).setCell ⟨g4, 0, none⟩ (.int .i64 t5)).setCell ⟨g4, 1, none⟩ (.int .i64 t6)).heap[g1]? = some (.cells #[.int .i64 0, .int .i64 0] 24 (0, 0))) := ⟨by refine fa N13 ?_; refine fa N13 ?_; refine fa N7 ?_; refine fa N7 ?_; exact Z K1⟩
 have n1_ : Aside0 (((((w7.setCell ⟨g3, 0, none⟩ (.int .i64 t3)).setCell ⟨g3, 1, none⟩ (.int .i64 t4)).setCell ⟨g4, 0, none⟩ (.int .i64 t5)).setCell ⟨g4, 1, none⟩ (.int .i64 t6)).heap[g2]? = some (.cells #[.int .i64 0, .int .i64 0] 24 (0, 0))) := ⟨by refine fa N15 ?_; refine fa N15 ?_; refine fa N9 ?_; refine fa N9 ?_; exact Z K2⟩
 have n2_ : Aside0 (((((w7.setCell ⟨g3, 0, none⟩ (.int .i64 t3)).setCell ⟨g3, 1, none⟩ (.int .i64 t4)).setCell ⟨g4, 0, none⟩ (.int .i64 t5)).setCell ⟨g4, 1, none⟩ (.int .i64 t6)).heap[g3]? = some (.cells #[.int .i64 t3, .int .i64 t4] 24 (0, 0))) := ⟨by refine fa N17 ?_; refine fa N17 ?_; refine pf ?_; refine blk_put (cs := #[.int .i64 t3, .int .i64 0]) ?_ 1 _ rfl; refine pf ?_; refine blk_put (cs := #[.int .i64 0, .int .i64 0]) ?_ 0 _ rfl; exact Z K3⟩
 have n3_ : Aside0 (((((w7.setCell ⟨g3, 0, none⟩ (.int .i64 t3)).setCell ⟨g3, 1, none⟩ (.int .i64 t4)).setCell ⟨g4, 0, none⟩ (.int .i64 t5)).setCell ⟨g4, 1, none⟩ (.int .i64 t6)).heap[g4]? = some (.cells #[.int .i64 t5, .int .i64 t6] 24 (0, 0))) := ⟨by refine pf ?_; refine blk_put (cs := #[.int .i64 t5, .int .i64 0]) ?_ 1 _ rfl; refine pf ?_; refine blk_put (cs := #[.int .i64 0, .int .i64 0]) ?_ 0 _ rfl; refine fa N18 ?_; refine fa N18 ?_; exact Z K4⟩
 have n4_ : Aside0 (IsS99 w ((((w7.setCell ⟨g3, 0, none⟩ (.int .i64 t3)).setCell ⟨g3, 1, none⟩ (.int .i64 t4)).setCell ⟨g4, 0, none⟩ (.int .i64 t5)).setCell ⟨g4, 1, none⟩ (.int .i64 t6)) g616 t1 t7) := ⟨by repeat (first | (with_reducible first | exact I1.out | apply IsS99.alloc | apply IsS99.drewN | apply IsS99.drew | apply IsS99.set_1 | refine IsS99.far ?_ N3.out _ | refine IsS99.far ?_ N5.out _ | refine IsS99.far ?_ N11.out _ | refine IsS99.far ?_ N19.out _) | exact I1.out)⟩
 have n5_ : Aside0 (Below w.heap.size w ((((w7.setCell ⟨g3, 0, none⟩ (.int .i64 t3)).setCell ⟨g3, 1, none⟩ (.int .i64 t4)).setCell ⟨g4, 0, none⟩ (.int .i64 t5)).setCell ⟨g4, 1, none⟩ (.int .i64 t6))) := ⟨by repeat (first | (with_reducible first | exact HB.out | apply below_alloc | apply pw_below_drewN | apply below_drew1 | refine below_set ?_ (IsS99.ge I1.out) | refine below_set ?_ G1.out | refine below_set ?_ G2.out | refine below_set ?_ G4.out | refine below_set ?_ G6.out) | exact HB.out)⟩
 (try clear K1)
 (try clear K2)
 (try clear K3)
 (try clear K4)
 (try clear I1)
 (try clear HB)
 generalize ((((w7.setCell ⟨g3, 0, none⟩ (.int .i64 t3)).setCell ⟨g3, 1, none⟩ (.int .i64 t4)).setCell ⟨g4, 0, none⟩ (.int .i64 t5)).setCell ⟨g4, 1, none⟩ (.int .i64 t6)) = w8 at n0_ n1_ n2_ n3_ n4_ n5_ ⊢
 have K1 := n0_
 have K2 := n1_
 have K3 := n2_
 have K4 := n3_
 have I1 := n4_
 have HB := n5_
 clear n0_ n1_ n2_ n3_ n4_ n5_
 replace K1 := am (blk_drew K1.out)
 replace K2 := am (blk_drew K2.out)
 replace K3 := am (blk_drew K3.out)
 replace K4 := am (blk_drew K4.out)
 replace I1 := am (IsS99.drew I1.out)
 replace HB := am (below_drew1 HB.out)
 refine start_ (n := 4) (S := fun w' => w'.cell? ⟨g3, 0, none⟩ = some (.int .i64 t3) ∧ w'.cell? ⟨g3, 1, none⟩ = some (.int .i64 t4) ∧ w'.cell? ⟨g4, 0, none⟩ = some (.int .i64 t5) ∧ w'.cell? ⟨g4, 1, none⟩ = some (.int .i64 t6)) (ds := []) (lb 4 0) (by kernel_rfl) rfl rfl ⟨bc K3 0, bc K3 1, bc K4 0, bc K4 1⟩ (fun hHeld => ?_)
 generalize w8.drew = w9 at K1 K2 K3 K4 I1 HB hHeld ⊢
 refine take_ (i := 0) (N := some 14) (v := ?_) (a' := ?_) (lb 4 1) rfl rfl (by kernel_rfl) (fun _ _ _ h => h) (Or.inl ⟨by rfl, ?_⟩) hHeld ?_ ?_
 rotate_left
 ·rintro w' ⟨s0, s1, s2, s3⟩
  go_simp
  with_reducible rfl
 rotate_left
 ·exact pz
 refine take_ (i := 1) (N := some 15) (v := ?_) (a' := ?_) (lb 4 3) rfl rfl (by kernel_rfl) (fun _ _ _ h => h) (Or.inl ⟨by rfl, ?_⟩) hHeld ?_ ?_
 rotate_left
 ·rintro w' ⟨s0, s1, s2, s3⟩
  go_simp
  with_reducible rfl
 rotate_left
 ·exact pz
 refine one_ (i := 2) (N := none) (lb 4 7) rfl rfl (by kernel_rfl) (by decide) (fun K hK => ?_)
 have s4 : w9.cell? ⟨g1, 0, none⟩ = some (.int .i64 0) := bc K1 0
 have hfs21 := blk_frozen K1.out 0
 have z_ := ns6 N2 N8 N14 N1 N7 N13
 have s5 : w9.cell? ⟨g1, 1, none⟩ = some (.int .i64 0) := bc K1 1
 have hfs22 := blk_frozen K1.out 1
 have z_ := ns6 N2 N8 N14 N1 N7 N13
 refine skip_ (w1 := ?_) (by rfl) rfl ?_ ?_
 rotate_left
 ·go_simp
  rfl
 refine hK.out _ _ ⟨((cell_far (p := ⟨g1, _, none⟩) N8.out _).trans (((cell_far (p := ⟨g1, _, none⟩) N8.out _).trans (hHeld.1)))), ((cell_far (p := ⟨g1, _, none⟩) N8.out _).trans (((cell_far (p := ⟨g1, _, none⟩) N8.out _).trans (hHeld.2.1)))), ((cell_far (p := ⟨g1, _, none⟩) N14.out _).trans (((cell_far (p := ⟨g1, _, none⟩) N14.out _).trans (hHeld.2.2.1)))), ((cell_far (p := ⟨g1, _, none⟩) N14.out _).trans (((cell_far (p := ⟨g1, _, none⟩) N14.out _).trans (hHeld.2.2.2))))⟩ (fun hHeld => ?_)
 clear hK K
 refine one_ (i := 3) (N := none) (lb 4 15) rfl rfl (by kernel_rfl) (by decide) (fun K hK => ?_)
 have s6 : w9.cell? ⟨g2, 0, none⟩ = some (.int .i64 0) := bc K2 0
 have hfs23 := blk_frozen K2.out 0
 have z_ := ns6 N1 N10 N16 N2 N9 N15
 have s7 : w9.cell? ⟨g2, 1, none⟩ = some (.int .i64 0) := bc K2 1
 have hfs24 := blk_frozen K2.out 1
 have z_ := ns6 N1 N10 N16 N2 N9 N15
 refine skip_ (w1 := ?_) (by rfl) rfl ?_ ?_
 rotate_left
 ·go_simp
  rfl
 refine hK.out _ _ ⟨((cell_far (p := ⟨g2, _, none⟩) N10.out _).trans (((cell_far (p := ⟨g2, _, none⟩) N10.out _).trans (hHeld.1)))), ((cell_far (p := ⟨g2, _, none⟩) N10.out _).trans (((cell_far (p := ⟨g2, _, none⟩) N10.out _).trans (hHeld.2.1)))), ((cell_far (p := ⟨g2, _, none⟩) N16.out _).trans (((cell_far (p := ⟨g2, _, none⟩) N16.out _).trans (hHeld.2.2.1)))), ((cell_far (p := ⟨g2, _, none⟩) N16.out _).trans (((cell_far (p := ⟨g2, _, none⟩) N16.out _).trans (hHeld.2.2.2))))⟩ (fun hHeld => ?_)
 clear hK K
 refine done_ (by kernel_rfl) ?_
 try go_wp2
 refine bodyPost_ret (results_cc rfl _ _ g1 g2 24 24 #[.int .i64 t3, .int .i64 t4] #[.int .i64 t5, .int .i64 t6] (0, 0) (0, 0) _ _ rfl (by refine fa N1 ?_; refine fa N1 ?_; refine pf ?_; refine blk_put (cs := #[.int .i64 t3, .int .i64 0]) ?_ 1 _ rfl; refine pf ?_; refine blk_put (cs := #[.int .i64 0, .int .i64 0]) ?_ 0 _ rfl; exact Z K1) Try.underlying24 rfl (by kernel_rfl) rfl (by refine pf ?_; refine blk_put (cs := #[.int .i64 t5, .int .i64 0]) ?_ 1 _ rfl; refine pf ?_; refine blk_put (cs := #[.int .i64 0, .int .i64 0]) ?_ 0 _ rfl; refine fa N2 ?_; refine fa N2 ?_; exact Z K2) Try.underlying24 rfl (by kernel_rfl)) rfl ?_
 exact ⟨ez, by repeat (first | (with_reducible first | exact HB.out | apply below_alloc | apply pw_below_drewN | apply below_drew1 | refine below_set ?_ (IsS99.ge I1.out) | refine below_set ?_ G1.out | refine below_set ?_ G2.out | refine below_set ?_ G4.out | refine below_set ?_ G6.out) | exact HB.out)⟩

/-! ### laws_has: function 26 -/
attribute [local go_sem] Go.Proofs.YthbkakcchgnhpaaSet.isSome_setCell
def laws_has.l0 : Nat → List Int → Int → Int → Option (Bool)
 | 0, _, _, _ => none
 | k + 1, x1, x2, x3 => if x3 < (x1.length : Int) then (if 0 ≤ x3 then (if (rd x1 x3) = x2 then (some true) else (laws_has.l0 k x1 x2 (wrap64 (x3 + 1)))) else (none)) else (some false)
def laws_has.f (k : Nat) (l0 : List Int) (a1 : Int) : Option (Bool) := laws_has.l0 k l0 a1 0
theorem laws_has.mono_l : ∀ k, (∀ y0 y1 y2, LeO (laws_has.l0 k y0 y1 y2) (laws_has.l0 (k + 1) y0 y1 y2))
 | 0 => fun _ _ _ r h => by simp [laws_has.l0] at h
 | k + 1 => by
  have ih0 := laws_has.mono_l k
  ·intro y0 y1 y2
   unfold laws_has.l0
   repeat' first | (with_reducible first | apply ih0 | apply LeO.refl | apply LeO.none | refine LeO.ite ?_ ?_ | refine LeO.bind ?_ (fun _ => ?_)) | apply ih0 | apply LeO.none | refine LeO.ite ?_ ?_ | refine LeO.bind ?_ (fun _ => ?_)
theorem laws_has.mono : ∀ a0 a1 k, LeO (laws_has.f k a0 a1) (laws_has.f (k + 1) a0 a1) := by
 intro a0 a1 k
 have ih0 := laws_has.mono_l k
 unfold laws_has.f
 repeat' first | (with_reducible first | apply ih0 | apply LeO.refl | apply LeO.none | refine LeO.ite ?_ ?_ | refine LeO.bind ?_ (fun _ => ?_)) | apply ih0 | apply LeO.none | refine LeO.ite ?_ ?_ | refine LeO.bind ?_ (fun _ => ?_)
set_option maxHeartbeats 8000000 in
set_option maxRecDepth 100000 in
theorem laws_has.calls (k : Nat) (A1 : Option Addr) (c1 : Nat) (l0 : List Int) (a1 : Int) (r : Bool) (w : World) (hr0 : Kd.C (Kd.int .i64) w A1 l0.length l0) (hc0 : l0.length ≤ c1) (h : laws_has.f k l0 a1 = some r) :
  Calls Try.prog 26 #[.slice A1 l0.length c1, .int .i64 a1] w fun e w' => e = .returned (.bool r) ∧ Drawn0 w w' := by
 have R1 := am hr0
 have C1 := am hc0
 clear hr0 hc0
 have H : (laws_has.l0 k l0 a1 0) = some r := h
 clear h
 have H' := am H
 clear H
 go_enter Try.func26, Try.ntmps26
 go_wp2
 go_loopg [5] k (fun kq v1 w' => ∃ (x1 : Int), v1 = .int .i64 x1 ∧ Aside0 (laws_has.l0 kq l0 a1 x1 = some r) ∧ Aside0 (kq ≤ k) ∧ Drawn0 w w')
 case atStart => exact ⟨(0), ey, H', ⟨Nat.le_refl _⟩, by repeat (first | exact Drawn0.refl _ | apply Drawn0.step)⟩
 case round =>
  clear H'
  obtain ⟨x1, rfl, HA, HK1, ⟨m1, rfl⟩⟩ := hrel
  cases gk with
  | zero => exact absurd HA.out (by simp [laws_has.l0])
  | succ k1 =>
   have H := HA.out
   clear HA
   simp only [laws_has.l0] at H
   by_cases c2 : x1 < (l0.length : Int)
   rotate_left
   ·rw [if_neg c2] at H
    have d1 := dF c2
    clear c2
    obtain rfl := Option.some.inj H
    go_wp2
    go_ret
    exact ⟨by first | rfl | (simp; done) | (simp [*]; done), by repeat (first | exact Drawn0.refl _ | apply Drawn0.step)⟩
   rw [if_pos c2] at H
   have d1 := dT c2
   clear c2
   by_cases c3 : 0 ≤ x1
   rotate_left
   ·rw [if_neg c3] at H
    exact absurd H (by simp)
   rw [if_pos c3] at H
   have d2 := dT c3
   clear c3
   by_cases c4 : (rd l0 x1) = a1
   ·rw [if_pos c4] at H
    have d3 := eT c4
    have d4 := nF c4
    clear c4
    obtain rfl := Option.some.inj H
    have p624 : 0 ≤ (x1 : Int) := oz
    have q624 : x1 < (l0.length : Int) := oz
    obtain ⟨ad624, e624, hx624_0⟩ := Kd.at_int R1.out x1 p624 q624
    cases e624
    replace p624 := eq_true p624
    replace q624 := eq_true q624
    go_wp2
    go_ret
    exact ⟨by first | rfl | (simp; done) | (simp [*]; done), by repeat (first | exact Drawn0.refl _ | apply Drawn0.step)⟩
   rw [if_neg c4] at H
   have d3 := eF c4
   have d4 := nT c4
   have H' := am H
   clear H
   have p624 : 0 ≤ (x1 : Int) := oz
   have q624 : x1 < (l0.length : Int) := oz
   obtain ⟨ad624, e624, hx624_0⟩ := Kd.at_int R1.out x1 p624 q624
   cases e624
   replace p624 := eq_true p624
   replace q624 := eq_true q624
   go_wp2
   go_roundg k1
   case measure => have := HK1.out; omega
   case rel => exact ⟨(wrap64 (x1 + 1)), ey, H', ⟨by have := HK1.out; omega⟩, by repeat (first | exact Drawn0.refl _ | apply Drawn0.step)⟩

/-! ### impl_RangeIn: function 27 -/
attribute [local go_sem] Go.Proofs.YthbkakcchgnhpaaSet.isSome_setCell
def impl_RangeIn.f (a0_0 : Int) (a0_1 : Int) (a1_0 : Int) (a1_1 : Int) : Option (Bool) := (impl_RangeOk.f a0_0 a0_1).bind fun t1 => (if t1 = true then ((impl_RangeOk.f a1_0 a1_1).bind fun t2 => (if t2 = true then ((impl_Range_empty.f a0_0 a0_1).bind fun t3 => (if t3 = true then (some true) else (if a1_0 ≤ a0_0 then (some (decide (a0_1 ≤ a1_1))) else (some false)))) else (some false))) else (some false))
set_option maxHeartbeats 8000000 in
set_option maxRecDepth 100000 in
theorem impl_RangeIn.calls (a0_0 : Int) (a0_1 : Int) (a1_0 : Int) (a1_1 : Int) (r : Bool) (w : World) (h : impl_RangeIn.f a0_0 a0_1 a1_0 a1_1 = some r) :
  Calls Try.prog 27 #[.agg #[.int .i64 a0_0, .int .i64 a0_1], .agg #[.int .i64 a1_0, .int .i64 a1_1]] w fun e w' => e = .returned (.bool r) ∧ Below w.heap.size w w' := by
 have hu24 := Try.underlying24
 have HB := am (Below.refl w.heap.size w)
 have H : ((impl_RangeOk.f a0_0 a0_1).bind fun t1 => (if t1 = true then ((impl_RangeOk.f a1_0 a1_1).bind fun t2 => (if t2 = true then ((impl_Range_empty.f a0_0 a0_1).bind fun t3 => (if t3 = true then (some true) else (if a1_0 ≤ a0_0 then (some (decide (a0_1 ≤ a1_1))) else (some false)))) else (some false))) else (some false))) = some r := h
 clear h
 obtain ⟨t1, A1, H⟩ := bd H
 try dsimp only at H
 by_cases c1 : t1 = true
 rotate_left
 ·replace c1 := Bool.eq_false_iff.mpr c1
  subst c1
  rw [if_neg ff] at H
  obtain rfl := Option.some.inj H
  go_enter Try.func27, Try.ntmps27
  go_wp2_with (first | ((with_reducible refine gate_dst (N := 2) rfl ?_); refine bxn 2 #[.int .i64 a0_0, .int .i64 a0_1] 24 HB fun g1 w1 K1 G1 hg hb => ?_; replace HB := am (below_step (YA HB) hb); clear hb hg) | ((with_reducible refine gate_dst (N := 3) rfl ?_); refine bxn 3 #[.int .i64 a1_0, .int .i64 a1_1] 24 HB fun g2 w2 K2 G2 hg hb => ?_; obtain ⟨N1,N2⟩ := ne_ hg K1; obtain ⟨K1, HB⟩ := bk1 K1 HB hb; clear hb hg; have z_ := ns1 N1; have z_ := cB2 K1) | ((with_reducible refine gate_callee (f := 46) rfl ?_); refine gL 6 Try.func46 (impl_RangeOk.calls _ _ _ _ A1.out) fun w3 hb => ?_; obtain ⟨K1, K2, HB⟩ := bk2 K1 K2 HB hb; (try clear hb)))
  go_ret
  exact ⟨ez, YA HB⟩
 subst c1
 rw [if_pos rfl] at H
 obtain ⟨t2, A2, H⟩ := bd H
 try dsimp only at H
 by_cases c2 : t2 = true
 rotate_left
 ·replace c2 := Bool.eq_false_iff.mpr c2
  subst c2
  rw [if_neg ff] at H
  obtain rfl := Option.some.inj H
  go_enter Try.func27, Try.ntmps27
  go_wp2_with (first | ((with_reducible refine gate_dst (N := 2) rfl ?_); refine bxn 2 #[.int .i64 a0_0, .int .i64 a0_1] 24 HB fun g1 w1 K1 G1 hg hb => ?_; replace HB := am (below_step (YA HB) hb); clear hb hg) | ((with_reducible refine gate_dst (N := 3) rfl ?_); refine bxn 3 #[.int .i64 a1_0, .int .i64 a1_1] 24 HB fun g2 w2 K2 G2 hg hb => ?_; obtain ⟨N1,N2⟩ := ne_ hg K1; obtain ⟨K1, HB⟩ := bk1 K1 HB hb; clear hb hg; have z_ := ns1 N1; have z_ := cB2 K1) | ((with_reducible refine gate_callee (f := 46) rfl ?_); refine gL 6 Try.func46 (impl_RangeOk.calls _ _ _ _ A1.out) fun w3 hb => ?_; obtain ⟨K1, K2, HB⟩ := bk2 K1 K2 HB hb; (try clear hb); have z_ := cB2 K2) | (go_at_call 46; (with_reducible refine (impl_RangeOk.calls _ _ _ _ A2.out).mono ?_); rintro e w4 ⟨rfl, hb⟩; obtain ⟨K1, K2, HB⟩ := bk2 K1 K2 HB hb; (try clear hb)))
  go_ret
  exact ⟨ez, YA HB⟩
 subst c2
 rw [if_pos rfl] at H
 obtain ⟨t3, A3, H⟩ := bd H
 try dsimp only at H
 by_cases c3 : t3 = true
 ·subst c3
  rw [if_pos rfl] at H
  obtain rfl := Option.some.inj H
  go_enter Try.func27, Try.ntmps27
  go_wp2_with (first | ((with_reducible refine gate_dst (N := 2) rfl ?_); refine bxn 2 #[.int .i64 a0_0, .int .i64 a0_1] 24 HB fun g1 w1 K1 G1 hg hb => ?_; replace HB := am (below_step (YA HB) hb); clear hb hg) | ((with_reducible refine gate_dst (N := 3) rfl ?_); refine bxn 3 #[.int .i64 a1_0, .int .i64 a1_1] 24 HB fun g2 w2 K2 G2 hg hb => ?_; obtain ⟨N1,N2⟩ := ne_ hg K1; obtain ⟨K1, HB⟩ := bk1 K1 HB hb; clear hb hg; have z_ := ns1 N1; have z_ := cB2 K1) | ((with_reducible refine gate_callee (f := 46) rfl ?_); refine gL 6 Try.func46 (impl_RangeOk.calls _ _ _ _ A1.out) fun w3 hb => ?_; obtain ⟨K1, K2, HB⟩ := bk2 K1 K2 HB hb; (try clear hb); have z_ := cB2 K2) | (go_at_call 46; (with_reducible refine (impl_RangeOk.calls _ _ _ _ A2.out).mono ?_); rintro e w4 ⟨rfl, hb⟩; obtain ⟨K1, K2, HB⟩ := bk2 K1 K2 HB hb; (try clear hb); have z_ := cB2 K1) | ((with_reducible refine gate_callee (f := 47) rfl ?_); refine gL 14 Try.func47 (impl_Range_empty.calls _ _ _ _ A3.out) fun w5 hb => ?_; obtain ⟨K1, K2, HB⟩ := bk2 K1 K2 HB hb; (try clear hb)))
  go_ret
  exact ⟨ez, YA HB⟩
 replace c3 := Bool.eq_false_iff.mpr c3
 subst c3
 rw [if_neg ff] at H
 by_cases c4 : a1_0 ≤ a0_0
 ·rw [if_pos c4] at H
  have d1 := dT c4
  clear c4
  obtain rfl := Option.some.inj H
  go_enter Try.func27, Try.ntmps27
  go_wp2_with (first | ((with_reducible refine gate_dst (N := 2) rfl ?_); refine bxn 2 #[.int .i64 a0_0, .int .i64 a0_1] 24 HB fun g1 w1 K1 G1 hg hb => ?_; replace HB := am (below_step (YA HB) hb); clear hb hg) | ((with_reducible refine gate_dst (N := 3) rfl ?_); refine bxn 3 #[.int .i64 a1_0, .int .i64 a1_1] 24 HB fun g2 w2 K2 G2 hg hb => ?_; obtain ⟨N1,N2⟩ := ne_ hg K1; obtain ⟨K1, HB⟩ := bk1 K1 HB hb; clear hb hg; have z_ := ns1 N1; have z_ := cB2 K1) | ((with_reducible refine gate_callee (f := 46) rfl ?_); refine gL 6 Try.func46 (impl_RangeOk.calls _ _ _ _ A1.out) fun w3 hb => ?_; obtain ⟨K1, K2, HB⟩ := bk2 K1 K2 HB hb; (try clear hb); have z_ := cB2 K2) | (go_at_call 46; (with_reducible refine (impl_RangeOk.calls _ _ _ _ A2.out).mono ?_); rintro e w4 ⟨rfl, hb⟩; obtain ⟨K1, K2, HB⟩ := bk2 K1 K2 HB hb; (try clear hb); have z_ := cB2 K1) | ((with_reducible refine gate_callee (f := 47) rfl ?_); refine gL 14 Try.func47 (impl_Range_empty.calls _ _ _ _ A3.out) fun w5 hb => ?_; obtain ⟨K1, K2, HB⟩ := bk2 K1 K2 HB hb; (try clear hb); have z_ := cB2 K2; have z_ := cB2 K1))
  go_ret
  exact ⟨ez, YA HB⟩
 rw [if_neg c4] at H
 have d1 := dF c4
 clear c4
 obtain rfl := Option.some.inj H
 go_enter Try.func27, Try.ntmps27
 go_wp2_with (first | ((with_reducible refine gate_dst (N := 2) rfl ?_); refine bxn 2 #[.int .i64 a0_0, .int .i64 a0_1] 24 HB fun g1 w1 K1 G1 hg hb => ?_; replace HB := am (below_step (YA HB) hb); clear hb hg) | ((with_reducible refine gate_dst (N := 3) rfl ?_); refine bxn 3 #[.int .i64 a1_0, .int .i64 a1_1] 24 HB fun g2 w2 K2 G2 hg hb => ?_; obtain ⟨N1,N2⟩ := ne_ hg K1; obtain ⟨K1, HB⟩ := bk1 K1 HB hb; clear hb hg; have z_ := ns1 N1; have z_ := cB2 K1) | ((with_reducible refine gate_callee (f := 46) rfl ?_); refine gL 6 Try.func46 (impl_RangeOk.calls _ _ _ _ A1.out) fun w3 hb => ?_; obtain ⟨K1, K2, HB⟩ := bk2 K1 K2 HB hb; (try clear hb); have z_ := cB2 K2) | (go_at_call 46; (with_reducible refine (impl_RangeOk.calls _ _ _ _ A2.out).mono ?_); rintro e w4 ⟨rfl, hb⟩; obtain ⟨K1, K2, HB⟩ := bk2 K1 K2 HB hb; (try clear hb); have z_ := cB2 K1) | ((with_reducible refine gate_callee (f := 47) rfl ?_); refine gL 14 Try.func47 (impl_Range_empty.calls _ _ _ _ A3.out) fun w5 hb => ?_; obtain ⟨K1, K2, HB⟩ := bk2 K1 K2 HB hb; (try clear hb); have z_ := cB2 K2; have z_ := cB2 K1))
 go_ret
 exact ⟨ez, YA HB⟩

end Go.Proofs.Ythbkakcchgnhpaa.PFnRangeMore
