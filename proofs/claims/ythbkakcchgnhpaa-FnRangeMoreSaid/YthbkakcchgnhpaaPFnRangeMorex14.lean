/- Written by this session's own driver (wip/dprint.py): the functions that the law FnRangeMore reaches, as Lean functions, each with its contract. -/
import Derived.Test.YthbkakcchgnhpaaPFnRangeMorex0
import Derived.Test.YthbkakcchgnhpaaPFnRangeMorex13
import Derived.Test.YthbkakcchgnhpaaSv
namespace Go.Proofs.Ythbkakcchgnhpaa.PFnRangeMore
open Go.RowKit Go.Proofs.YthbkakcchgnhpaaV.PrintWords Go.Proofs.YthbkakcchgnhpaaV.PrintLast Go.Proofs.YthbkakcchgnhpaaV.PrintMore Go.Proofs.YthbkakcchgnhpaaSv
attribute [local go_sem] max2_int min2_int max_two min_two max_three min_three max_four min_four   -- for this text's walks alone
set_option linter.unusedVariables false
set_option linter.unusedSimpArgs false

/-! ### impl_rangeCorners: function 49 -/
attribute [local go_sem] Go.Proofs.YthbkakcchgnhpaaSet.isSome_setCell
def impl_rangeCorners.l0 : Nat → Int → Int → Int → Int → Int → Int → Int → Option (Int × Int)
 | 0, _, _, _, _, _, _, _ => none
 | k + 1, x1, x2, x3, x4, x5, x6, x7 => if x3 < 4 then (if x3 = 0 then (impl_rangeCorners.l0 k (mn x1 x4) (mx x2 x4) (wrap64 (x3 + 1)) x4 x5 x6 x7) else (if x3 = 1 then (impl_rangeCorners.l0 k (mn x1 x5) (mx x2 x5) (wrap64 (x3 + 1)) x4 x5 x6 x7) else (if x3 = 2 then (impl_rangeCorners.l0 k (mn x1 x6) (mx x2 x6) (wrap64 (x3 + 1)) x4 x5 x6 x7) else (if x3 = 3 then (impl_rangeCorners.l0 k (mn x1 x7) (mx x2 x7) (wrap64 (x3 + 1)) x4 x5 x6 x7) else (none))))) else (some (x1, x2))
def impl_rangeCorners.f (k : Nat) (a0 : Int) (a1_0 : Int) (a1_1 : Int) (a2_0 : Int) (a2_1 : Int) : Option (Int × Int) := (impl_numExact.f k a0 a1_0 a2_0).bind fun t1 => ((impl_numExact.f k a0 a1_0 a2_1).bind fun t2 => ((impl_numExact.f k a0 a1_1 a2_0).bind fun t3 => ((impl_numExact.f k a0 a1_1 a2_1).bind fun t4 => (impl_rangeCorners.l0 k t1 t1 0 t1 t2 t3 t4))))
theorem impl_rangeCorners.mono_l : ∀ k, (∀ y0 y1 y2 y3 y4 y5 y6, LeO (impl_rangeCorners.l0 k y0 y1 y2 y3 y4 y5 y6) (impl_rangeCorners.l0 (k + 1) y0 y1 y2 y3 y4 y5 y6))
 | 0 => fun _ _ _ _ _ _ _ r h => by simp [impl_rangeCorners.l0] at h
 | k + 1 => by
  have ih0 := impl_rangeCorners.mono_l k
  ·intro y0 y1 y2 y3 y4 y5 y6
   unfold impl_rangeCorners.l0
   repeat' first | (with_reducible first | apply ih0 | apply impl_numExact.mono | apply LeO.refl | apply LeO.none | refine LeO.ite ?_ ?_ | refine LeO.bind ?_ (fun _ => ?_)) | apply ih0 | apply impl_numExact.mono | apply LeO.none | refine LeO.ite ?_ ?_ | refine LeO.bind ?_ (fun _ => ?_)
theorem impl_rangeCorners.mono : ∀ a0 a1 a2 a3 a4 k, LeO (impl_rangeCorners.f k a0 a1 a2 a3 a4) (impl_rangeCorners.f (k + 1) a0 a1 a2 a3 a4) := by
 intro a0 a1 a2 a3 a4 k
 have ih0 := impl_rangeCorners.mono_l k
 unfold impl_rangeCorners.f
 repeat' first | (with_reducible first | apply ih0 | apply impl_numExact.mono | apply LeO.refl | apply LeO.none | refine LeO.ite ?_ ?_ | refine LeO.bind ?_ (fun _ => ?_)) | apply ih0 | apply impl_numExact.mono | apply LeO.none | refine LeO.ite ?_ ?_ | refine LeO.bind ?_ (fun _ => ?_)
def impl_rangeCorners.T1 : Bool × List (List Nat × List Nat) := (true, [([], []), ([], []), ([1], [1]), ([], []), ([3], [3]), ([0, 2, 4], [0, 2, 4]), ([], []), ([], []), ([7], [7]), ([], []), ([9], [9]), ([6, 8, 10, 5], [6, 8, 10]), ([], []), ([], []), ([13], [13]), ([], []), ([15], [15]), ([12, 14, 16, 11], [12, 14, 16]), ([], []), ([], []), ([19], [19]), ([], []), ([21], [21]), ([18, 20, 22, 17], [18, 20, 22]), ([5, 11, 17, 23], [5, 11, 17, 23]), ([], []), ([25, 24, 23, 0, 1, 2, 3, 4, 5, 6, 7, 8, 9, 10, 11, 12, 13, 14, 15, 16, 17, 18, 19, 20, 21, 22, 23, 24, 25], [24, 25])])
def impl_rangeCorners.B1 : List Nat := [0, 0, 2, 0, 8, 31, 0, 0, 128, 0, 512, 2047, 0, 0, 8192, 0, 32768, 131071, 0, 0, 524288, 0, 2097152, 8388607, 16777215, 0, 67108863]
theorem impl_rangeCorners.tab1 : rtab .any (opsOf Try.f49 1) = impl_rangeCorners.T1 := by kernel_rfl
theorem impl_rangeCorners.bits1 : waitsOk impl_rangeCorners.T1.2 impl_rangeCorners.B1 = true := by kernel_rfl
set_option maxHeartbeats 8000000 in
set_option maxRecDepth 100000 in
theorem impl_rangeCorners.calls (k : Nat) (a0 : Int) (a1_0 : Int) (a1_1 : Int) (a2_0 : Int) (a2_1 : Int) (r1 : Int) (r2 : Int) (w : World) (h : impl_rangeCorners.f k a0 a1_0 a1_1 a2_0 a2_1 = some (r1, r2)) :
  Calls Try.prog 49 #[.int .i64 a0, .agg #[.int .i64 a1_0, .int .i64 a1_1], .agg #[.int .i64 a2_0, .int .i64 a2_1]] w fun e w' => e = .returned (.tuple #[.int .i64 r1, .int .i64 r2]) ∧ Below w.heap.size w w' := by
 have hu24 := Try.underlying24
 have hu95 := Try.underlying95
 have HB := am (Below.refl w.heap.size w)
 have H : ((impl_numExact.f k a0 a1_0 a2_0).bind fun t1 => ((impl_numExact.f k a0 a1_0 a2_1).bind fun t2 => ((impl_numExact.f k a0 a1_1 a2_0).bind fun t3 => ((impl_numExact.f k a0 a1_1 a2_1).bind fun t4 => (impl_rangeCorners.l0 k t1 t1 0 t1 t2 t3 t4))))) = some (r1, r2) := h
 clear h
 obtain ⟨t1, A1, H⟩ := bd H
 try dsimp only at H
 obtain ⟨t2, A2, H⟩ := bd H
 try dsimp only at H
 obtain ⟨t3, A3, H⟩ := bd H
 try dsimp only at H
 obtain ⟨t4, A4, H⟩ := bd H
 try dsimp only at H
 have H' := am H
 clear H
 go_enter Try.func49, Try.ntmps49
 try go_wp2_with (first | ((with_reducible refine gate_dst (N := 4) rfl ?_); refine bxn 4 #[.int .i64 a1_0, .int .i64 a1_1] 24 HB fun g1 w2 K1 G1 hg hb => ?_; replace HB := am (below_step (YA HB) hb); clear hb hg) | ((with_reducible refine gate_dst (N := 5) rfl ?_); refine bxn 5 #[.int .i64 a2_0, .int .i64 a2_1] 24 HB fun g2 w3 K2 G2 hg hb => ?_; obtain ⟨N1,N2⟩ := ne_ hg K1; obtain ⟨K1, HB⟩ := bk1 K1 HB hb; clear hb hg))
 obtain ⟨K1, K2, HB⟩ := dk2 K1 K2 HB
 refine start_ (n := 27) (S := fun w' => w'.cell? ⟨g1, 0, none⟩ = some (.int .i64 a1_0) ∧ w'.cell? ⟨g1, 1, none⟩ = some (.int .i64 a1_1) ∧ w'.cell? ⟨g2, 0, none⟩ = some (.int .i64 a2_0) ∧ w'.cell? ⟨g2, 1, none⟩ = some (.int .i64 a2_1)) (ds := []) (lb 27 0) (by kernel_rfl) rfl rfl ⟨bc K1 0, bc K1 1, bc K2 0, bc K2 1⟩ (fun hHeld => ?_); refine with_tabW impl_rangeCorners.tab1 impl_rangeCorners.bits1 (fun HT_ HW_ => ?_)
 generalize w3.drew = w4 at K1 K2 HB hHeld ⊢
 refine pk 0 13 1 ?_
 refine pk 1 14 3 ?_
 refine pk 3 16 11 ?_
 refine pk 6 19 75 ?_
 refine pk 7 20 203 ?_
 refine pk 9 22 715 ?_
 refine pk 12 25 4811 ?_
 refine pk 13 26 13003 ?_
 refine pk 15 28 45771 ?_
 refine pk 18 31 307915 ?_
 refine pk 19 32 832203 ?_
 refine pk 21 34 2929355 ?_
 refine tk 2 15 2929359 hHeld ?_
 refine tk 4 17 2929375 hHeld ?_
 refine tk 8 21 2929631 hHeld ?_
 refine tk 10 23 2930655 hHeld ?_
 refine tk 14 27 2947039 hHeld ?_
 refine tk 16 29 3012575 hHeld ?_
 refine tk 20 33 4061151 hHeld ?_
 refine tk 22 35 8255455 hHeld ?_
 refine join_ (σ := Nat) 1 (lb 27 67108863) (fun s_ => [(18, .int .i64 t1), (24, .int .i64 t2), (30, .int .i64 t3), (36, .int .i64 t4), (8, .pointer (some ⟨s_, 0, none⟩)), (37, .agg #[.int .i64 t1, .int .i64 t2, .int .i64 t3, .int .i64 t4])]) (fun s_ w' => (w'.cell? ⟨g1, 0, none⟩ = some (.int .i64 a1_0) ∧ w'.cell? ⟨g1, 1, none⟩ = some (.int .i64 a1_1) ∧ w'.cell? ⟨g2, 0, none⟩ = some (.int .i64 a2_0) ∧ w'.cell? ⟨g2, 1, none⟩ = some (.int .i64 a2_1)) ∧ (w'.heap[g1]? = some (.cells #[.int .i64 a1_0, .int .i64 a1_1] 24 (0, 0))) ∧ (w'.heap[g2]? = some (.cells #[.int .i64 a2_0, .int .i64 a2_1] 24 (0, 0))) ∧ (w'.heap[s_]? = some (.cells #[.int .i64 0, .int .i64 0, .int .i64 0, .int .i64 0] 95 (0, 0))) ∧ (w.heap.size ≤ s_) ∧ (w.heap.size ≤ s_) ∧ (g1 ≠ s_) ∧ (s_ ≠ g1) ∧ (g2 ≠ s_) ∧ (s_ ≠ g2) ∧ (Below w.heap.size w w')) ?_ ?_
 rotate_left
 ·intro hJ5_11_17_23_25
  refine join_ (σ := Unit) 2 (lb 27 33554431) (fun s_ => [(18, .int .i64 t1), (24, .int .i64 t2), (30, .int .i64 t3), (36, .int .i64 t4), (37, .agg #[.int .i64 t1, .int .i64 t2, .int .i64 t3, .int .i64 t4])]) (fun s_ w' => (w'.cell? ⟨g1, 0, none⟩ = some (.int .i64 a1_0) ∧ w'.cell? ⟨g1, 1, none⟩ = some (.int .i64 a1_1) ∧ w'.cell? ⟨g2, 0, none⟩ = some (.int .i64 a2_0) ∧ w'.cell? ⟨g2, 1, none⟩ = some (.int .i64 a2_1)) ∧ (w'.heap[g1]? = some (.cells #[.int .i64 a1_0, .int .i64 a1_1] 24 (0, 0))) ∧ (w'.heap[g2]? = some (.cells #[.int .i64 a2_0, .int .i64 a2_1] 24 (0, 0))) ∧ (Below w.heap.size w w')) ?_ ?_
  rotate_left
  rotate_left
  ·skip
   rintro _ w5 ⟨hS_, h0_, h1_, h2_⟩
   replace K1 : Bx2 w5 g1 a1_0 a1_1 24 := ⟨h0_⟩
   replace K2 : Bx2 w5 g2 a2_0 a2_1 24 := ⟨h1_⟩
   replace HB : Aside0 (Below w.heap.size w w5) := ⟨h2_⟩
   clear h0_ h1_ h2_
   have hHeld : w5.cell? ⟨g1, 0, none⟩ = some (.int .i64 a1_0) ∧ w5.cell? ⟨g1, 1, none⟩ = some (.int .i64 a1_1) ∧ w5.cell? ⟨g2, 0, none⟩ = some (.int .i64 a2_0) ∧ w5.cell? ⟨g2, 1, none⟩ = some (.int .i64 a2_1) := hS_
   refine norm_ (a' := ?_) ?_ ?_
   rotate_left
   ·simp only [putAll, Act.put, List.setIfInBounds_toArray, List.set_cons_zero, List.set_cons_succ]
    rfl
   refine on 25 (some 8) 67108863 fun K hK => ?_
   refine box_step ?hg (N := 8) ?hd (cs := #[.int .i64 0, .int .i64 0, .int .i64 0, .int .i64 0]) (t := 95) ?hr ?_; (case hd => rfl); (case hg => rfl); (case hr => first | (go_simp; done) | (go_simp; rfl))
   intro g3 hg w6 hbox hb
   have K3 := am (hbox)
   have G3 := am (bs hg (YA HB))
   have G4 := am (bs hg (YA HB))
   obtain ⟨N3,N4⟩ := ne_ hg K1
   obtain ⟨N5,N6⟩ := ne_ hg K2
   obtain ⟨K1, K2, HB⟩ := bk2 K1 K2 HB hb
   clear hb hbox hg
   refine kk hK ⟨bc K1 0, bc K1 1, bc K2 0, bc K2 1⟩ fun hHeld => ?_
   clear hK K
   exact norm_ nz (hJ5_11_17_23_25 (g3) _ ⟨hHeld, (Z K1), (Z K2), (Z K3), G3.out, G4.out, N3.out, N4.out, N5.out, N6.out, (YA HB)⟩)
  intro hJ5_11_17_23
  refine join_ (σ := Nat) 3 (lb 27 41943039) (fun s_ => [(18, .int .i64 t1), (24, .int .i64 t2), (30, .int .i64 t3), (8, .pointer (some ⟨s_, 0, none⟩))]) (fun s_ w' => (w'.cell? ⟨g1, 0, none⟩ = some (.int .i64 a1_0) ∧ w'.cell? ⟨g1, 1, none⟩ = some (.int .i64 a1_1) ∧ w'.cell? ⟨g2, 0, none⟩ = some (.int .i64 a2_0) ∧ w'.cell? ⟨g2, 1, none⟩ = some (.int .i64 a2_1)) ∧ (w'.heap[g1]? = some (.cells #[.int .i64 a1_0, .int .i64 a1_1] 24 (0, 0))) ∧ (w'.heap[g2]? = some (.cells #[.int .i64 a2_0, .int .i64 a2_1] 24 (0, 0))) ∧ (w'.heap[s_]? = some (.cells #[.int .i64 0, .int .i64 0, .int .i64 0, .int .i64 0] 95 (0, 0))) ∧ (w.heap.size ≤ s_) ∧ (w.heap.size ≤ s_) ∧ (g1 ≠ s_) ∧ (s_ ≠ g1) ∧ (g2 ≠ s_) ∧ (s_ ≠ g2) ∧ (Below w.heap.size w w')) ?_ ?_
  rotate_left
  rotate_left
  ·skip
   rintro g3 w5 ⟨hS_, h0_, h1_, h2_, h3_, h4_, h5_, h6_, h7_, h8_, h9_⟩
   have K3 : Bx4 w5 g3 0 0 0 0 95 := ⟨h2_⟩
   have G3 : Aside0 (w.heap.size ≤ g3) := ⟨h3_⟩
   have G4 : Aside0 (w.heap.size ≤ g3) := ⟨h4_⟩
   have N3 : Aside0 (g1 ≠ g3) := ⟨h5_⟩
   have N4 : Aside0 (g3 ≠ g1) := ⟨h6_⟩
   have N5 : Aside0 (g2 ≠ g3) := ⟨h7_⟩
   have N6 : Aside0 (g3 ≠ g2) := ⟨h8_⟩
   replace K1 : Bx2 w5 g1 a1_0 a1_1 24 := ⟨h0_⟩
   replace K2 : Bx2 w5 g2 a2_0 a2_1 24 := ⟨h1_⟩
   replace HB : Aside0 (Below w.heap.size w w5) := ⟨h9_⟩
   clear h0_ h1_ h2_ h3_ h4_ h5_ h6_ h7_ h8_ h9_
   have hHeld : w5.cell? ⟨g1, 0, none⟩ = some (.int .i64 a1_0) ∧ w5.cell? ⟨g1, 1, none⟩ = some (.int .i64 a1_1) ∧ w5.cell? ⟨g2, 0, none⟩ = some (.int .i64 a2_0) ∧ w5.cell? ⟨g2, 1, none⟩ = some (.int .i64 a2_1) := hS_
   refine norm_ (a' := ?_) ?_ ?_
   rotate_left
   ·simp only [putAll, Act.put, List.setIfInBounds_toArray, List.set_cons_zero, List.set_cons_succ]
    rfl
   refine on 23 (some 36) 50331647 fun K hK => ?_
   refine goes_ Try.func61 (by kernel_rfl) rfl #[.int .i64 a0, .int .i64 a1_1, .int .i64 a2_1] (by rfl) rfl rfl mz ?_
   with_reducible refine (impl_numExact.calls _ _ _ _ _ _ A4.out).mono ?_
   rintro e w' ⟨rfl, ⟨nd, rfl⟩⟩
   refine ⟨_, rfl, ?_⟩
   refine kk hK ⟨bc K1 0, bc K1 1, bc K2 0, bc K2 1⟩ fun hHeld => ?_
   clear hK K
   refine pk 24 37 67108863 ?_
   exact norm_ nz (hJ5_11_17_23_25 (g3) _ ⟨hHeld, (Z K1), (Z K2), (Z K3), G3.out, G4.out, N3.out, N4.out, N5.out, N6.out, (YA HB)⟩)
  intro hJ5_11_17_25
  refine join_ (σ := Unit) 4 (lb 27 8388607) (fun s_ => [(18, .int .i64 t1), (24, .int .i64 t2), (30, .int .i64 t3)]) (fun s_ w' => (w'.cell? ⟨g1, 0, none⟩ = some (.int .i64 a1_0) ∧ w'.cell? ⟨g1, 1, none⟩ = some (.int .i64 a1_1) ∧ w'.cell? ⟨g2, 0, none⟩ = some (.int .i64 a2_0) ∧ w'.cell? ⟨g2, 1, none⟩ = some (.int .i64 a2_1)) ∧ (w'.heap[g1]? = some (.cells #[.int .i64 a1_0, .int .i64 a1_1] 24 (0, 0))) ∧ (w'.heap[g2]? = some (.cells #[.int .i64 a2_0, .int .i64 a2_1] 24 (0, 0))) ∧ (Below w.heap.size w w')) ?_ ?_
  rotate_left
  rotate_left
  ·skip
   rintro _ w5 ⟨hS_, h0_, h1_, h2_⟩
   replace K1 : Bx2 w5 g1 a1_0 a1_1 24 := ⟨h0_⟩
   replace K2 : Bx2 w5 g2 a2_0 a2_1 24 := ⟨h1_⟩
   replace HB : Aside0 (Below w.heap.size w w5) := ⟨h2_⟩
   clear h0_ h1_ h2_
   have hHeld : w5.cell? ⟨g1, 0, none⟩ = some (.int .i64 a1_0) ∧ w5.cell? ⟨g1, 1, none⟩ = some (.int .i64 a1_1) ∧ w5.cell? ⟨g2, 0, none⟩ = some (.int .i64 a2_0) ∧ w5.cell? ⟨g2, 1, none⟩ = some (.int .i64 a2_1) := hS_
   refine norm_ (a' := ?_) ?_ ?_
   rotate_left
   ·simp only [putAll, Act.put, List.setIfInBounds_toArray, List.set_cons_zero, List.set_cons_succ]
    rfl
   refine two_ (i := 23) (j := 25) (Ni := some 36) (Nj := some 8) (lb 27 16777215) (lb 27 41943039) rfl rfl rfl rfl (two_of HT_.out (by kernel_rfl)) (by decide) (by decide) (fun K hK => ?_) (fun K hK => ?_)
   ·skip
    refine goes_ Try.func61 (by kernel_rfl) rfl #[.int .i64 a0, .int .i64 a1_1, .int .i64 a2_1] (by rfl) rfl rfl mz ?_
    with_reducible refine (impl_numExact.calls _ _ _ _ _ _ A4.out).mono ?_
    rintro e w' ⟨rfl, ⟨nd, rfl⟩⟩
    refine ⟨_, rfl, ?_⟩
    refine kk hK ⟨bc K1 0, bc K1 1, bc K2 0, bc K2 1⟩ fun hHeld => ?_
    clear hK K
    refine pk 24 37 33554431 ?_
    exact norm_ nz (hJ5_11_17_23 () _ ⟨hHeld, (Z K1), (Z K2), (YA HB)⟩)
   skip
   refine box_step ?hg (N := 8) ?hd (cs := #[.int .i64 0, .int .i64 0, .int .i64 0, .int .i64 0]) (t := 95) ?hr ?_; (case hd => rfl); (case hg => rfl); (case hr => first | (go_simp; done) | (go_simp; rfl))
   intro g3 hg w6 hbox hb
   have K3 := am (hbox)
   have G3 := am (bs hg (YA HB))
   have G4 := am (bs hg (YA HB))
   obtain ⟨N3,N4⟩ := ne_ hg K1
   obtain ⟨N5,N6⟩ := ne_ hg K2
   obtain ⟨K1, K2, HB⟩ := bk2 K1 K2 HB hb
   clear hb hbox hg
   refine kk hK ⟨bc K1 0, bc K1 1, bc K2 0, bc K2 1⟩ fun hHeld => ?_
   clear hK K
   exact norm_ nz (hJ5_11_17_25 (g3) _ ⟨hHeld, (Z K1), (Z K2), (Z K3), G3.out, G4.out, N3.out, N4.out, N5.out, N6.out, (YA HB)⟩)
  intro hJ5_11_17
  refine join_ (σ := Nat) 4 (lb 27 41811967) (fun s_ => [(18, .int .i64 t1), (24, .int .i64 t2), (8, .pointer (some ⟨s_, 0, none⟩))]) (fun s_ w' => (w'.cell? ⟨g1, 0, none⟩ = some (.int .i64 a1_0) ∧ w'.cell? ⟨g1, 1, none⟩ = some (.int .i64 a1_1) ∧ w'.cell? ⟨g2, 0, none⟩ = some (.int .i64 a2_0) ∧ w'.cell? ⟨g2, 1, none⟩ = some (.int .i64 a2_1)) ∧ (w'.heap[g1]? = some (.cells #[.int .i64 a1_0, .int .i64 a1_1] 24 (0, 0))) ∧ (w'.heap[g2]? = some (.cells #[.int .i64 a2_0, .int .i64 a2_1] 24 (0, 0))) ∧ (w'.heap[s_]? = some (.cells #[.int .i64 0, .int .i64 0, .int .i64 0, .int .i64 0] 95 (0, 0))) ∧ (w.heap.size ≤ s_) ∧ (w.heap.size ≤ s_) ∧ (g1 ≠ s_) ∧ (s_ ≠ g1) ∧ (g2 ≠ s_) ∧ (s_ ≠ g2) ∧ (Below w.heap.size w w')) ?_ ?_
  rotate_left
  rotate_left
  ·skip
   rintro g3 w5 ⟨hS_, h0_, h1_, h2_, h3_, h4_, h5_, h6_, h7_, h8_, h9_⟩
   have K3 : Bx4 w5 g3 0 0 0 0 95 := ⟨h2_⟩
   have G3 : Aside0 (w.heap.size ≤ g3) := ⟨h3_⟩
   have G4 : Aside0 (w.heap.size ≤ g3) := ⟨h4_⟩
   have N3 : Aside0 (g1 ≠ g3) := ⟨h5_⟩
   have N4 : Aside0 (g3 ≠ g1) := ⟨h6_⟩
   have N5 : Aside0 (g2 ≠ g3) := ⟨h7_⟩
   have N6 : Aside0 (g3 ≠ g2) := ⟨h8_⟩
   replace K1 : Bx2 w5 g1 a1_0 a1_1 24 := ⟨h0_⟩
   replace K2 : Bx2 w5 g2 a2_0 a2_1 24 := ⟨h1_⟩
   replace HB : Aside0 (Below w.heap.size w w5) := ⟨h9_⟩
   clear h0_ h1_ h2_ h3_ h4_ h5_ h6_ h7_ h8_ h9_
   have hHeld : w5.cell? ⟨g1, 0, none⟩ = some (.int .i64 a1_0) ∧ w5.cell? ⟨g1, 1, none⟩ = some (.int .i64 a1_1) ∧ w5.cell? ⟨g2, 0, none⟩ = some (.int .i64 a2_0) ∧ w5.cell? ⟨g2, 1, none⟩ = some (.int .i64 a2_1) := hS_
   refine norm_ (a' := ?_) ?_ ?_
   rotate_left
   ·simp only [putAll, Act.put, List.setIfInBounds_toArray, List.set_cons_zero, List.set_cons_succ]
    rfl
   refine on 17 (some 30) 41943039 fun K hK => ?_
   refine goes_ Try.func61 (by kernel_rfl) rfl #[.int .i64 a0, .int .i64 a1_1, .int .i64 a2_0] (by rfl) rfl rfl mz ?_
   with_reducible refine (impl_numExact.calls _ _ _ _ _ _ A3.out).mono ?_
   rintro e w' ⟨rfl, ⟨nd, rfl⟩⟩
   refine ⟨_, rfl, ?_⟩
   refine kk hK ⟨bc K1 0, bc K1 1, bc K2 0, bc K2 1⟩ fun hHeld => ?_
   clear hK K
   exact norm_ nz (hJ5_11_17_25 (g3) _ ⟨hHeld, (Z K1), (Z K2), (Z K3), G3.out, G4.out, N3.out, N4.out, N5.out, N6.out, (YA HB)⟩)
  intro hJ5_11_25
  refine join_ (σ := Unit) 5 (lb 27 8257535) (fun s_ => [(18, .int .i64 t1), (24, .int .i64 t2)]) (fun s_ w' => (w'.cell? ⟨g1, 0, none⟩ = some (.int .i64 a1_0) ∧ w'.cell? ⟨g1, 1, none⟩ = some (.int .i64 a1_1) ∧ w'.cell? ⟨g2, 0, none⟩ = some (.int .i64 a2_0) ∧ w'.cell? ⟨g2, 1, none⟩ = some (.int .i64 a2_1)) ∧ (w'.heap[g1]? = some (.cells #[.int .i64 a1_0, .int .i64 a1_1] 24 (0, 0))) ∧ (w'.heap[g2]? = some (.cells #[.int .i64 a2_0, .int .i64 a2_1] 24 (0, 0))) ∧ (Below w.heap.size w w')) ?_ ?_
  rotate_left
  rotate_left
  ·skip
   rintro _ w5 ⟨hS_, h0_, h1_, h2_⟩
   replace K1 : Bx2 w5 g1 a1_0 a1_1 24 := ⟨h0_⟩
   replace K2 : Bx2 w5 g2 a2_0 a2_1 24 := ⟨h1_⟩
   replace HB : Aside0 (Below w.heap.size w w5) := ⟨h2_⟩
   clear h0_ h1_ h2_
   have hHeld : w5.cell? ⟨g1, 0, none⟩ = some (.int .i64 a1_0) ∧ w5.cell? ⟨g1, 1, none⟩ = some (.int .i64 a1_1) ∧ w5.cell? ⟨g2, 0, none⟩ = some (.int .i64 a2_0) ∧ w5.cell? ⟨g2, 1, none⟩ = some (.int .i64 a2_1) := hS_
   refine norm_ (a' := ?_) ?_ ?_
   rotate_left
   ·simp only [putAll, Act.put, List.setIfInBounds_toArray, List.set_cons_zero, List.set_cons_succ]
    rfl
   refine two_ (i := 17) (j := 25) (Ni := some 30) (Nj := some 8) (lb 27 8388607) (lb 27 41811967) rfl rfl rfl rfl (two_of HT_.out (by kernel_rfl)) (by decide) (by decide) (fun K hK => ?_) (fun K hK => ?_)
   ·skip
    refine goes_ Try.func61 (by kernel_rfl) rfl #[.int .i64 a0, .int .i64 a1_1, .int .i64 a2_0] (by rfl) rfl rfl mz ?_
    with_reducible refine (impl_numExact.calls _ _ _ _ _ _ A3.out).mono ?_
    rintro e w' ⟨rfl, ⟨nd, rfl⟩⟩
    refine ⟨_, rfl, ?_⟩
    refine kk hK ⟨bc K1 0, bc K1 1, bc K2 0, bc K2 1⟩ fun hHeld => ?_
    clear hK K
    exact norm_ nz (hJ5_11_17 () _ ⟨hHeld, (Z K1), (Z K2), (YA HB)⟩)
   skip
   refine box_step ?hg (N := 8) ?hd (cs := #[.int .i64 0, .int .i64 0, .int .i64 0, .int .i64 0]) (t := 95) ?hr ?_; (case hd => rfl); (case hg => rfl); (case hr => first | (go_simp; done) | (go_simp; rfl))
   intro g3 hg w6 hbox hb
   have K3 := am (hbox)
   have G3 := am (bs hg (YA HB))
   have G4 := am (bs hg (YA HB))
   obtain ⟨N3,N4⟩ := ne_ hg K1
   obtain ⟨N5,N6⟩ := ne_ hg K2
   obtain ⟨K1, K2, HB⟩ := bk2 K1 K2 HB hb
   clear hb hbox hg
   refine kk hK ⟨bc K1 0, bc K1 1, bc K2 0, bc K2 1⟩ fun hHeld => ?_
   clear hK K
   exact norm_ nz (hJ5_11_25 (g3) _ ⟨hHeld, (Z K1), (Z K2), (Z K3), G3.out, G4.out, N3.out, N4.out, N5.out, N6.out, (YA HB)⟩)
  intro hJ5_11
  refine join_ (σ := Nat) 5 (lb 27 41809919) (fun s_ => [(18, .int .i64 t1), (8, .pointer (some ⟨s_, 0, none⟩))]) (fun s_ w' => (w'.cell? ⟨g1, 0, none⟩ = some (.int .i64 a1_0) ∧ w'.cell? ⟨g1, 1, none⟩ = some (.int .i64 a1_1) ∧ w'.cell? ⟨g2, 0, none⟩ = some (.int .i64 a2_0) ∧ w'.cell? ⟨g2, 1, none⟩ = some (.int .i64 a2_1)) ∧ (w'.heap[g1]? = some (.cells #[.int .i64 a1_0, .int .i64 a1_1] 24 (0, 0))) ∧ (w'.heap[g2]? = some (.cells #[.int .i64 a2_0, .int .i64 a2_1] 24 (0, 0))) ∧ (w'.heap[s_]? = some (.cells #[.int .i64 0, .int .i64 0, .int .i64 0, .int .i64 0] 95 (0, 0))) ∧ (w.heap.size ≤ s_) ∧ (w.heap.size ≤ s_) ∧ (g1 ≠ s_) ∧ (s_ ≠ g1) ∧ (g2 ≠ s_) ∧ (s_ ≠ g2) ∧ (Below w.heap.size w w')) ?_ ?_
  rotate_left
  rotate_left
  ·skip
   rintro g3 w5 ⟨hS_, h0_, h1_, h2_, h3_, h4_, h5_, h6_, h7_, h8_, h9_⟩
   have K3 : Bx4 w5 g3 0 0 0 0 95 := ⟨h2_⟩
   have G3 : Aside0 (w.heap.size ≤ g3) := ⟨h3_⟩
   have G4 : Aside0 (w.heap.size ≤ g3) := ⟨h4_⟩
   have N3 : Aside0 (g1 ≠ g3) := ⟨h5_⟩
   have N4 : Aside0 (g3 ≠ g1) := ⟨h6_⟩
   have N5 : Aside0 (g2 ≠ g3) := ⟨h7_⟩
   have N6 : Aside0 (g3 ≠ g2) := ⟨h8_⟩
   replace K1 : Bx2 w5 g1 a1_0 a1_1 24 := ⟨h0_⟩
   replace K2 : Bx2 w5 g2 a2_0 a2_1 24 := ⟨h1_⟩
   replace HB : Aside0 (Below w.heap.size w w5) := ⟨h9_⟩
   clear h0_ h1_ h2_ h3_ h4_ h5_ h6_ h7_ h8_ h9_
   have hHeld : w5.cell? ⟨g1, 0, none⟩ = some (.int .i64 a1_0) ∧ w5.cell? ⟨g1, 1, none⟩ = some (.int .i64 a1_1) ∧ w5.cell? ⟨g2, 0, none⟩ = some (.int .i64 a2_0) ∧ w5.cell? ⟨g2, 1, none⟩ = some (.int .i64 a2_1) := hS_
   refine norm_ (a' := ?_) ?_ ?_
   rotate_left
   ·simp only [putAll, Act.put, List.setIfInBounds_toArray, List.set_cons_zero, List.set_cons_succ]
    rfl
   refine on 11 (some 24) 41811967 fun K hK => ?_
   refine goes_ Try.func61 (by kernel_rfl) rfl #[.int .i64 a0, .int .i64 a1_0, .int .i64 a2_1] (by rfl) rfl rfl mz ?_
   with_reducible refine (impl_numExact.calls _ _ _ _ _ _ A2.out).mono ?_
   rintro e w' ⟨rfl, ⟨nd, rfl⟩⟩
   refine ⟨_, rfl, ?_⟩
   refine kk hK ⟨bc K1 0, bc K1 1, bc K2 0, bc K2 1⟩ fun hHeld => ?_
   clear hK K
   exact norm_ nz (hJ5_11_25 (g3) _ ⟨hHeld, (Z K1), (Z K2), (Z K3), G3.out, G4.out, N3.out, N4.out, N5.out, N6.out, (YA HB)⟩)
  intro hJ5_25
  refine join_ (σ := Unit) 6 (lb 27 8255487) (fun s_ => [(18, .int .i64 t1)]) (fun s_ w' => (w'.cell? ⟨g1, 0, none⟩ = some (.int .i64 a1_0) ∧ w'.cell? ⟨g1, 1, none⟩ = some (.int .i64 a1_1) ∧ w'.cell? ⟨g2, 0, none⟩ = some (.int .i64 a2_0) ∧ w'.cell? ⟨g2, 1, none⟩ = some (.int .i64 a2_1)) ∧ (w'.heap[g1]? = some (.cells #[.int .i64 a1_0, .int .i64 a1_1] 24 (0, 0))) ∧ (w'.heap[g2]? = some (.cells #[.int .i64 a2_0, .int .i64 a2_1] 24 (0, 0))) ∧ (Below w.heap.size w w')) ?_ ?_
  rotate_left
  rotate_left
  ·skip
   rintro _ w5 ⟨hS_, h0_, h1_, h2_⟩
   replace K1 : Bx2 w5 g1 a1_0 a1_1 24 := ⟨h0_⟩
   replace K2 : Bx2 w5 g2 a2_0 a2_1 24 := ⟨h1_⟩
   replace HB : Aside0 (Below w.heap.size w w5) := ⟨h2_⟩
   clear h0_ h1_ h2_
   have hHeld : w5.cell? ⟨g1, 0, none⟩ = some (.int .i64 a1_0) ∧ w5.cell? ⟨g1, 1, none⟩ = some (.int .i64 a1_1) ∧ w5.cell? ⟨g2, 0, none⟩ = some (.int .i64 a2_0) ∧ w5.cell? ⟨g2, 1, none⟩ = some (.int .i64 a2_1) := hS_
   refine norm_ (a' := ?_) ?_ ?_
   rotate_left
   ·simp only [putAll, Act.put, List.setIfInBounds_toArray, List.set_cons_zero, List.set_cons_succ]
    rfl
   refine two_ (i := 11) (j := 25) (Ni := some 24) (Nj := some 8) (lb 27 8257535) (lb 27 41809919) rfl rfl rfl rfl (two_of HT_.out (by kernel_rfl)) (by decide) (by decide) (fun K hK => ?_) (fun K hK => ?_)
   ·skip
    refine goes_ Try.func61 (by kernel_rfl) rfl #[.int .i64 a0, .int .i64 a1_0, .int .i64 a2_1] (by rfl) rfl rfl mz ?_
    with_reducible refine (impl_numExact.calls _ _ _ _ _ _ A2.out).mono ?_
    rintro e w' ⟨rfl, ⟨nd, rfl⟩⟩
    refine ⟨_, rfl, ?_⟩
    refine kk hK ⟨bc K1 0, bc K1 1, bc K2 0, bc K2 1⟩ fun hHeld => ?_
    clear hK K
    exact norm_ nz (hJ5_11 () _ ⟨hHeld, (Z K1), (Z K2), (YA HB)⟩)
   skip
   refine box_step ?hg (N := 8) ?hd (cs := #[.int .i64 0, .int .i64 0, .int .i64 0, .int .i64 0]) (t := 95) ?hr ?_; (case hd => rfl); (case hg => rfl); (case hr => first | (go_simp; done) | (go_simp; rfl))
   intro g3 hg w6 hbox hb
   have K3 := am (hbox)
   have G3 := am (bs hg (YA HB))
   have G4 := am (bs hg (YA HB))
   obtain ⟨N3,N4⟩ := ne_ hg K1
   obtain ⟨N5,N6⟩ := ne_ hg K2
   obtain ⟨K1, K2, HB⟩ := bk2 K1 K2 HB hb
   clear hb hbox hg
   refine kk hK ⟨bc K1 0, bc K1 1, bc K2 0, bc K2 1⟩ fun hHeld => ?_
   clear hK K
   exact norm_ nz (hJ5_25 (g3) _ ⟨hHeld, (Z K1), (Z K2), (Z K3), G3.out, G4.out, N3.out, N4.out, N5.out, N6.out, (YA HB)⟩)
  intro hJ5
  refine join_ (σ := Nat) 6 (lb 27 41809887) (fun s_ => [(8, .pointer (some ⟨s_, 0, none⟩))]) (fun s_ w' => (w'.cell? ⟨g1, 0, none⟩ = some (.int .i64 a1_0) ∧ w'.cell? ⟨g1, 1, none⟩ = some (.int .i64 a1_1) ∧ w'.cell? ⟨g2, 0, none⟩ = some (.int .i64 a2_0) ∧ w'.cell? ⟨g2, 1, none⟩ = some (.int .i64 a2_1)) ∧ (w'.heap[g1]? = some (.cells #[.int .i64 a1_0, .int .i64 a1_1] 24 (0, 0))) ∧ (w'.heap[g2]? = some (.cells #[.int .i64 a2_0, .int .i64 a2_1] 24 (0, 0))) ∧ (w'.heap[s_]? = some (.cells #[.int .i64 0, .int .i64 0, .int .i64 0, .int .i64 0] 95 (0, 0))) ∧ (w.heap.size ≤ s_) ∧ (w.heap.size ≤ s_) ∧ (g1 ≠ s_) ∧ (s_ ≠ g1) ∧ (g2 ≠ s_) ∧ (s_ ≠ g2) ∧ (Below w.heap.size w w')) ?_ ?_
  rotate_left
  rotate_left
  ·skip
   rintro g3 w5 ⟨hS_, h0_, h1_, h2_, h3_, h4_, h5_, h6_, h7_, h8_, h9_⟩
   have K3 : Bx4 w5 g3 0 0 0 0 95 := ⟨h2_⟩
   have G3 : Aside0 (w.heap.size ≤ g3) := ⟨h3_⟩
   have G4 : Aside0 (w.heap.size ≤ g3) := ⟨h4_⟩
   have N3 : Aside0 (g1 ≠ g3) := ⟨h5_⟩
   have N4 : Aside0 (g3 ≠ g1) := ⟨h6_⟩
   have N5 : Aside0 (g2 ≠ g3) := ⟨h7_⟩
   have N6 : Aside0 (g3 ≠ g2) := ⟨h8_⟩
   replace K1 : Bx2 w5 g1 a1_0 a1_1 24 := ⟨h0_⟩
   replace K2 : Bx2 w5 g2 a2_0 a2_1 24 := ⟨h1_⟩
   replace HB : Aside0 (Below w.heap.size w w5) := ⟨h9_⟩
   clear h0_ h1_ h2_ h3_ h4_ h5_ h6_ h7_ h8_ h9_
   have hHeld : w5.cell? ⟨g1, 0, none⟩ = some (.int .i64 a1_0) ∧ w5.cell? ⟨g1, 1, none⟩ = some (.int .i64 a1_1) ∧ w5.cell? ⟨g2, 0, none⟩ = some (.int .i64 a2_0) ∧ w5.cell? ⟨g2, 1, none⟩ = some (.int .i64 a2_1) := hS_
   refine norm_ (a' := ?_) ?_ ?_
   rotate_left
   ·simp only [putAll, Act.put, List.setIfInBounds_toArray, List.set_cons_zero, List.set_cons_succ]
    rfl
   refine on 5 (some 18) 41809919 fun K hK => ?_
   refine goes_ Try.func61 (by kernel_rfl) rfl #[.int .i64 a0, .int .i64 a1_0, .int .i64 a2_0] (by rfl) rfl rfl mz ?_
   with_reducible refine (impl_numExact.calls _ _ _ _ _ _ A1.out).mono ?_
   rintro e w' ⟨rfl, ⟨nd, rfl⟩⟩
   refine ⟨_, rfl, ?_⟩
   refine kk hK ⟨bc K1 0, bc K1 1, bc K2 0, bc K2 1⟩ fun hHeld => ?_
   clear hK K
   exact norm_ nz (hJ5_25 (g3) _ ⟨hHeld, (Z K1), (Z K2), (Z K3), G3.out, G4.out, N3.out, N4.out, N5.out, N6.out, (YA HB)⟩)
  intro hJ25
  refine two_ (i := 5) (j := 25) (Ni := some 18) (Nj := some 8) (lb 27 8255487) (lb 27 41809887) rfl rfl rfl rfl (two_of HT_.out (by kernel_rfl)) (by decide) (by decide) (fun K hK => ?_) (fun K hK => ?_)
  ·skip
   refine goes_ Try.func61 (by kernel_rfl) rfl #[.int .i64 a0, .int .i64 a1_0, .int .i64 a2_0] (by rfl) rfl rfl mz ?_
   with_reducible refine (impl_numExact.calls _ _ _ _ _ _ A1.out).mono ?_
   rintro e w' ⟨rfl, ⟨nd, rfl⟩⟩
   refine ⟨_, rfl, ?_⟩
   refine kk hK ⟨bc K1 0, bc K1 1, bc K2 0, bc K2 1⟩ fun hHeld => ?_
   clear hK K
   exact norm_ nz (hJ5 () _ ⟨hHeld, (Z K1), (Z K2), (YA HB)⟩)
  skip
  refine box_step ?hg (N := 8) ?hd (cs := #[.int .i64 0, .int .i64 0, .int .i64 0, .int .i64 0]) (t := 95) ?hr ?_; (case hd => rfl); (case hg => rfl); (case hr => first | (go_simp; done) | (go_simp; rfl))
  intro g3 hg w5 hbox hb
  have K3 := am (hbox)
  have G3 := am (bs hg (YA HB))
  have G4 := am (bs hg (YA HB))
  obtain ⟨N3,N4⟩ := ne_ hg K1
  obtain ⟨N5,N6⟩ := ne_ hg K2
  obtain ⟨K1, K2, HB⟩ := bk2 K1 K2 HB hb
  clear hb hbox hg
  refine kk hK ⟨bc K1 0, bc K1 1, bc K2 0, bc K2 1⟩ fun hHeld => ?_
  clear hK K
  exact norm_ nz (hJ25 (g3) _ ⟨hHeld, (Z K1), (Z K2), (Z K3), G3.out, G4.out, N3.out, N4.out, N5.out, N6.out, (YA HB)⟩)
 rintro g3 w5 ⟨hS_, h0_, h1_, h2_, h3_, h4_, h5_, h6_, h7_, h8_, h9_⟩
 have K3 : Bx4 w5 g3 0 0 0 0 95 := ⟨h2_⟩
 have G3 : Aside0 (w.heap.size ≤ g3) := ⟨h3_⟩
 have G4 : Aside0 (w.heap.size ≤ g3) := ⟨h4_⟩
 have N3 : Aside0 (g1 ≠ g3) := ⟨h5_⟩
 have N4 : Aside0 (g3 ≠ g1) := ⟨h6_⟩
 have N5 : Aside0 (g2 ≠ g3) := ⟨h7_⟩
 have N6 : Aside0 (g3 ≠ g2) := ⟨h8_⟩
 replace K1 : Bx2 w5 g1 a1_0 a1_1 24 := ⟨h0_⟩
 replace K2 : Bx2 w5 g2 a2_0 a2_1 24 := ⟨h1_⟩
 replace HB : Aside0 (Below w.heap.size w w5) := ⟨h9_⟩
 clear h0_ h1_ h2_ h3_ h4_ h5_ h6_ h7_ h8_ h9_
 have hHeld : w5.cell? ⟨g1, 0, none⟩ = some (.int .i64 a1_0) ∧ w5.cell? ⟨g1, 1, none⟩ = some (.int .i64 a1_1) ∧ w5.cell? ⟨g2, 0, none⟩ = some (.int .i64 a2_0) ∧ w5.cell? ⟨g2, 1, none⟩ = some (.int .i64 a2_1) := hS_
 refine norm_ (a' := ?_) ?_ ?_
 rotate_left
 ·simp only [putAll, Act.put, List.setIfInBounds_toArray, List.set_cons_zero, List.set_cons_succ]
  rfl
 refine on 26 none 134217727 fun K hK => ?_
 have s4 : w5.cell? ⟨g3, 0, none⟩ = some (.int .i64 0) := bc K3 0
 have hfs13 := blk_frozen K3.out 0
 have z_ := ns4 N3 N5 N4 N6
 have s5 : w5.cell? ⟨g3, 1, none⟩ = some (.int .i64 0) := bc K3 1
 have hfs14 := blk_frozen K3.out 1
 have z_ := ns4 N3 N5 N4 N6
 have s6 : w5.cell? ⟨g3, 2, none⟩ = some (.int .i64 0) := bc K3 2
 have hfs15 := blk_frozen K3.out 2
 have z_ := ns4 N3 N5 N4 N6
 have s7 : w5.cell? ⟨g3, 3, none⟩ = some (.int .i64 0) := bc K3 3
 have hfs16 := blk_frozen K3.out 3
 have z_ := ns4 N3 N5 N4 N6
 refine skip_ (w1 := ?_) (by rfl) rfl ?_ ?_
 rotate_left
 ·go_simp
  rfl
 refine hK.out _ _ ⟨((cell_far (p := ⟨g3, _, none⟩) N3.out _).trans (((cell_far (p := ⟨g3, _, none⟩) N3.out _).trans (((cell_far (p := ⟨g3, _, none⟩) N3.out _).trans (((cell_far (p := ⟨g3, _, none⟩) N3.out _).trans (hHeld.1)))))))), ((cell_far (p := ⟨g3, _, none⟩) N3.out _).trans (((cell_far (p := ⟨g3, _, none⟩) N3.out _).trans (((cell_far (p := ⟨g3, _, none⟩) N3.out _).trans (((cell_far (p := ⟨g3, _, none⟩) N3.out _).trans (hHeld.2.1)))))))), ((cell_far (p := ⟨g3, _, none⟩) N5.out _).trans (((cell_far (p := ⟨g3, _, none⟩) N5.out _).trans (((cell_far (p := ⟨g3, _, none⟩) N5.out _).trans (((cell_far (p := ⟨g3, _, none⟩) N5.out _).trans (hHeld.2.2.1)))))))), ((cell_far (p := ⟨g3, _, none⟩) N5.out _).trans (((cell_far (p := ⟨g3, _, none⟩) N5.out _).trans (((cell_far (p := ⟨g3, _, none⟩) N5.out _).trans (((cell_far (p := ⟨g3, _, none⟩) N5.out _).trans (hHeld.2.2.2))))))))⟩ (fun hHeld => ?_)
 clear hK K
 refine done_ (done_of HT_.out (by kernel_rfl)) ?_
 try go_wp2
 have n0_ : Aside0 (((((w5.setCell ⟨g3, 0, none⟩ (.int .i64 t1)).setCell ⟨g3, 1, none⟩ (.int .i64 t2)).setCell ⟨g3, 2, none⟩ (.int .i64 t3)).setCell ⟨g3, 3, none⟩ (.int .i64 t4)).heap[g1]? = some (.cells #[.int .i64 a1_0, .int .i64 a1_1] 24 (0, 0))) := ⟨by refine fa N3 ?_; refine fa N3 ?_; refine fa N3 ?_; refine fa N3 ?_; exact Z K1⟩
 have n1_ : Aside0 (((((w5.setCell ⟨g3, 0, none⟩ (.int .i64 t1)).setCell ⟨g3, 1, none⟩ (.int .i64 t2)).setCell ⟨g3, 2, none⟩ (.int .i64 t3)).setCell ⟨g3, 3, none⟩ (.int .i64 t4)).heap[g2]? = some (.cells #[.int .i64 a2_0, .int .i64 a2_1] 24 (0, 0))) := ⟨by refine fa N5 ?_; refine fa N5 ?_; refine fa N5 ?_; refine fa N5 ?_; exact Z K2⟩
 have n2_ : Aside0 (((((w5.setCell ⟨g3, 0, none⟩ (.int .i64 t1)).setCell ⟨g3, 1, none⟩ (.int .i64 t2)).setCell ⟨g3, 2, none⟩ (.int .i64 t3)).setCell ⟨g3, 3, none⟩ (.int .i64 t4)).heap[g3]? = some (.cells #[.int .i64 t1, .int .i64 t2, .int .i64 t3, .int .i64 t4] 95 (0, 0))) := ⟨by refine pf ?_; refine blk_put (cs := #[.int .i64 t1, .int .i64 t2, .int .i64 t3, .int .i64 0]) ?_ 3 _ rfl; refine pf ?_; refine blk_put (cs := #[.int .i64 t1, .int .i64 t2, .int .i64 0, .int .i64 0]) ?_ 2 _ rfl; refine pf ?_; refine blk_put (cs := #[.int .i64 t1, .int .i64 0, .int .i64 0, .int .i64 0]) ?_ 1 _ rfl; refine pf ?_; refine blk_put (cs := #[.int .i64 0, .int .i64 0, .int .i64 0, .int .i64 0]) ?_ 0 _ rfl; exact Z K3⟩
 have n3_ : Aside0 (Below w.heap.size w ((((w5.setCell ⟨g3, 0, none⟩ (.int .i64 t1)).setCell ⟨g3, 1, none⟩ (.int .i64 t2)).setCell ⟨g3, 2, none⟩ (.int .i64 t3)).setCell ⟨g3, 3, none⟩ (.int .i64 t4))) := ⟨YA HB⟩
 (try clear K1)
 (try clear K2)
 (try clear K3)
 (try clear HB)
 generalize ((((w5.setCell ⟨g3, 0, none⟩ (.int .i64 t1)).setCell ⟨g3, 1, none⟩ (.int .i64 t2)).setCell ⟨g3, 2, none⟩ (.int .i64 t3)).setCell ⟨g3, 3, none⟩ (.int .i64 t4)) = w6 at n0_ n1_ n2_ n3_ ⊢
 have K1 := n0_
 have K2 := n1_
 have K3 := n2_
 have HB := n3_
 clear n0_ n1_ n2_ n3_
 obtain ⟨K1, K2, K3, HB⟩ := dk3 K1 K2 K3 HB
 refine start_ (n := 6) (S := fun w' => w'.cell? ⟨g3, 0, none⟩ = some (.int .i64 t1) ∧ w'.cell? ⟨g3, 1, none⟩ = some (.int .i64 t2) ∧ w'.cell? ⟨g3, 2, none⟩ = some (.int .i64 t3) ∧ w'.cell? ⟨g3, 3, none⟩ = some (.int .i64 t4)) (ds := []) (lb 6 0) (by kernel_rfl) rfl rfl ⟨bc K3 0, bc K3 1, bc K3 2, bc K3 3⟩ (fun hHeld => ?_)
 generalize w6.drew = w7 at K1 K2 K3 HB hHeld ⊢
 refine pure_ (i := 0) (N := some 38) (v := ?_) (a' := ?_) (lb 6 1) rfl rfl (by kernel_rfl) (fun _ _ _ h => h) (Or.inl ⟨by rfl, ?_⟩) ?_ ?_
 rotate_left
 ·exact gz
 rotate_left
 ·exact pz
 refine pure_ (i := 2) (N := some 40) (v := ?_) (a' := ?_) (lb 6 5) rfl rfl (by kernel_rfl) (fun _ _ _ h => h) (Or.inl ⟨by rfl, ?_⟩) ?_ ?_
 rotate_left
 ·exact gz
 rotate_left
 ·exact pz
 refine take_ (i := 1) (N := some 39) (v := ?_) (a' := ?_) (lb 6 7) rfl rfl (by kernel_rfl) (fun _ _ _ h => h) (Or.inl ⟨by rfl, ?_⟩) hHeld ?_ ?_
 rotate_left
 ·rintro w' ⟨s0, s1, s2, s3⟩
  go_simp
  with_reducible rfl
 rotate_left
 ·exact pz
 refine pure_ (i := 4) (N := some 9) (v := ?_) (a' := ?_) (lb 6 23) rfl rfl (by kernel_rfl) (fun _ _ _ h => h) (Or.inl ⟨by rfl, ?_⟩) ?_ ?_
 rotate_left
 ·exact gz
 rotate_left
 ·exact pz
 refine take_ (i := 3) (N := some 41) (v := ?_) (a' := ?_) (lb 6 31) rfl rfl (by kernel_rfl) (fun _ _ _ h => h) (Or.inl ⟨by rfl, ?_⟩) hHeld ?_ ?_
 rotate_left
 ·rintro w' ⟨s0, s1, s2, s3⟩
  go_simp
  with_reducible rfl
 rotate_left
 ·exact pz
 refine pure_ (i := 5) (N := some 10) (v := ?_) (a' := ?_) (lb 6 63) rfl rfl (by kernel_rfl) (fun _ _ _ h => h) (Or.inl ⟨by rfl, ?_⟩) ?_ ?_
 rotate_left
 ·exact gz
 rotate_left
 ·exact pz
 refine done_ (by kernel_rfl) ?_
 have z_ := ns2 N4 N6
 have z_ := cB4 K3
 try go_wp2
 go_loopg [9, 10, 43] k (fun kq v1 v2 v3 w' => ∃ (x1 : Int) (x2 : Int) (x3 : Int), v1 = .int .i64 x1 ∧ v2 = .int .i64 x2 ∧ v3 = .int .i64 x3 ∧ Aside0 (impl_rangeCorners.l0 kq x1 x2 x3 t1 t2 t3 t4 = some (r1, r2)) ∧ Aside0 (kq ≤ k) ∧ Aside0 (w'.heap[g1]? = some (.cells #[.int .i64 a1_0, .int .i64 a1_1] 24 (0, 0))) ∧ Aside0 (w'.heap[g2]? = some (.cells #[.int .i64 a2_0, .int .i64 a2_1] 24 (0, 0))) ∧ Aside0 (w'.heap[g3]? = some (.cells #[.int .i64 t1, .int .i64 t2, .int .i64 t3, .int .i64 t4] 95 (0, 0))) ∧ Aside0 (Below w.heap.size w w'))
 case atStart => exact ⟨(t1), (t1), (0), ey, ey, ey, H', ⟨Nat.le_refl _⟩, ⟨Z K1⟩, ⟨Z K2⟩, ⟨Z K3⟩, ⟨YA HB⟩⟩
 case round =>
  clear H'
  obtain ⟨x1, x2, x3, rfl, rfl, rfl, HA, HK1, K1, K2, K3, HB⟩ := hrel
  cases gk with
  | zero => exact absurd HA.out (by simp [impl_rangeCorners.l0])
  | succ k1 =>
   have H := HA.out
   clear HA
   simp only [impl_rangeCorners.l0] at H
   by_cases c1 : x3 < 4
   rotate_left
   ·rw [if_neg c1] at H
    have d1 := dF c1
    clear c1
    simp only [Option.some.injEq, Prod.mk.injEq] at H
    obtain ⟨rfl, rfl⟩ := H
    go_wp2
    go_ret2
    exact ⟨ez, YA HB⟩
   rw [if_pos c1] at H
   have d1 := dT c1
   clear c1
   by_cases c2 : x3 = 0
   ·rw [if_pos c2] at H
    have hix23 : ∀ w', (Instr.index 95 (.agg #[.int .i64 t1, .int .i64 t2, .int .i64 t3, .int .i64 t4]) (.int .i64 x3)).run Try.prog w' = .ok (.int .i64 t1) w' := by intro w'; rw [c2]; first | (go_simp; done) | (go_simp; rfl) | rfl
    have d2 := eT c2
    have d3 := nF c2
    clear c2
    obtain ⟨i1, j9⟩ : ∃ j_ : Int, (mn x1 t1) = j_ := ⟨_, rfl⟩
    replace H : (impl_rangeCorners.l0 k1 i1 (mx x2 t1) (wrap64 (x3 + 1)) t1 t2 t3 t4) = some (r1, r2) := by first | (rw [j9] at H; exact H) | (simp only [j9] at H ⊢; exact H)
    have hji24_ : (if t1 < x1 then t1 else x1) = i1 := j9
    obtain ⟨i2, j10⟩ : ∃ j_ : Int, (mx x2 t1) = j_ := ⟨_, rfl⟩
    replace H : (impl_rangeCorners.l0 k1 i1 i2 (wrap64 (x3 + 1)) t1 t2 t3 t4) = some (r1, r2) := by first | (rw [j10] at H; exact H) | (simp only [j10] at H ⊢; exact H)
    have hji25_ : (if x2 < t1 then t1 else x2) = i2 := j10
    have H' := am H
    clear H
    go_wp2
    go_roundg k1
    case measure => have := HK1.out; omega
    case rel => exact ⟨(i1), (i2), (wrap64 (x3 + 1)), (by first | rfl | (simp; done) | (simp only [← j9] <;> (first | rfl | simp)) | (simp [*]; done)), (by first | rfl | (simp; done) | (simp only [← j10] <;> (first | rfl | simp)) | (simp [*]; done)), ey, H', ⟨by have := HK1.out; omega⟩, ⟨Z K1⟩, ⟨Z K2⟩, ⟨Z K3⟩, ⟨YA HB⟩⟩
   rw [if_neg c2] at H
   have d2 := eF c2
   have d3 := nT c2
   by_cases c3 : x3 = 1
   ·rw [if_pos c3] at H
    have hix26 : ∀ w', (Instr.index 95 (.agg #[.int .i64 t1, .int .i64 t2, .int .i64 t3, .int .i64 t4]) (.int .i64 x3)).run Try.prog w' = .ok (.int .i64 t2) w' := by intro w'; rw [c3]; first | (go_simp; done) | (go_simp; rfl) | rfl
    have d4 := eT c3
    have d5 := nF c3
    clear c3
    obtain ⟨i1, j9⟩ : ∃ j_ : Int, (mn x1 t2) = j_ := ⟨_, rfl⟩
    replace H : (impl_rangeCorners.l0 k1 i1 (mx x2 t2) (wrap64 (x3 + 1)) t1 t2 t3 t4) = some (r1, r2) := by first | (rw [j9] at H; exact H) | (simp only [j9] at H ⊢; exact H)
    have hji27_ : (if t2 < x1 then t2 else x1) = i1 := j9
    obtain ⟨i2, j10⟩ : ∃ j_ : Int, (mx x2 t2) = j_ := ⟨_, rfl⟩
    replace H : (impl_rangeCorners.l0 k1 i1 i2 (wrap64 (x3 + 1)) t1 t2 t3 t4) = some (r1, r2) := by first | (rw [j10] at H; exact H) | (simp only [j10] at H ⊢; exact H)
    have hji28_ : (if x2 < t2 then t2 else x2) = i2 := j10
    have H' := am H
    clear H
    go_wp2
    go_roundg k1
    case measure => have := HK1.out; omega
    case rel => exact ⟨(i1), (i2), (wrap64 (x3 + 1)), (by first | rfl | (simp; done) | (simp only [← j9] <;> (first | rfl | simp)) | (simp [*]; done)), (by first | rfl | (simp; done) | (simp only [← j10] <;> (first | rfl | simp)) | (simp [*]; done)), ey, H', ⟨by have := HK1.out; omega⟩, ⟨Z K1⟩, ⟨Z K2⟩, ⟨Z K3⟩, ⟨YA HB⟩⟩
   rw [if_neg c3] at H
   have d4 := eF c3
   have d5 := nT c3
   by_cases c4 : x3 = 2
   ·rw [if_pos c4] at H
    have hix29 : ∀ w', (Instr.index 95 (.agg #[.int .i64 t1, .int .i64 t2, .int .i64 t3, .int .i64 t4]) (.int .i64 x3)).run Try.prog w' = .ok (.int .i64 t3) w' := by intro w'; rw [c4]; first | (go_simp; done) | (go_simp; rfl) | rfl
    have d6 := eT c4
    have d7 := nF c4
    clear c4
    obtain ⟨i1, j9⟩ : ∃ j_ : Int, (mn x1 t3) = j_ := ⟨_, rfl⟩
    replace H : (impl_rangeCorners.l0 k1 i1 (mx x2 t3) (wrap64 (x3 + 1)) t1 t2 t3 t4) = some (r1, r2) := by first | (rw [j9] at H; exact H) | (simp only [j9] at H ⊢; exact H)
    have hji30_ : (if t3 < x1 then t3 else x1) = i1 := j9
    obtain ⟨i2, j10⟩ : ∃ j_ : Int, (mx x2 t3) = j_ := ⟨_, rfl⟩
    replace H : (impl_rangeCorners.l0 k1 i1 i2 (wrap64 (x3 + 1)) t1 t2 t3 t4) = some (r1, r2) := by first | (rw [j10] at H; exact H) | (simp only [j10] at H ⊢; exact H)
    have hji31_ : (if x2 < t3 then t3 else x2) = i2 := j10
    have H' := am H
    clear H
    go_wp2
    go_roundg k1
    case measure => have := HK1.out; omega
    case rel => exact ⟨(i1), (i2), (wrap64 (x3 + 1)), (by first | rfl | (simp; done) | (simp only [← j9] <;> (first | rfl | simp)) | (simp [*]; done)), (by first | rfl | (simp; done) | (simp only [← j10] <;> (first | rfl | simp)) | (simp [*]; done)), ey, H', ⟨by have := HK1.out; omega⟩, ⟨Z K1⟩, ⟨Z K2⟩, ⟨Z K3⟩, ⟨YA HB⟩⟩
   rw [if_neg c4] at H
   have d6 := eF c4
   have d7 := nT c4
   by_cases c5 : x3 = 3
   rotate_left
   ·rw [if_neg c5] at H
    exact absurd H (by simp)
   rw [if_pos c5] at H
   have hix32 : ∀ w', (Instr.index 95 (.agg #[.int .i64 t1, .int .i64 t2, .int .i64 t3, .int .i64 t4]) (.int .i64 x3)).run Try.prog w' = .ok (.int .i64 t4) w' := by intro w'; rw [c5]; first | (go_simp; done) | (go_simp; rfl) | rfl
   have d8 := eT c5
   have d9 := nF c5
   clear c5
   obtain ⟨i1, j9⟩ : ∃ j_ : Int, (mn x1 t4) = j_ := ⟨_, rfl⟩
   replace H : (impl_rangeCorners.l0 k1 i1 (mx x2 t4) (wrap64 (x3 + 1)) t1 t2 t3 t4) = some (r1, r2) := by first | (rw [j9] at H; exact H) | (simp only [j9] at H ⊢; exact H)
   have hji33_ : (if t4 < x1 then t4 else x1) = i1 := j9
   obtain ⟨i2, j10⟩ : ∃ j_ : Int, (mx x2 t4) = j_ := ⟨_, rfl⟩
   replace H : (impl_rangeCorners.l0 k1 i1 i2 (wrap64 (x3 + 1)) t1 t2 t3 t4) = some (r1, r2) := by first | (rw [j10] at H; exact H) | (simp only [j10] at H ⊢; exact H)
   have hji34_ : (if x2 < t4 then t4 else x2) = i2 := j10
   have H' := am H
   clear H
   go_wp2
   go_roundg k1
   case measure => have := HK1.out; omega
   case rel => exact ⟨(i1), (i2), (wrap64 (x3 + 1)), (by first | rfl | (simp; done) | (simp only [← j9] <;> (first | rfl | simp)) | (simp [*]; done)), (by first | rfl | (simp; done) | (simp only [← j10] <;> (first | rfl | simp)) | (simp [*]; done)), ey, H', ⟨by have := HK1.out; omega⟩, ⟨Z K1⟩, ⟨Z K2⟩, ⟨Z K3⟩, ⟨YA HB⟩⟩

end Go.Proofs.Ythbkakcchgnhpaa.PFnRangeMore
