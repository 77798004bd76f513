/- Written by this session's own driver (wip/dprint.py): the functions that the law FnRangeFaults reaches, as Lean functions, each with its contract. -/
import Derived.Test.YthbkakcchgnhpaaPFnRangeFaultsx0
import Derived.Test.YthbkakcchgnhpaaPFnRangeFaultsx13
import Derived.Test.YthbkakcchgnhpaaSv
namespace Go.Proofs.Ythbkakcchgnhpaa.PFnRangeFaults
open Go.RowKit Go.Proofs.YthbkakcchgnhpaaV.PrintWords Go.Proofs.YthbkakcchgnhpaaV.PrintLast Go.Proofs.YthbkakcchgnhpaaV.PrintMore Go.Proofs.YthbkakcchgnhpaaSv
attribute [local go_sem] max2_int min2_int max_two min_two max_three min_three max_four min_four   -- for this text's walks alone
set_option linter.unusedVariables false
set_option linter.unusedSimpArgs false

/-! ### impl_rangeCorners: function 49 -/
attribute [local go_sem] Go.Proofs.YthbkakcchgnhpaaSet.isSome_setCell
def impl_rangeCorners.l0 : Nat → Int → Int → Int → Int → Int → Int → Int → Option (Int × Int)
 | 0, _, _, _, _, _, _, _ => none
 | k + 1, x9, x10, x43, x900042000, x900042001, x900042002, x900042003 => if x43 < 4 then (if x43 = 0 then (impl_rangeCorners.l0 k (mn x9 x900042000) (mx x10 x900042000) (wrap64 (x43 + 1)) x900042000 x900042001 x900042002 x900042003) else (if x43 = 1 then (impl_rangeCorners.l0 k (mn x9 x900042001) (mx x10 x900042001) (wrap64 (x43 + 1)) x900042000 x900042001 x900042002 x900042003) else (if x43 = 2 then (impl_rangeCorners.l0 k (mn x9 x900042002) (mx x10 x900042002) (wrap64 (x43 + 1)) x900042000 x900042001 x900042002 x900042003) else (if x43 = 3 then (impl_rangeCorners.l0 k (mn x9 x900042003) (mx x10 x900042003) (wrap64 (x43 + 1)) x900042000 x900042001 x900042002 x900042003) else (none))))) else (some (x9, x10))
def impl_rangeCorners.f (k : Nat) (a0 : Int) (a1_0 : Int) (a1_1 : Int) (a2_0 : Int) (a2_1 : Int) : Option (Int × Int) := (impl_numExact.f k a0 a1_0 a2_0).bind fun t297 => ((impl_numExact.f k a0 a1_0 a2_1).bind fun t298 => ((impl_numExact.f k a0 a1_1 a2_0).bind fun t299 => ((impl_numExact.f k a0 a1_1 a2_1).bind fun t300 => (impl_rangeCorners.l0 k t297 t297 0 t297 t298 t299 t300))))
theorem impl_rangeCorners.mono_l : ∀ k, (∀ y0 y1 y2 y3 y4 y5 y6, LeO (impl_rangeCorners.l0 k y0 y1 y2 y3 y4 y5 y6) (impl_rangeCorners.l0 (k + 1) y0 y1 y2 y3 y4 y5 y6))
 | 0 => fun _ _ _ _ _ _ _ r h => by simp [impl_rangeCorners.l0] at h
 | k + 1 => by
  have ih0 := impl_rangeCorners.mono_l k
  ·intro y0 y1 y2 y3 y4 y5 y6
   unfold impl_rangeCorners.l0
   repeat' first | (with_reducible first | apply ih0 | apply impl_numExact.mono | apply LeO.refl | apply LeO.none | refine LeO.ite ?_ ?_ | refine LeO.bind ?_ (fun _ => ?_)) | apply ih0 | apply impl_numExact.mono | apply LeO.none | refine LeO.ite ?_ ?_ | refine LeO.bind ?_ (fun _ => ?_)
theorem impl_rangeCorners.mono : ∀ a0 a1 a2 a3 a4 k, LeO (impl_rangeCorners.f k a0 a1 a2 a3 a4) (impl_rangeCorners.f (k + 1) a0 a1 a2 a3 a4) := by
 intro a0 a1 a2 a3 a4 k
 have ih0 := impl_rangeCorners.mono_l k
 unfold impl_rangeCorners.f
 repeat' first | (with_reducible first | apply ih0 | apply impl_numExact.mono | apply LeO.refl | apply LeO.none | refine LeO.ite ?_ ?_ | refine LeO.bind ?_ (fun _ => ?_)) | apply ih0 | apply impl_numExact.mono | apply LeO.none | refine LeO.ite ?_ ?_ | refine LeO.bind ?_ (fun _ => ?_)
def impl_rangeCorners.T1 : Bool × List (List Nat × List Nat) := (true, [([], []), ([], []), ([1], [1]), ([], []), ([3], [3]), ([0, 2, 4], [0, 2, 4]), ([], []), ([], []), ([7], [7]), ([], []), ([9], [9]), ([6, 8, 10, 5], [6, 8, 10]), ([], []), ([], []), ([13], [13]), ([], []), ([15], [15]), ([12, 14, 16, 11], [12, 14, 16]), ([], []), ([], []), ([19], [19]), ([], []), ([21], [21]), ([18, 20, 22, 17], [18, 20, 22]), ([5, 11, 17, 23], [5, 11, 17, 23]), ([], []), ([25, 24, 23, 0, 1, 2, 3, 4, 5, 6, 7, 8, 9, 10, 11, 12, 13, 14, 15, 16, 17, 18, 19, 20, 21, 22, 23, 24, 25], [24, 25])])
def impl_rangeCorners.B1 : List Nat := [0, 0, 2, 0, 8, 31, 0, 0, 128, 0, 512, 2047, 0, 0, 8192, 0, 32768, 131071, 0, 0, 524288, 0, 2097152, 8388607, 16777215, 0, 67108863]
theorem impl_rangeCorners.tab1 : rtab .any (opsOf Try.f49 1) = impl_rangeCorners.T1 := by kernel_rfl
theorem impl_rangeCorners.bits1 : waitsOk impl_rangeCorners.T1.2 impl_rangeCorners.B1 = true := by kernel_rfl
set_option maxHeartbeats 8000000 in
set_option maxRecDepth 100000 in
theorem impl_rangeCorners.calls (k : Nat) (a0 : Int) (a1_0 : Int) (a1_1 : Int) (a2_0 : Int) (a2_1 : Int) (r1 : Int) (r2 : Int) (w : World) (h : impl_rangeCorners.f k a0 a1_0 a1_1 a2_0 a2_1 = some (r1, r2)) :
  Calls Try.prog 49 #[.int .i64 a0, .agg #[.int .i64 a1_0, .int .i64 a1_1], .agg #[.int .i64 a2_0, .int .i64 a2_1]] w fun e w' => e = .returned (.tuple #[.int .i64 r1, .int .i64 r2]) ∧ Below w.heap.size w w' := by
 have hu24 := Try.underlying24
 have hu95 := Try.underlying95
 have HB := am (Below.refl w.heap.size w)
 have H : ((impl_numExact.f k a0 a1_0 a2_0).bind fun t297 => ((impl_numExact.f k a0 a1_0 a2_1).bind fun t298 => ((impl_numExact.f k a0 a1_1 a2_0).bind fun t299 => ((impl_numExact.f k a0 a1_1 a2_1).bind fun t300 => (impl_rangeCorners.l0 k t297 t297 0 t297 t298 t299 t300))))) = some (r1, r2) := h
 clear h
 obtain ⟨t297, A4, H⟩ := bd H
 try dsimp only at H
 obtain ⟨t298, A5, H⟩ := bd H
 try dsimp only at H
 obtain ⟨t299, A6, H⟩ := bd H
 try dsimp only at H
 obtain ⟨t300, A7, H⟩ := bd H
 try dsimp only at H
 have H' := am H
 clear H
 go_enter Try.func49, Try.ntmps49
 try go_wp2_with (first | ((with_reducible refine gate_dst (N := 4) rfl ?_); refine bx 4 #[.int .i64 a1_0, .int .i64 a1_1] 24 ?_; intro gb295 hg w8 hbox hb; have BK295 := am (hbox); have GW295 := am (bs hg (YA HB)); have GE295 := GW295; replace HB := am (below_step (YA HB) hb); clear hb hbox hg) | ((with_reducible refine gate_dst (N := 5) rfl ?_); refine bx 5 #[.int .i64 a2_0, .int .i64 a2_1] 24 ?_; intro gb296 hg w9 hbox hb; have BK296 := am (hbox); have GW296 := am (bs hg (YA HB)); have GE296 := GW296; obtain ⟨NB295_296,NB296_295⟩ := ne_ hg BK295; obtain ⟨BK295, HB⟩ := bk1 BK295 HB hb; clear hb hbox hg))
 obtain ⟨BK295, BK296, HB⟩ := dk2 BK295 BK296 HB
 refine start_ (n := 27) (S := fun w' => w'.cell? ⟨gb295, 0, none⟩ = some (.int .i64 a1_0) ∧ w'.cell? ⟨gb295, 1, none⟩ = some (.int .i64 a1_1) ∧ w'.cell? ⟨gb296, 0, none⟩ = some (.int .i64 a2_0) ∧ w'.cell? ⟨gb296, 1, none⟩ = some (.int .i64 a2_1)) (ds := []) (lb 27 0) (by kernel_rfl) rfl rfl ⟨bc BK295 0, bc BK295 1, bc BK296 0, bc BK296 1⟩ (fun hHeld => ?_); refine with_tabW impl_rangeCorners.tab1 impl_rangeCorners.bits1 (fun HT_ HW_ => ?_)
 generalize w9.drew = w10 at BK295 BK296 HB hHeld ⊢
 refine pk 0 13 1 ?_
 refine pk 1 14 3 ?_
 refine pk 3 16 11 ?_
 refine pk 6 19 75 ?_
 refine pk 7 20 203 ?_
 refine pk 9 22 715 ?_
 refine pk 12 25 4811 ?_
 refine pk 13 26 13003 ?_
 refine pk 15 28 45771 ?_
 refine pk 18 31 307915 ?_
 refine pk 19 32 832203 ?_
 refine pk 21 34 2929355 ?_
 refine tk 2 15 2929359 hHeld ?_
 refine tk 4 17 2929375 hHeld ?_
 refine tk 8 21 2929631 hHeld ?_
 refine tk 10 23 2930655 hHeld ?_
 refine tk 14 27 2947039 hHeld ?_
 refine tk 16 29 3012575 hHeld ?_
 refine tk 20 33 4061151 hHeld ?_
 refine tk 22 35 8255455 hHeld ?_
 refine join_ (σ := Nat) 1 (lb 27 67108863) (fun s_ => [(18, .int .i64 t297), (24, .int .i64 t298), (30, .int .i64 t299), (36, .int .i64 t300), (8, .pointer (some ⟨s_, 0, none⟩)), (37, .agg #[.int .i64 t297, .int .i64 t298, .int .i64 t299, .int .i64 t300])]) (fun s_ w' => (w'.cell? ⟨gb295, 0, none⟩ = some (.int .i64 a1_0) ∧ w'.cell? ⟨gb295, 1, none⟩ = some (.int .i64 a1_1) ∧ w'.cell? ⟨gb296, 0, none⟩ = some (.int .i64 a2_0) ∧ w'.cell? ⟨gb296, 1, none⟩ = some (.int .i64 a2_1)) ∧ (w'.heap[gb295]? = some (.cells #[.int .i64 a1_0, .int .i64 a1_1] 24 (0, 0))) ∧ (w'.heap[gb296]? = some (.cells #[.int .i64 a2_0, .int .i64 a2_1] 24 (0, 0))) ∧ (w'.heap[s_]? = some (.cells #[.int .i64 0, .int .i64 0, .int .i64 0, .int .i64 0] 95 (0, 0))) ∧ (w.heap.size ≤ s_) ∧ (w.heap.size ≤ s_) ∧ (gb295 ≠ s_) ∧ (s_ ≠ gb295) ∧ (gb296 ≠ s_) ∧ (s_ ≠ gb296) ∧ (Below w.heap.size w w')) ?_ ?_
 rotate_left
 ·intro hJ5_11_17_23_25
  refine join_ (σ := Unit) 2 (lb 27 33554431) (fun s_ => [(18, .int .i64 t297), (24, .int .i64 t298), (30, .int .i64 t299), (36, .int .i64 t300), (37, .agg #[.int .i64 t297, .int .i64 t298, .int .i64 t299, .int .i64 t300])]) (fun s_ w' => (w'.cell? ⟨gb295, 0, none⟩ = some (.int .i64 a1_0) ∧ w'.cell? ⟨gb295, 1, none⟩ = some (.int .i64 a1_1) ∧ w'.cell? ⟨gb296, 0, none⟩ = some (.int .i64 a2_0) ∧ w'.cell? ⟨gb296, 1, none⟩ = some (.int .i64 a2_1)) ∧ (w'.heap[gb295]? = some (.cells #[.int .i64 a1_0, .int .i64 a1_1] 24 (0, 0))) ∧ (w'.heap[gb296]? = some (.cells #[.int .i64 a2_0, .int .i64 a2_1] 24 (0, 0))) ∧ (Below w.heap.size w w')) ?_ ?_
  rotate_left
  rotate_left
  ·skip
   rintro _ w11 ⟨hS_, h0_, h1_, h2_⟩
   replace BK295 : Bx2 w11 gb295 a1_0 a1_1 24 := ⟨h0_⟩
   replace BK296 : Bx2 w11 gb296 a2_0 a2_1 24 := ⟨h1_⟩
   replace HB : Aside0 (Below w.heap.size w w11) := ⟨h2_⟩
   clear h0_ h1_ h2_
   have hHeld : w11.cell? ⟨gb295, 0, none⟩ = some (.int .i64 a1_0) ∧ w11.cell? ⟨gb295, 1, none⟩ = some (.int .i64 a1_1) ∧ w11.cell? ⟨gb296, 0, none⟩ = some (.int .i64 a2_0) ∧ w11.cell? ⟨gb296, 1, none⟩ = some (.int .i64 a2_1) := hS_
   refine norm_ (a' := ?_) ?_ ?_
   rotate_left
   ·simp only [putAll, Act.put, List.setIfInBounds_toArray, List.set_cons_zero, List.set_cons_succ]
    rfl
   refine on 25 (some 8) 67108863 fun K hK => ?_
   refine box_step ?hg (N := 8) ?hd (cs := #[.int .i64 0, .int .i64 0, .int .i64 0, .int .i64 0]) (t := 95) ?hr ?_; (case hd => rfl); (case hg => rfl); (case hr => first | (go_simp; done) | (go_simp; rfl))
   intro gb301 hg w12 hbox hb
   have BK301 := am (hbox)
   have GW301 := am (bs hg (YA HB))
   have GE301 := am (bs hg (YA HB))
   obtain ⟨NB295_301,NB301_295⟩ := ne_ hg BK295
   obtain ⟨NB296_301,NB301_296⟩ := ne_ hg BK296
   obtain ⟨BK295, BK296, HB⟩ := bk2 BK295 BK296 HB hb
   clear hb hbox hg
   refine kk hK ⟨bc BK295 0, bc BK295 1, bc BK296 0, bc BK296 1⟩ fun hHeld => ?_
   clear hK K
   exact norm_ nz (hJ5_11_17_23_25 (gb301) _ ⟨hHeld, (Z BK295), (Z BK296), (Z BK301), GW301.out, GE301.out, NB295_301.out, NB301_295.out, NB296_301.out, NB301_296.out, (YA HB)⟩)
  intro hJ5_11_17_23
  refine join_ (σ := Nat) 3 (lb 27 41943039) (fun s_ => [(18, .int .i64 t297), (24, .int .i64 t298), (30, .int .i64 t299), (8, .pointer (some ⟨s_, 0, none⟩))]) (fun s_ w' => (w'.cell? ⟨gb295, 0, none⟩ = some (.int .i64 a1_0) ∧ w'.cell? ⟨gb295, 1, none⟩ = some (.int .i64 a1_1) ∧ w'.cell? ⟨gb296, 0, none⟩ = some (.int .i64 a2_0) ∧ w'.cell? ⟨gb296, 1, none⟩ = some (.int .i64 a2_1)) ∧ (w'.heap[gb295]? = some (.cells #[.int .i64 a1_0, .int .i64 a1_1] 24 (0, 0))) ∧ (w'.heap[gb296]? = some (.cells #[.int .i64 a2_0, .int .i64 a2_1] 24 (0, 0))) ∧ (w'.heap[s_]? = some (.cells #[.int .i64 0, .int .i64 0, .int .i64 0, .int .i64 0] 95 (0, 0))) ∧ (w.heap.size ≤ s_) ∧ (w.heap.size ≤ s_) ∧ (gb295 ≠ s_) ∧ (s_ ≠ gb295) ∧ (gb296 ≠ s_) ∧ (s_ ≠ gb296) ∧ (Below w.heap.size w w')) ?_ ?_
  rotate_left
  rotate_left
  ·skip
   rintro gb301 w12 ⟨hS_, h0_, h1_, h2_, h3_, h4_, h5_, h6_, h7_, h8_, h9_⟩
   have BK301 : Bx4 w12 gb301 0 0 0 0 95 := ⟨h2_⟩
   have GW301 : Aside0 (w.heap.size ≤ gb301) := ⟨h3_⟩
   have GE301 : Aside0 (w.heap.size ≤ gb301) := ⟨h4_⟩
   have NB295_301 : Aside0 (gb295 ≠ gb301) := ⟨h5_⟩
   have NB301_295 : Aside0 (gb301 ≠ gb295) := ⟨h6_⟩
   have NB296_301 : Aside0 (gb296 ≠ gb301) := ⟨h7_⟩
   have NB301_296 : Aside0 (gb301 ≠ gb296) := ⟨h8_⟩
   replace BK295 : Bx2 w12 gb295 a1_0 a1_1 24 := ⟨h0_⟩
   replace BK296 : Bx2 w12 gb296 a2_0 a2_1 24 := ⟨h1_⟩
   replace HB : Aside0 (Below w.heap.size w w12) := ⟨h9_⟩
   clear h0_ h1_ h2_ h3_ h4_ h5_ h6_ h7_ h8_ h9_
   have hHeld : w12.cell? ⟨gb295, 0, none⟩ = some (.int .i64 a1_0) ∧ w12.cell? ⟨gb295, 1, none⟩ = some (.int .i64 a1_1) ∧ w12.cell? ⟨gb296, 0, none⟩ = some (.int .i64 a2_0) ∧ w12.cell? ⟨gb296, 1, none⟩ = some (.int .i64 a2_1) := hS_
   refine norm_ (a' := ?_) ?_ ?_
   rotate_left
   ·simp only [putAll, Act.put, List.setIfInBounds_toArray, List.set_cons_zero, List.set_cons_succ]
    rfl
   refine on 23 (some 36) 50331647 fun K hK => ?_
   refine goes_ Try.func61 (by kernel_rfl) rfl #[.int .i64 a0, .int .i64 a1_1, .int .i64 a2_1] (by rfl) rfl rfl mz ?_
   with_reducible refine (impl_numExact.calls _ _ _ _ _ _ A7.out).mono ?_
   rintro e w' ⟨rfl, ⟨nd, rfl⟩⟩
   refine ⟨_, rfl, ?_⟩
   refine kk hK ⟨bc BK295 0, bc BK295 1, bc BK296 0, bc BK296 1⟩ fun hHeld => ?_
   clear hK K
   refine pk 24 37 67108863 ?_
   exact norm_ nz (hJ5_11_17_23_25 (gb301) _ ⟨hHeld, (Z BK295), (Z BK296), (Z BK301), GW301.out, GE301.out, NB295_301.out, NB301_295.out, NB296_301.out, NB301_296.out, (YA HB)⟩)
  intro hJ5_11_17_25
  refine join_ (σ := Unit) 4 (lb 27 8388607) (fun s_ => [(18, .int .i64 t297), (24, .int .i64 t298), (30, .int .i64 t299)]) (fun s_ w' => (w'.cell? ⟨gb295, 0, none⟩ = some (.int .i64 a1_0) ∧ w'.cell? ⟨gb295, 1, none⟩ = some (.int .i64 a1_1) ∧ w'.cell? ⟨gb296, 0, none⟩ = some (.int .i64 a2_0) ∧ w'.cell? ⟨gb296, 1, none⟩ = some (.int .i64 a2_1)) ∧ (w'.heap[gb295]? = some (.cells #[.int .i64 a1_0, .int .i64 a1_1] 24 (0, 0))) ∧ (w'.heap[gb296]? = some (.cells #[.int .i64 a2_0, .int .i64 a2_1] 24 (0, 0))) ∧ (Below w.heap.size w w')) ?_ ?_
  rotate_left
  rotate_left
  ·skip
   rintro _ w11 ⟨hS_, h0_, h1_, h2_⟩
   replace BK295 : Bx2 w11 gb295 a1_0 a1_1 24 := ⟨h0_⟩
   replace BK296 : Bx2 w11 gb296 a2_0 a2_1 24 := ⟨h1_⟩
   replace HB : Aside0 (Below w.heap.size w w11) := ⟨h2_⟩
   clear h0_ h1_ h2_
   have hHeld : w11.cell? ⟨gb295, 0, none⟩ = some (.int .i64 a1_0) ∧ w11.cell? ⟨gb295, 1, none⟩ = some (.int .i64 a1_1) ∧ w11.cell? ⟨gb296, 0, none⟩ = some (.int .i64 a2_0) ∧ w11.cell? ⟨gb296, 1, none⟩ = some (.int .i64 a2_1) := hS_
   refine norm_ (a' := ?_) ?_ ?_
   rotate_left
   ·simp only [putAll, Act.put, List.setIfInBounds_toArray, List.set_cons_zero, List.set_cons_succ]
    rfl
   refine two_ (i := 23) (j := 25) (Ni := some 36) (Nj := some 8) (lb 27 16777215) (lb 27 41943039) rfl rfl rfl rfl (two_of HT_.out (by kernel_rfl)) (by decide) (by decide) (fun K hK => ?_) (fun K hK => ?_)
   ·skip
    refine goes_ Try.func61 (by kernel_rfl) rfl #[.int .i64 a0, .int .i64 a1_1, .int .i64 a2_1] (by rfl) rfl rfl mz ?_
    with_reducible refine (impl_numExact.calls _ _ _ _ _ _ A7.out).mono ?_
    rintro e w' ⟨rfl, ⟨nd, rfl⟩⟩
    refine ⟨_, rfl, ?_⟩
    refine kk hK ⟨bc BK295 0, bc BK295 1, bc BK296 0, bc BK296 1⟩ fun hHeld => ?_
    clear hK K
    refine pk 24 37 33554431 ?_
    exact norm_ nz (hJ5_11_17_23 () _ ⟨hHeld, (Z BK295), (Z BK296), (YA HB)⟩)
   skip
   refine box_step ?hg (N := 8) ?hd (cs := #[.int .i64 0, .int .i64 0, .int .i64 0, .int .i64 0]) (t := 95) ?hr ?_; (case hd => rfl); (case hg => rfl); (case hr => first | (go_simp; done) | (go_simp; rfl))
   intro gb301 hg w12 hbox hb
   have BK301 := am (hbox)
   have GW301 := am (bs hg (YA HB))
   have GE301 := am (bs hg (YA HB))
   obtain ⟨NB295_301,NB301_295⟩ := ne_ hg BK295
   obtain ⟨NB296_301,NB301_296⟩ := ne_ hg BK296
   obtain ⟨BK295, BK296, HB⟩ := bk2 BK295 BK296 HB hb
   clear hb hbox hg
   refine kk hK ⟨bc BK295 0, bc BK295 1, bc BK296 0, bc BK296 1⟩ fun hHeld => ?_
   clear hK K
   exact norm_ nz (hJ5_11_17_25 (gb301) _ ⟨hHeld, (Z BK295), (Z BK296), (Z BK301), GW301.out, GE301.out, NB295_301.out, NB301_295.out, NB296_301.out, NB301_296.out, (YA HB)⟩)
  intro hJ5_11_17
  refine join_ (σ := Nat) 4 (lb 27 41811967) (fun s_ => [(18, .int .i64 t297), (24, .int .i64 t298), (8, .pointer (some ⟨s_, 0, none⟩))]) (fun s_ w' => (w'.cell? ⟨gb295, 0, none⟩ = some (.int .i64 a1_0) ∧ w'.cell? ⟨gb295, 1, none⟩ = some (.int .i64 a1_1) ∧ w'.cell? ⟨gb296, 0, none⟩ = some (.int .i64 a2_0) ∧ w'.cell? ⟨gb296, 1, none⟩ = some (.int .i64 a2_1)) ∧ (w'.heap[gb295]? = some (.cells #[.int .i64 a1_0, .int .i64 a1_1] 24 (0, 0))) ∧ (w'.heap[gb296]? = some (.cells #[.int .i64 a2_0, .int .i64 a2_1] 24 (0, 0))) ∧ (w'.heap[s_]? = some (.cells #[.int .i64 0, .int .i64 0, .int .i64 0, .int .i64 0] 95 (0, 0))) ∧ (w.heap.size ≤ s_) ∧ (w.heap.size ≤ s_) ∧ (gb295 ≠ s_) ∧ (s_ ≠ gb295) ∧ (gb296 ≠ s_) ∧ (s_ ≠ gb296) ∧ (Below w.heap.size w w')) ?_ ?_
  rotate_left
  rotate_left
  ·skip
   rintro gb301 w12 ⟨hS_, h0_, h1_, h2_, h3_, h4_, h5_, h6_, h7_, h8_, h9_⟩
   have BK301 : Bx4 w12 gb301 0 0 0 0 95 := ⟨h2_⟩
   have GW301 : Aside0 (w.heap.size ≤ gb301) := ⟨h3_⟩
   have GE301 : Aside0 (w.heap.size ≤ gb301) := ⟨h4_⟩
   have NB295_301 : Aside0 (gb295 ≠ gb301) := ⟨h5_⟩
   have NB301_295 : Aside0 (gb301 ≠ gb295) := ⟨h6_⟩
   have NB296_301 : Aside0 (gb296 ≠ gb301) := ⟨h7_⟩
   have NB301_296 : Aside0 (gb301 ≠ gb296) := ⟨h8_⟩
   replace BK295 : Bx2 w12 gb295 a1_0 a1_1 24 := ⟨h0_⟩
   replace BK296 : Bx2 w12 gb296 a2_0 a2_1 24 := ⟨h1_⟩
   replace HB : Aside0 (Below w.heap.size w w12) := ⟨h9_⟩
   clear h0_ h1_ h2_ h3_ h4_ h5_ h6_ h7_ h8_ h9_
   have hHeld : w12.cell? ⟨gb295, 0, none⟩ = some (.int .i64 a1_0) ∧ w12.cell? ⟨gb295, 1, none⟩ = some (.int .i64 a1_1) ∧ w12.cell? ⟨gb296, 0, none⟩ = some (.int .i64 a2_0) ∧ w12.cell? ⟨gb296, 1, none⟩ = some (.int .i64 a2_1) := hS_
   refine norm_ (a' := ?_) ?_ ?_
   rotate_left
   ·simp only [putAll, Act.put, List.setIfInBounds_toArray, List.set_cons_zero, List.set_cons_succ]
    rfl
   refine on 17 (some 30) 41943039 fun K hK => ?_
   refine goes_ Try.func61 (by kernel_rfl) rfl #[.int .i64 a0, .int .i64 a1_1, .int .i64 a2_0] (by rfl) rfl rfl mz ?_
   with_reducible refine (impl_numExact.calls _ _ _ _ _ _ A6.out).mono ?_
   rintro e w' ⟨rfl, ⟨nd, rfl⟩⟩
   refine ⟨_, rfl, ?_⟩
   refine kk hK ⟨bc BK295 0, bc BK295 1, bc BK296 0, bc BK296 1⟩ fun hHeld => ?_
   clear hK K
   exact norm_ nz (hJ5_11_17_25 (gb301) _ ⟨hHeld, (Z BK295), (Z BK296), (Z BK301), GW301.out, GE301.out, NB295_301.out, NB301_295.out, NB296_301.out, NB301_296.out, (YA HB)⟩)
  intro hJ5_11_25
  refine join_ (σ := Unit) 5 (lb 27 8257535) (fun s_ => [(18, .int .i64 t297), (24, .int .i64 t298)]) (fun s_ w' => (w'.cell? ⟨gb295, 0, none⟩ = some (.int .i64 a1_0) ∧ w'.cell? ⟨gb295, 1, none⟩ = some (.int .i64 a1_1) ∧ w'.cell? ⟨gb296, 0, none⟩ = some (.int .i64 a2_0) ∧ w'.cell? ⟨gb296, 1, none⟩ = some (.int .i64 a2_1)) ∧ (w'.heap[gb295]? = some (.cells #[.int .i64 a1_0, .int .i64 a1_1] 24 (0, 0))) ∧ (w'.heap[gb296]? = some (.cells #[.int .i64 a2_0, .int .i64 a2_1] 24 (0, 0))) ∧ (Below w.heap.size w w')) ?_ ?_
  rotate_left
  rotate_left
  ·skip
   rintro _ w11 ⟨hS_, h0_, h1_, h2_⟩
   replace BK295 : Bx2 w11 gb295 a1_0 a1_1 24 := ⟨h0_⟩
   replace BK296 : Bx2 w11 gb296 a2_0 a2_1 24 := ⟨h1_⟩
   replace HB : Aside0 (Below w.heap.size w w11) := ⟨h2_⟩
   clear h0_ h1_ h2_
   have hHeld : w11.cell? ⟨gb295, 0, none⟩ = some (.int .i64 a1_0) ∧ w11.cell? ⟨gb295, 1, none⟩ = some (.int .i64 a1_1) ∧ w11.cell? ⟨gb296, 0, none⟩ = some (.int .i64 a2_0) ∧ w11.cell? ⟨gb296, 1, none⟩ = some (.int .i64 a2_1) := hS_
   refine norm_ (a' := ?_) ?_ ?_
   rotate_left
   ·simp only [putAll, Act.put, List.setIfInBounds_toArray, List.set_cons_zero, List.set_cons_succ]
    rfl
   refine two_ (i := 17) (j := 25) (Ni := some 30) (Nj := some 8) (lb 27 8388607) (lb 27 41811967) rfl rfl rfl rfl (two_of HT_.out (by kernel_rfl)) (by decide) (by decide) (fun K hK => ?_) (fun K hK => ?_)
   ·skip
    refine goes_ Try.func61 (by kernel_rfl) rfl #[.int .i64 a0, .int .i64 a1_1, .int .i64 a2_0] (by rfl) rfl rfl mz ?_
    with_reducible refine (impl_numExact.calls _ _ _ _ _ _ A6.out).mono ?_
    rintro e w' ⟨rfl, ⟨nd, rfl⟩⟩
    refine ⟨_, rfl, ?_⟩
    refine kk hK ⟨bc BK295 0, bc BK295 1, bc BK296 0, bc BK296 1⟩ fun hHeld => ?_
    clear hK K
    exact norm_ nz (hJ5_11_17 () _ ⟨hHeld, (Z BK295), (Z BK296), (YA HB)⟩)
   skip
   refine box_step ?hg (N := 8) ?hd (cs := #[.int .i64 0, .int .i64 0, .int .i64 0, .int .i64 0]) (t := 95) ?hr ?_; (case hd => rfl); (case hg => rfl); (case hr => first | (go_simp; done) | (go_simp; rfl))
   intro gb301 hg w12 hbox hb
   have BK301 := am (hbox)
   have GW301 := am (bs hg (YA HB))
   have GE301 := am (bs hg (YA HB))
   obtain ⟨NB295_301,NB301_295⟩ := ne_ hg BK295
   obtain ⟨NB296_301,NB301_296⟩ := ne_ hg BK296
   obtain ⟨BK295, BK296, HB⟩ := bk2 BK295 BK296 HB hb
   clear hb hbox hg
   refine kk hK ⟨bc BK295 0, bc BK295 1, bc BK296 0, bc BK296 1⟩ fun hHeld => ?_
   clear hK K
   exact norm_ nz (hJ5_11_25 (gb301) _ ⟨hHeld, (Z BK295), (Z BK296), (Z BK301), GW301.out, GE301.out, NB295_301.out, NB301_295.out, NB296_301.out, NB301_296.out, (YA HB)⟩)
  intro hJ5_11
  refine join_ (σ := Nat) 5 (lb 27 41809919) (fun s_ => [(18, .int .i64 t297), (8, .pointer (some ⟨s_, 0, none⟩))]) (fun s_ w' => (w'.cell? ⟨gb295, 0, none⟩ = some (.int .i64 a1_0) ∧ w'.cell? ⟨gb295, 1, none⟩ = some (.int .i64 a1_1) ∧ w'.cell? ⟨gb296, 0, none⟩ = some (.int .i64 a2_0) ∧ w'.cell? ⟨gb296, 1, none⟩ = some (.int .i64 a2_1)) ∧ (w'.heap[gb295]? = some (.cells #[.int .i64 a1_0, .int .i64 a1_1] 24 (0, 0))) ∧ (w'.heap[gb296]? = some (.cells #[.int .i64 a2_0, .int .i64 a2_1] 24 (0, 0))) ∧ (w'.heap[s_]? = some (.cells #[.int .i64 0, .int .i64 0, .int .i64 0, .int .i64 0] 95 (0, 0))) ∧ (w.heap.size ≤ s_) ∧ (w.heap.size ≤ s_) ∧ (gb295 ≠ s_) ∧ (s_ ≠ gb295) ∧ (gb296 ≠ s_) ∧ (s_ ≠ gb296) ∧ (Below w.heap.size w w')) ?_ ?_
  rotate_left
  rotate_left
  ·skip
   rintro gb301 w12 ⟨hS_, h0_, h1_, h2_, h3_, h4_, h5_, h6_, h7_, h8_, h9_⟩
   have BK301 : Bx4 w12 gb301 0 0 0 0 95 := ⟨h2_⟩
   have GW301 : Aside0 (w.heap.size ≤ gb301) := ⟨h3_⟩
   have GE301 : Aside0 (w.heap.size ≤ gb301) := ⟨h4_⟩
   have NB295_301 : Aside0 (gb295 ≠ gb301) := ⟨h5_⟩
   have NB301_295 : Aside0 (gb301 ≠ gb295) := ⟨h6_⟩
   have NB296_301 : Aside0 (gb296 ≠ gb301) := ⟨h7_⟩
   have NB301_296 : Aside0 (gb301 ≠ gb296) := ⟨h8_⟩
   replace BK295 : Bx2 w12 gb295 a1_0 a1_1 24 := ⟨h0_⟩
   replace BK296 : Bx2 w12 gb296 a2_0 a2_1 24 := ⟨h1_⟩
   replace HB : Aside0 (Below w.heap.size w w12) := ⟨h9_⟩
   clear h0_ h1_ h2_ h3_ h4_ h5_ h6_ h7_ h8_ h9_
   have hHeld : w12.cell? ⟨gb295, 0, none⟩ = some (.int .i64 a1_0) ∧ w12.cell? ⟨gb295, 1, none⟩ = some (.int .i64 a1_1) ∧ w12.cell? ⟨gb296, 0, none⟩ = some (.int .i64 a2_0) ∧ w12.cell? ⟨gb296, 1, none⟩ = some (.int .i64 a2_1) := hS_
   refine norm_ (a' := ?_) ?_ ?_
   rotate_left
   ·simp only [putAll, Act.put, List.setIfInBounds_toArray, List.set_cons_zero, List.set_cons_succ]
    rfl
   refine on 11 (some 24) 41811967 fun K hK => ?_
   refine goes_ Try.func61 (by kernel_rfl) rfl #[.int .i64 a0, .int .i64 a1_0, .int .i64 a2_1] (by rfl) rfl rfl mz ?_
   with_reducible refine (impl_numExact.calls _ _ _ _ _ _ A5.out).mono ?_
   rintro e w' ⟨rfl, ⟨nd, rfl⟩⟩
   refine ⟨_, rfl, ?_⟩
   refine kk hK ⟨bc BK295 0, bc BK295 1, bc BK296 0, bc BK296 1⟩ fun hHeld => ?_
   clear hK K
   exact norm_ nz (hJ5_11_25 (gb301) _ ⟨hHeld, (Z BK295), (Z BK296), (Z BK301), GW301.out, GE301.out, NB295_301.out, NB301_295.out, NB296_301.out, NB301_296.out, (YA HB)⟩)
  intro hJ5_25
  refine join_ (σ := Unit) 6 (lb 27 8255487) (fun s_ => [(18, .int .i64 t297)]) (fun s_ w' => (w'.cell? ⟨gb295, 0, none⟩ = some (.int .i64 a1_0) ∧ w'.cell? ⟨gb295, 1, none⟩ = some (.int .i64 a1_1) ∧ w'.cell? ⟨gb296, 0, none⟩ = some (.int .i64 a2_0) ∧ w'.cell? ⟨gb296, 1, none⟩ = some (.int .i64 a2_1)) ∧ (w'.heap[gb295]? = some (.cells #[.int .i64 a1_0, .int .i64 a1_1] 24 (0, 0))) ∧ (w'.heap[gb296]? = some (.cells #[.int .i64 a2_0, .int .i64 a2_1] 24 (0, 0))) ∧ (Below w.heap.size w w')) ?_ ?_
  rotate_left
  rotate_left
  ·skip
   rintro _ w11 ⟨hS_, h0_, h1_, h2_⟩
   replace BK295 : Bx2 w11 gb295 a1_0 a1_1 24 := ⟨h0_⟩
   replace BK296 : Bx2 w11 gb296 a2_0 a2_1 24 := ⟨h1_⟩
   replace HB : Aside0 (Below w.heap.size w w11) := ⟨h2_⟩
   clear h0_ h1_ h2_
   have hHeld : w11.cell? ⟨gb295, 0, none⟩ = some (.int .i64 a1_0) ∧ w11.cell? ⟨gb295, 1, none⟩ = some (.int .i64 a1_1) ∧ w11.cell? ⟨gb296, 0, none⟩ = some (.int .i64 a2_0) ∧ w11.cell? ⟨gb296, 1, none⟩ = some (.int .i64 a2_1) := hS_
   refine norm_ (a' := ?_) ?_ ?_
   rotate_left
   ·simp only [putAll, Act.put, List.setIfInBounds_toArray, List.set_cons_zero, List.set_cons_succ]
    rfl
   refine two_ (i := 11) (j := 25) (Ni := some 24) (Nj := some 8) (lb 27 8257535) (lb 27 41809919) rfl rfl rfl rfl (two_of HT_.out (by kernel_rfl)) (by decide) (by decide) (fun K hK => ?_) (fun K hK => ?_)
   ·skip
    refine goes_ Try.func61 (by kernel_rfl) rfl #[.int .i64 a0, .int .i64 a1_0, .int .i64 a2_1] (by rfl) rfl rfl mz ?_
    with_reducible refine (impl_numExact.calls _ _ _ _ _ _ A5.out).mono ?_
    rintro e w' ⟨rfl, ⟨nd, rfl⟩⟩
    refine ⟨_, rfl, ?_⟩
    refine kk hK ⟨bc BK295 0, bc BK295 1, bc BK296 0, bc BK296 1⟩ fun hHeld => ?_
    clear hK K
    exact norm_ nz (hJ5_11 () _ ⟨hHeld, (Z BK295), (Z BK296), (YA HB)⟩)
   skip
   refine box_step ?hg (N := 8) ?hd (cs := #[.int .i64 0, .int .i64 0, .int .i64 0, .int .i64 0]) (t := 95) ?hr ?_; (case hd => rfl); (case hg => rfl); (case hr => first | (go_simp; done) | (go_simp; rfl))
   intro gb301 hg w12 hbox hb
   have BK301 := am (hbox)
   have GW301 := am (bs hg (YA HB))
   have GE301 := am (bs hg (YA HB))
   obtain ⟨NB295_301,NB301_295⟩ := ne_ hg BK295
   obtain ⟨NB296_301,NB301_296⟩ := ne_ hg BK296
   obtain ⟨BK295, BK296, HB⟩ := bk2 BK295 BK296 HB hb
   clear hb hbox hg
   refine kk hK ⟨bc BK295 0, bc BK295 1, bc BK296 0, bc BK296 1⟩ fun hHeld => ?_
   clear hK K
   exact norm_ nz (hJ5_25 (gb301) _ ⟨hHeld, (Z BK295), (Z BK296), (Z BK301), GW301.out, GE301.out, NB295_301.out, NB301_295.out, NB296_301.out, NB301_296.out, (YA HB)⟩)
  intro hJ5
  refine join_ (σ := Nat) 6 (lb 27 41809887) (fun s_ => [(8, .pointer (some ⟨s_, 0, none⟩))]) (fun s_ w' => (w'.cell? ⟨gb295, 0, none⟩ = some (.int .i64 a1_0) ∧ w'.cell? ⟨gb295, 1, none⟩ = some (.int .i64 a1_1) ∧ w'.cell? ⟨gb296, 0, none⟩ = some (.int .i64 a2_0) ∧ w'.cell? ⟨gb296, 1, none⟩ = some (.int .i64 a2_1)) ∧ (w'.heap[gb295]? = some (.cells #[.int .i64 a1_0, .int .i64 a1_1] 24 (0, 0))) ∧ (w'.heap[gb296]? = some (.cells #[.int .i64 a2_0, .int .i64 a2_1] 24 (0, 0))) ∧ (w'.heap[s_]? = some (.cells #[.int .i64 0, .int .i64 0, .int .i64 0, .int .i64 0] 95 (0, 0))) ∧ (w.heap.size ≤ s_) ∧ (w.heap.size ≤ s_) ∧ (gb295 ≠ s_) ∧ (s_ ≠ gb295) ∧ (gb296 ≠ s_) ∧ (s_ ≠ gb296) ∧ (Below w.heap.size w w')) ?_ ?_
  rotate_left
  rotate_left
  ·skip
   rintro gb301 w12 ⟨hS_, h0_, h1_, h2_, h3_, h4_, h5_, h6_, h7_, h8_, h9_⟩
   have BK301 : Bx4 w12 gb301 0 0 0 0 95 := ⟨h2_⟩
   have GW301 : Aside0 (w.heap.size ≤ gb301) := ⟨h3_⟩
   have GE301 : Aside0 (w.heap.size ≤ gb301) := ⟨h4_⟩
   have NB295_301 : Aside0 (gb295 ≠ gb301) := ⟨h5_⟩
   have NB301_295 : Aside0 (gb301 ≠ gb295) := ⟨h6_⟩
   have NB296_301 : Aside0 (gb296 ≠ gb301) := ⟨h7_⟩
   have NB301_296 : Aside0 (gb301 ≠ gb296) := ⟨h8_⟩
   replace BK295 : Bx2 w12 gb295 a1_0 a1_1 24 := ⟨h0_⟩
   replace BK296 : Bx2 w12 gb296 a2_0 a2_1 24 := ⟨h1_⟩
   replace HB : Aside0 (Below w.heap.size w w12) := ⟨h9_⟩
   clear h0_ h1_ h2_ h3_ h4_ h5_ h6_ h7_ h8_ h9_
   have hHeld : w12.cell? ⟨gb295, 0, none⟩ = some (.int .i64 a1_0) ∧ w12.cell? ⟨gb295, 1, none⟩ = some (.int .i64 a1_1) ∧ w12.cell? ⟨gb296, 0, none⟩ = some (.int .i64 a2_0) ∧ w12.cell? ⟨gb296, 1, none⟩ = some (.int .i64 a2_1) := hS_
   refine norm_ (a' := ?_) ?_ ?_
   rotate_left
   ·simp only [putAll, Act.put, List.setIfInBounds_toArray, List.set_cons_zero, List.set_cons_succ]
    rfl
   refine on 5 (some 18) 41809919 fun K hK => ?_
   refine goes_ Try.func61 (by kernel_rfl) rfl #[.int .i64 a0, .int .i64 a1_0, .int .i64 a2_0] (by rfl) rfl rfl mz ?_
   with_reducible refine (impl_numExact.calls _ _ _ _ _ _ A4.out).mono ?_
   rintro e w' ⟨rfl, ⟨nd, rfl⟩⟩
   refine ⟨_, rfl, ?_⟩
   refine kk hK ⟨bc BK295 0, bc BK295 1, bc BK296 0, bc BK296 1⟩ fun hHeld => ?_
   clear hK K
   exact norm_ nz (hJ5_25 (gb301) _ ⟨hHeld, (Z BK295), (Z BK296), (Z BK301), GW301.out, GE301.out, NB295_301.out, NB301_295.out, NB296_301.out, NB301_296.out, (YA HB)⟩)
  intro hJ25
  refine two_ (i := 5) (j := 25) (Ni := some 18) (Nj := some 8) (lb 27 8255487) (lb 27 41809887) rfl rfl rfl rfl (two_of HT_.out (by kernel_rfl)) (by decide) (by decide) (fun K hK => ?_) (fun K hK => ?_)
  ·skip
   refine goes_ Try.func61 (by kernel_rfl) rfl #[.int .i64 a0, .int .i64 a1_0, .int .i64 a2_0] (by rfl) rfl rfl mz ?_
   with_reducible refine (impl_numExact.calls _ _ _ _ _ _ A4.out).mono ?_
   rintro e w' ⟨rfl, ⟨nd, rfl⟩⟩
   refine ⟨_, rfl, ?_⟩
   refine kk hK ⟨bc BK295 0, bc BK295 1, bc BK296 0, bc BK296 1⟩ fun hHeld => ?_
   clear hK K
   exact norm_ nz (hJ5 () _ ⟨hHeld, (Z BK295), (Z BK296), (YA HB)⟩)
  skip
  refine box_step ?hg (N := 8) ?hd (cs := #[.int .i64 0, .int .i64 0, .int .i64 0, .int .i64 0]) (t := 95) ?hr ?_; (case hd => rfl); (case hg => rfl); (case hr => first | (go_simp; done) | (go_simp; rfl))
  intro gb301 hg w11 hbox hb
  have BK301 := am (hbox)
  have GW301 := am (bs hg (YA HB))
  have GE301 := am (bs hg (YA HB))
  obtain ⟨NB295_301,NB301_295⟩ := ne_ hg BK295
  obtain ⟨NB296_301,NB301_296⟩ := ne_ hg BK296
  obtain ⟨BK295, BK296, HB⟩ := bk2 BK295 BK296 HB hb
  clear hb hbox hg
  refine kk hK ⟨bc BK295 0, bc BK295 1, bc BK296 0, bc BK296 1⟩ fun hHeld => ?_
  clear hK K
  exact norm_ nz (hJ25 (gb301) _ ⟨hHeld, (Z BK295), (Z BK296), (Z BK301), GW301.out, GE301.out, NB295_301.out, NB301_295.out, NB296_301.out, NB301_296.out, (YA HB)⟩)
 rintro gb301 w12 ⟨hS_, h0_, h1_, h2_, h3_, h4_, h5_, h6_, h7_, h8_, h9_⟩
 have BK301 : Bx4 w12 gb301 0 0 0 0 95 := ⟨h2_⟩
 have GW301 : Aside0 (w.heap.size ≤ gb301) := ⟨h3_⟩
 have GE301 : Aside0 (w.heap.size ≤ gb301) := ⟨h4_⟩
 have NB295_301 : Aside0 (gb295 ≠ gb301) := ⟨h5_⟩
 have NB301_295 : Aside0 (gb301 ≠ gb295) := ⟨h6_⟩
 have NB296_301 : Aside0 (gb296 ≠ gb301) := ⟨h7_⟩
 have NB301_296 : Aside0 (gb301 ≠ gb296) := ⟨h8_⟩
 replace BK295 : Bx2 w12 gb295 a1_0 a1_1 24 := ⟨h0_⟩
 replace BK296 : Bx2 w12 gb296 a2_0 a2_1 24 := ⟨h1_⟩
 replace HB : Aside0 (Below w.heap.size w w12) := ⟨h9_⟩
 clear h0_ h1_ h2_ h3_ h4_ h5_ h6_ h7_ h8_ h9_
 have hHeld : w12.cell? ⟨gb295, 0, none⟩ = some (.int .i64 a1_0) ∧ w12.cell? ⟨gb295, 1, none⟩ = some (.int .i64 a1_1) ∧ w12.cell? ⟨gb296, 0, none⟩ = some (.int .i64 a2_0) ∧ w12.cell? ⟨gb296, 1, none⟩ = some (.int .i64 a2_1) := hS_
 refine norm_ (a' := ?_) ?_ ?_
 rotate_left
 ·simp only [putAll, Act.put, List.setIfInBounds_toArray, List.set_cons_zero, List.set_cons_succ]
  rfl
 refine on 26 none 134217727 fun K hK => ?_
 have hs13 : w12.cell? ⟨gb301, 0, none⟩ = some (.int .i64 0) := bc BK301 0
 have hfs13 := blk_frozen BK301.out 0
 have hns13_0 := NB295_301.out
 have hns13_1 := NB296_301.out
 have hms13_0 := NB301_295.out
 have hms13_1 := NB301_296.out
 have hs14 : w12.cell? ⟨gb301, 1, none⟩ = some (.int .i64 0) := bc BK301 1
 have hfs14 := blk_frozen BK301.out 1
 have hns14_0 := NB295_301.out
 have hns14_1 := NB296_301.out
 have hms14_0 := NB301_295.out
 have hms14_1 := NB301_296.out
 have hs15 : w12.cell? ⟨gb301, 2, none⟩ = some (.int .i64 0) := bc BK301 2
 have hfs15 := blk_frozen BK301.out 2
 have hns15_0 := NB295_301.out
 have hns15_1 := NB296_301.out
 have hms15_0 := NB301_295.out
 have hms15_1 := NB301_296.out
 have hs16 : w12.cell? ⟨gb301, 3, none⟩ = some (.int .i64 0) := bc BK301 3
 have hfs16 := blk_frozen BK301.out 3
 have hns16_0 := NB295_301.out
 have hns16_1 := NB296_301.out
 have hms16_0 := NB301_295.out
 have hms16_1 := NB301_296.out
 refine skip_ (w1 := ?_) (by rfl) rfl ?_ ?_
 rotate_left
 ·go_simp
  rfl
 refine hK.out _ _ ⟨((cell_far (p := ⟨gb301, _, none⟩) NB295_301.out _).trans (((cell_far (p := ⟨gb301, _, none⟩) NB295_301.out _).trans (((cell_far (p := ⟨gb301, _, none⟩) NB295_301.out _).trans (((cell_far (p := ⟨gb301, _, none⟩) NB295_301.out _).trans (hHeld.1)))))))), ((cell_far (p := ⟨gb301, _, none⟩) NB295_301.out _).trans (((cell_far (p := ⟨gb301, _, none⟩) NB295_301.out _).trans (((cell_far (p := ⟨gb301, _, none⟩) NB295_301.out _).trans (((cell_far (p := ⟨gb301, _, none⟩) NB295_301.out _).trans (hHeld.2.1)))))))), ((cell_far (p := ⟨gb301, _, none⟩) NB296_301.out _).trans (((cell_far (p := ⟨gb301, _, none⟩) NB296_301.out _).trans (((cell_far (p := ⟨gb301, _, none⟩) NB296_301.out _).trans (((cell_far (p := ⟨gb301, _, none⟩) NB296_301.out _).trans (hHeld.2.2.1)))))))), ((cell_far (p := ⟨gb301, _, none⟩) NB296_301.out _).trans (((cell_far (p := ⟨gb301, _, none⟩) NB296_301.out _).trans (((cell_far (p := ⟨gb301, _, none⟩) NB296_301.out _).trans (((cell_far (p := ⟨gb301, _, none⟩) NB296_301.out _).trans (hHeld.2.2.2))))))))⟩ (fun hHeld => ?_)
 clear hK K
 refine done_ (done_of HT_.out (by kernel_rfl)) ?_
 try go_wp2
 have n0_ : Aside0 (((((w12.setCell ⟨gb301, 0, none⟩ (.int .i64 t297)).setCell ⟨gb301, 1, none⟩ (.int .i64 t298)).setCell ⟨gb301, 2, none⟩ (.int .i64 t299)).setCell ⟨gb301, 3, none⟩ (.int .i64 t300)).heap[gb295]? = some (.cells #[.int .i64 a1_0, .int .i64 a1_1] 24 (0, 0))) := ⟨by refine fa NB295_301 ?_; refine fa NB295_301 ?_; refine fa NB295_301 ?_; refine fa NB295_301 ?_; exact Z BK295⟩
 have n1_ : Aside0 (((((w12.setCell ⟨gb301, 0, none⟩ (.int .i64 t297)).setCell ⟨gb301, 1, none⟩ (.int .i64 t298)).setCell ⟨gb301, 2, none⟩ (.int .i64 t299)).setCell ⟨gb301, 3, none⟩ (.int .i64 t300)).heap[gb296]? = some (.cells #[.int .i64 a2_0, .int .i64 a2_1] 24 (0, 0))) := ⟨by refine fa NB296_301 ?_; refine fa NB296_301 ?_; refine fa NB296_301 ?_; refine fa NB296_301 ?_; exact Z BK296⟩
 have n2_ : Aside0 (((((w12.setCell ⟨gb301, 0, none⟩ (.int .i64 t297)).setCell ⟨gb301, 1, none⟩ (.int .i64 t298)).setCell ⟨gb301, 2, none⟩ (.int .i64 t299)).setCell ⟨gb301, 3, none⟩ (.int .i64 t300)).heap[gb301]? = some (.cells #[.int .i64 t297, .int .i64 t298, .int .i64 t299, .int .i64 t300] 95 (0, 0))) := ⟨by refine pf ?_; refine blk_put (cs := #[.int .i64 t297, .int .i64 t298, .int .i64 t299, .int .i64 0]) ?_ 3 _ rfl; refine pf ?_; refine blk_put (cs := #[.int .i64 t297, .int .i64 t298, .int .i64 0, .int .i64 0]) ?_ 2 _ rfl; refine pf ?_; refine blk_put (cs := #[.int .i64 t297, .int .i64 0, .int .i64 0, .int .i64 0]) ?_ 1 _ rfl; refine pf ?_; refine blk_put (cs := #[.int .i64 0, .int .i64 0, .int .i64 0, .int .i64 0]) ?_ 0 _ rfl; exact Z BK301⟩
 have n3_ : Aside0 (Below w.heap.size w ((((w12.setCell ⟨gb301, 0, none⟩ (.int .i64 t297)).setCell ⟨gb301, 1, none⟩ (.int .i64 t298)).setCell ⟨gb301, 2, none⟩ (.int .i64 t299)).setCell ⟨gb301, 3, none⟩ (.int .i64 t300))) := ⟨YA HB⟩
 (try clear BK295)
 (try clear BK296)
 (try clear BK301)
 (try clear HB)
 generalize ((((w12.setCell ⟨gb301, 0, none⟩ (.int .i64 t297)).setCell ⟨gb301, 1, none⟩ (.int .i64 t298)).setCell ⟨gb301, 2, none⟩ (.int .i64 t299)).setCell ⟨gb301, 3, none⟩ (.int .i64 t300)) = w17 at n0_ n1_ n2_ n3_ ⊢
 have BK295 := n0_
 have BK296 := n1_
 have BK301 := n2_
 have HB := n3_
 clear n0_ n1_ n2_ n3_
 obtain ⟨BK295, BK296, BK301, HB⟩ := dk3 BK295 BK296 BK301 HB
 refine start_ (n := 6) (S := fun w' => w'.cell? ⟨gb301, 0, none⟩ = some (.int .i64 t297) ∧ w'.cell? ⟨gb301, 1, none⟩ = some (.int .i64 t298) ∧ w'.cell? ⟨gb301, 2, none⟩ = some (.int .i64 t299) ∧ w'.cell? ⟨gb301, 3, none⟩ = some (.int .i64 t300)) (ds := []) (lb 6 0) (by kernel_rfl) rfl rfl ⟨bc BK301 0, bc BK301 1, bc BK301 2, bc BK301 3⟩ (fun hHeld => ?_)
 generalize w17.drew = w18 at BK295 BK296 BK301 HB hHeld ⊢
 refine pure_ (i := 0) (N := some 38) (v := ?_) (a' := ?_) (lb 6 1) rfl rfl (by kernel_rfl) (fun _ _ _ h => h) (Or.inl ⟨by rfl, ?_⟩) ?_ ?_
 rotate_left
 ·exact gz
 rotate_left
 ·exact pz
 refine pure_ (i := 2) (N := some 40) (v := ?_) (a' := ?_) (lb 6 5) rfl rfl (by kernel_rfl) (fun _ _ _ h => h) (Or.inl ⟨by rfl, ?_⟩) ?_ ?_
 rotate_left
 ·exact gz
 rotate_left
 ·exact pz
 refine take_ (i := 1) (N := some 39) (v := ?_) (a' := ?_) (lb 6 7) rfl rfl (by kernel_rfl) (fun _ _ _ h => h) (Or.inl ⟨by rfl, ?_⟩) hHeld ?_ ?_
 rotate_left
 ·rintro w' ⟨s0, s1, s2, s3⟩
  go_simp
  with_reducible rfl
 rotate_left
 ·exact pz
 refine pure_ (i := 4) (N := some 9) (v := ?_) (a' := ?_) (lb 6 23) rfl rfl (by kernel_rfl) (fun _ _ _ h => h) (Or.inl ⟨by rfl, ?_⟩) ?_ ?_
 rotate_left
 ·exact gz
 rotate_left
 ·exact pz
 refine take_ (i := 3) (N := some 41) (v := ?_) (a' := ?_) (lb 6 31) rfl rfl (by kernel_rfl) (fun _ _ _ h => h) (Or.inl ⟨by rfl, ?_⟩) hHeld ?_ ?_
 rotate_left
 ·rintro w' ⟨s0, s1, s2, s3⟩
  go_simp
  with_reducible rfl
 rotate_left
 ·exact pz
 refine pure_ (i := 5) (N := some 10) (v := ?_) (a' := ?_) (lb 6 63) rfl rfl (by kernel_rfl) (fun _ _ _ h => h) (Or.inl ⟨by rfl, ?_⟩) ?_ ?_
 rotate_left
 ·exact gz
 rotate_left
 ·exact pz
 refine done_ (by kernel_rfl) ?_
 obtain ⟨hnb19,hnc19⟩ := nn NB301_295
 obtain ⟨hnb20,hnc20⟩ := nn NB301_296
 obtain ⟨hcz21_0,hcz21_1,hcz21_2,hcz21_3,hfz21_0,hfz21_1,hfz21_2,hfz21_3⟩ := cB4 BK301
 try go_wp2
 go_loopg [9, 10, 43] k (fun kq v9 v10 v43 w' => ∃ (x9_1 : Int) (x10_1 : Int) (x43_1 : Int), v9 = .int .i64 x9_1 ∧ v10 = .int .i64 x10_1 ∧ v43 = .int .i64 x43_1 ∧ Aside0 (impl_rangeCorners.l0 kq x9_1 x10_1 x43_1 t297 t298 t299 t300 = some (r1, r2)) ∧ Aside0 (kq ≤ k) ∧ Aside0 (w'.heap[gb295]? = some (.cells #[.int .i64 a1_0, .int .i64 a1_1] 24 (0, 0))) ∧ Aside0 (w'.heap[gb296]? = some (.cells #[.int .i64 a2_0, .int .i64 a2_1] 24 (0, 0))) ∧ Aside0 (w'.heap[gb301]? = some (.cells #[.int .i64 t297, .int .i64 t298, .int .i64 t299, .int .i64 t300] 95 (0, 0))) ∧ Aside0 (Below w.heap.size w w'))
 case atStart => exact ⟨(t297), (t297), (0), ey, ey, ey, H', ⟨Nat.le_refl _⟩, ⟨Z BK295⟩, ⟨Z BK296⟩, ⟨Z BK301⟩, ⟨YA HB⟩⟩
 case round =>
  clear H'
  (try clear hcz21_0);(try clear hcz21_1);(try clear hcz21_2);(try clear hcz21_3);(try clear hfz21_0);(try clear hfz21_1);(try clear hfz21_2);(try clear hfz21_3)
  obtain ⟨x9_1, x10_1, x43_1, rfl, rfl, rfl, HA, HK1, BK295, BK296, BK301, HB⟩ := hrel
  cases gk with
  | zero => exact absurd HA.out (by simp [impl_rangeCorners.l0])
  | succ k1 =>
   have H := HA.out
   clear HA
   simp only [impl_rangeCorners.l0] at H
   by_cases c22 : x43_1 < 4
   rotate_left
   ·rw [if_neg c22] at H
    have c22b0 := dF c22
    clear c22
    simp only [Option.some.injEq, Prod.mk.injEq] at H
    obtain ⟨rfl, rfl⟩ := H
    go_wp2
    go_ret2
    exact ⟨ez, YA HB⟩
   rw [if_pos c22] at H
   have c22b0 := dT c22
   clear c22
   by_cases c23 : x43_1 = 0
   ·rw [if_pos c23] at H
    have hix23 : ∀ w', (Instr.index 95 (.agg #[.int .i64 t297, .int .i64 t298, .int .i64 t299, .int .i64 t300]) (.int .i64 x43_1)).run Try.prog w' = .ok (.int .i64 t297) w' := by intro w'; rw [c23]; first | (go_simp; done) | (go_simp; rfl) | rfl
    have c23b0 := eT c23
    have c23b1 := nF c23
    clear c23
    obtain ⟨ji24, hji24⟩ : ∃ j_ : Int, (mn x9_1 t297) = j_ := ⟨_, rfl⟩
    replace H : (impl_rangeCorners.l0 k1 ji24 (mx x10_1 t297) (wrap64 (x43_1 + 1)) t297 t298 t299 t300) = some (r1, r2) := by first | (rw [hji24] at H; exact H) | (simp only [hji24] at H ⊢; exact H)
    have hji24_ : (if t297 < x9_1 then t297 else x9_1) = ji24 := hji24
    obtain ⟨ji25, hji25⟩ : ∃ j_ : Int, (mx x10_1 t297) = j_ := ⟨_, rfl⟩
    replace H : (impl_rangeCorners.l0 k1 ji24 ji25 (wrap64 (x43_1 + 1)) t297 t298 t299 t300) = some (r1, r2) := by first | (rw [hji25] at H; exact H) | (simp only [hji25] at H ⊢; exact H)
    have hji25_ : (if x10_1 < t297 then t297 else x10_1) = ji25 := hji25
    have H' := am H
    clear H
    go_wp2
    go_roundg k1
    case measure => have := HK1.out; omega
    case rel => exact ⟨(ji24), (ji25), (wrap64 (x43_1 + 1)), (by first | rfl | (simp; done) | (simp only [← hji24] <;> (first | rfl | simp)) | (simp [*]; done)), (by first | rfl | (simp; done) | (simp only [← hji25] <;> (first | rfl | simp)) | (simp [*]; done)), ey, H', ⟨by have := HK1.out; omega⟩, ⟨Z BK295⟩, ⟨Z BK296⟩, ⟨Z BK301⟩, ⟨YA HB⟩⟩
   rw [if_neg c23] at H
   have c23b0 := eF c23
   have c23b1 := nT c23
   by_cases c26 : x43_1 = 1
   ·rw [if_pos c26] at H
    have hix26 : ∀ w', (Instr.index 95 (.agg #[.int .i64 t297, .int .i64 t298, .int .i64 t299, .int .i64 t300]) (.int .i64 x43_1)).run Try.prog w' = .ok (.int .i64 t298) w' := by intro w'; rw [c26]; first | (go_simp; done) | (go_simp; rfl) | rfl
    have c26b0 := eT c26
    have c26b1 := nF c26
    clear c26
    obtain ⟨ji27, hji27⟩ : ∃ j_ : Int, (mn x9_1 t298) = j_ := ⟨_, rfl⟩
    replace H : (impl_rangeCorners.l0 k1 ji27 (mx x10_1 t298) (wrap64 (x43_1 + 1)) t297 t298 t299 t300) = some (r1, r2) := by first | (rw [hji27] at H; exact H) | (simp only [hji27] at H ⊢; exact H)
    have hji27_ : (if t298 < x9_1 then t298 else x9_1) = ji27 := hji27
    obtain ⟨ji28, hji28⟩ : ∃ j_ : Int, (mx x10_1 t298) = j_ := ⟨_, rfl⟩
    replace H : (impl_rangeCorners.l0 k1 ji27 ji28 (wrap64 (x43_1 + 1)) t297 t298 t299 t300) = some (r1, r2) := by first | (rw [hji28] at H; exact H) | (simp only [hji28] at H ⊢; exact H)
    have hji28_ : (if x10_1 < t298 then t298 else x10_1) = ji28 := hji28
    have H' := am H
    clear H
    go_wp2
    go_roundg k1
    case measure => have := HK1.out; omega
    case rel => exact ⟨(ji27), (ji28), (wrap64 (x43_1 + 1)), (by first | rfl | (simp; done) | (simp only [← hji27] <;> (first | rfl | simp)) | (simp [*]; done)), (by first | rfl | (simp; done) | (simp only [← hji28] <;> (first | rfl | simp)) | (simp [*]; done)), ey, H', ⟨by have := HK1.out; omega⟩, ⟨Z BK295⟩, ⟨Z BK296⟩, ⟨Z BK301⟩, ⟨YA HB⟩⟩
   rw [if_neg c26] at H
   have c26b0 := eF c26
   have c26b1 := nT c26
   by_cases c29 : x43_1 = 2
   ·rw [if_pos c29] at H
    have hix29 : ∀ w', (Instr.index 95 (.agg #[.int .i64 t297, .int .i64 t298, .int .i64 t299, .int .i64 t300]) (.int .i64 x43_1)).run Try.prog w' = .ok (.int .i64 t299) w' := by intro w'; rw [c29]; first | (go_simp; done) | (go_simp; rfl) | rfl
    have c29b0 := eT c29
    have c29b1 := nF c29
    clear c29
    obtain ⟨ji30, hji30⟩ : ∃ j_ : Int, (mn x9_1 t299) = j_ := ⟨_, rfl⟩
    replace H : (impl_rangeCorners.l0 k1 ji30 (mx x10_1 t299) (wrap64 (x43_1 + 1)) t297 t298 t299 t300) = some (r1, r2) := by first | (rw [hji30] at H; exact H) | (simp only [hji30] at H ⊢; exact H)
    have hji30_ : (if t299 < x9_1 then t299 else x9_1) = ji30 := hji30
    obtain ⟨ji31, hji31⟩ : ∃ j_ : Int, (mx x10_1 t299) = j_ := ⟨_, rfl⟩
    replace H : (impl_rangeCorners.l0 k1 ji30 ji31 (wrap64 (x43_1 + 1)) t297 t298 t299 t300) = some (r1, r2) := by first | (rw [hji31] at H; exact H) | (simp only [hji31] at H ⊢; exact H)
    have hji31_ : (if x10_1 < t299 then t299 else x10_1) = ji31 := hji31
    have H' := am H
    clear H
    go_wp2
    go_roundg k1
    case measure => have := HK1.out; omega
    case rel => exact ⟨(ji30), (ji31), (wrap64 (x43_1 + 1)), (by first | rfl | (simp; done) | (simp only [← hji30] <;> (first | rfl | simp)) | (simp [*]; done)), (by first | rfl | (simp; done) | (simp only [← hji31] <;> (first | rfl | simp)) | (simp [*]; done)), ey, H', ⟨by have := HK1.out; omega⟩, ⟨Z BK295⟩, ⟨Z BK296⟩, ⟨Z BK301⟩, ⟨YA HB⟩⟩
   rw [if_neg c29] at H
   have c29b0 := eF c29
   have c29b1 := nT c29
   by_cases c32 : x43_1 = 3
   rotate_left
   ·rw [if_neg c32] at H
    exact absurd H (by simp)
   rw [if_pos c32] at H
   have hix32 : ∀ w', (Instr.index 95 (.agg #[.int .i64 t297, .int .i64 t298, .int .i64 t299, .int .i64 t300]) (.int .i64 x43_1)).run Try.prog w' = .ok (.int .i64 t300) w' := by intro w'; rw [c32]; first | (go_simp; done) | (go_simp; rfl) | rfl
   have c32b0 := eT c32
   have c32b1 := nF c32
   clear c32
   obtain ⟨ji33, hji33⟩ : ∃ j_ : Int, (mn x9_1 t300) = j_ := ⟨_, rfl⟩
   replace H : (impl_rangeCorners.l0 k1 ji33 (mx x10_1 t300) (wrap64 (x43_1 + 1)) t297 t298 t299 t300) = some (r1, r2) := by first | (rw [hji33] at H; exact H) | (simp only [hji33] at H ⊢; exact H)
   have hji33_ : (if t300 < x9_1 then t300 else x9_1) = ji33 := hji33
   obtain ⟨ji34, hji34⟩ : ∃ j_ : Int, (mx x10_1 t300) = j_ := ⟨_, rfl⟩
   replace H : (impl_rangeCorners.l0 k1 ji33 ji34 (wrap64 (x43_1 + 1)) t297 t298 t299 t300) = some (r1, r2) := by first | (rw [hji34] at H; exact H) | (simp only [hji34] at H ⊢; exact H)
   have hji34_ : (if x10_1 < t300 then t300 else x10_1) = ji34 := hji34
   have H' := am H
   clear H
   go_wp2
   go_roundg k1
   case measure => have := HK1.out; omega
   case rel => exact ⟨(ji33), (ji34), (wrap64 (x43_1 + 1)), (by first | rfl | (simp; done) | (simp only [← hji33] <;> (first | rfl | simp)) | (simp [*]; done)), (by first | rfl | (simp; done) | (simp only [← hji34] <;> (first | rfl | simp)) | (simp [*]; done)), ey, H', ⟨by have := HK1.out; omega⟩, ⟨Z BK295⟩, ⟨Z BK296⟩, ⟨Z BK301⟩, ⟨YA HB⟩⟩

end Go.Proofs.Ythbkakcchgnhpaa.PFnRangeFaults
