/- Written by this session's own driver (wip/dprint.py): the functions that the law FnExactLexJoin reaches, as Lean functions, each with its contract. -/
import Derived.Test.YtnbpgnkplahknaaDoorPFnExactLexJoinx0
import Derived.Test.YtnbpgnkplahknaaDoorPFnExactLexJoinx6
import Derived.Test.YtnbpgnkplahknaaDoorPFnExactLexJoinx8
import Derived.Test.YtnbpgnkplahknaaDoorSq
namespace Go.Proofs.YtnbpgnkplahknaaDoor.PFnExactLexJoin
open Go.RowKit Go.Proofs.YtnbpgnkplahknaaDoorW.PrintWords Go.Proofs.YtnbpgnkplahknaaDoorW.PrintLast Go.Proofs.YtnbpgnkplahknaaDoorW.PrintMore Go.Proofs.YtnbpgnkplahknaaDoorSq
attribute [local go_sem] max2_int min2_int max_two min_two max_three min_three max_four min_four   -- for this text's walks alone
set_option linter.unusedVariables false
set_option linter.unusedSimpArgs false

/-! ### impl_LexTokens: function 11 -/
attribute [local go_sem] Go.Proofs.YtnbpgnkplahknaaDoorSet.isSome_setCell
mutual
def impl_LexTokens.l0 : Nat → ByteArray → List (S42) → Int → Option ((List (S42)) × Int × Int)
 | 0, _, _, _ => none
 | k + 1, x0, x4, x5 => if x5 < (x0.size : Int) then ((impl_lexToken.f k x0 x5).bind fun bt193 => (if bt193.2.2.2.2 = 0 then (impl_LexTokens.j1 k x0 x4 x5 bt193.2.2.2.2 ((x4.length : Int) == 700) bt193.1 bt193.2.1 bt193.2.2.1 bt193.2.2.2.1) else (impl_LexTokens.j1 k x0 x4 x5 bt193.2.2.2.2 false bt193.1 bt193.2.1 bt193.2.2.1 bt193.2.2.2.1))) else (some (x4, 0, 0))
def impl_LexTokens.j1 : Nat → ByteArray → List (S42) → Int → Int → Bool → Int → Int → ByteArray → Int → Option ((List (S42)) × Int × Int)
 | 0, _, _, _, _, _, _, _, _, _ => none
 | k + 1, x0, x4, x5, x7, x33, x199000, x199001, x199002, x199003 => if x33 = true then (some (([] : List (S42)), 5, x5)) else (if x7 = 0 then (if x4.length < 3518437208883 then ((impl_lexSkip.f k x0 (wrap64 (x5 + (x199002.size : Int)))).bind fun t202 => (impl_LexTokens.l0 k x0 (x4 ++ [(⟨x199000, x199001, x199002, x199003⟩ : S42)]) t202)) else (none)) else (some (([] : List (S42)), x7, x5)))
end
def impl_LexTokens.f (k : Nat) (a0 : ByteArray) : Option ((List (S42)) × Int × Int) := if (a0.size : Int) > 3000 then (some (([] : List (S42)), 1, 0)) else ((impl_lexSkip.f k a0 0).bind fun t192 => (impl_LexTokens.l0 k a0 ([] : List (S42)) t192))
theorem impl_LexTokens.mono_l : ∀ k, (∀ y0 y1 y2, LeO (impl_LexTokens.l0 k y0 y1 y2) (impl_LexTokens.l0 (k + 1) y0 y1 y2)) ∧ (∀ y0 y1 y2 y3 y4 y5 y6 y7 y8, LeO (impl_LexTokens.j1 k y0 y1 y2 y3 y4 y5 y6 y7 y8) (impl_LexTokens.j1 (k + 1) y0 y1 y2 y3 y4 y5 y6 y7 y8))
 | 0 => ⟨fun _ _ _ r h => by simp [impl_LexTokens.l0] at h, fun _ _ _ _ _ _ _ _ _ r h => by simp [impl_LexTokens.j1] at h⟩
 | k + 1 => by
  obtain ⟨ih0, ih1⟩ := impl_LexTokens.mono_l k
  refine ⟨?_, ?_⟩
  ·intro y0 y1 y2
   unfold impl_LexTokens.l0
   repeat' first
   | (with_reducible exact ih0 _ _ _)
   | (with_reducible exact ih1 _ _ _ _ _ _ _ _ _)
   | (with_reducible exact impl_lexSkip.mono _ _ _)
   | (with_reducible exact impl_lexToken.mono _ _ _)
   | (with_reducible exact LeO.refl _)
   | (with_reducible exact LeO.none _)
   | (with_reducible refine LeO.ite ?_ ?_)
   | (with_reducible refine LeO.bind ?_ (fun _ => ?_))
   | exact ih0 _ _ _
   | exact ih1 _ _ _ _ _ _ _ _ _
   | exact impl_lexSkip.mono _ _ _
   | exact impl_lexToken.mono _ _ _
   | exact LeO.none _
   | refine LeO.ite ?_ ?_
   | refine LeO.bind ?_ (fun _ => ?_)
  ·intro y0 y1 y2 y3 y4 y5 y6 y7 y8
   unfold impl_LexTokens.j1
   repeat' first
   | (with_reducible exact ih0 _ _ _)
   | (with_reducible exact ih1 _ _ _ _ _ _ _ _ _)
   | (with_reducible exact impl_lexSkip.mono _ _ _)
   | (with_reducible exact impl_lexToken.mono _ _ _)
   | (with_reducible exact LeO.refl _)
   | (with_reducible exact LeO.none _)
   | (with_reducible refine LeO.ite ?_ ?_)
   | (with_reducible refine LeO.bind ?_ (fun _ => ?_))
   | exact ih0 _ _ _
   | exact ih1 _ _ _ _ _ _ _ _ _
   | exact impl_lexSkip.mono _ _ _
   | exact impl_lexToken.mono _ _ _
   | exact LeO.none _
   | refine LeO.ite ?_ ?_
   | refine LeO.bind ?_ (fun _ => ?_)
theorem impl_LexTokens.mono : ∀ a0 k, LeO (impl_LexTokens.f k a0) (impl_LexTokens.f (k + 1) a0) := by
 intro a0 k
 obtain ⟨ih0, ih1⟩ := impl_LexTokens.mono_l k
 unfold impl_LexTokens.f
 repeat' first
   | (with_reducible exact ih0 _ _ _)
   | (with_reducible exact ih1 _ _ _ _ _ _ _ _ _)
   | (with_reducible exact impl_lexSkip.mono _ _ _)
   | (with_reducible exact impl_lexToken.mono _ _ _)
   | (with_reducible exact LeO.refl _)
   | (with_reducible exact LeO.none _)
   | (with_reducible refine LeO.ite ?_ ?_)
   | (with_reducible refine LeO.bind ?_ (fun _ => ?_))
   | exact ih0 _ _ _
   | exact ih1 _ _ _ _ _ _ _ _ _
   | exact impl_lexSkip.mono _ _ _
   | exact impl_lexToken.mono _ _ _
   | exact LeO.none _
   | refine LeO.ite ?_ ?_
   | refine LeO.bind ?_ (fun _ => ?_)
set_option maxHeartbeats 8000000 in
set_option maxRecDepth 100000 in
theorem impl_LexTokens.calls (k : Nat) (a0 : ByteArray) (r1 : List (S42)) (r2 : Int) (r3 : Int) (w : World) (h : impl_LexTokens.f k a0 = some (r1, r2, r3)) (hT : PFnExactSignAt.Tab w := by first | exact HTb.out | exact hT | exact hT_ | exact PFnExactSignAt.Tab.below HTb.out (by assumption) | exact PFnExactSignAt.Tab.below HTb.out (by repeat (first | (with_reducible first | exact HB.out | apply below_alloc | apply pw_below_drewN | apply below_drew1 | apply below_drew) | exact HB.out | refine below_set ?_ (Aside0.out (by assumption))))) :
  Calls Tryd.prog 11 #[.string a0] w fun e w' => ∃ v0_ : Value, e = .returned (.tuple #[v0_, .agg #[.int .i64 r2, .int .i64 r3]]) ∧ Kd.R k42 42 w' w.heap.size (fun _ => True) v0_ r1 ∧ Below w.heap.size w w' := by
 have HTb := am hT
 clear hT
 have hu26 := Tryd.underlying26
 have hu42 := Tryd.underlying42
 have HB := am (Below.refl w.heap.size w)
 have H : (if (a0.size : Int) > 3000 then (some (([] : List (S42)), 1, 0)) else ((impl_lexSkip.f k a0 0).bind fun t192 => (impl_LexTokens.l0 k a0 ([] : List (S42)) t192))) = some (r1, r2, r3) := h
 clear h
 by_cases c2 : (a0.size : Int) > 3000
 ·rw [if_pos c2] at H
  have c2b0 : decide (3000 < (a0.size : Int)) = true := decide_eq_true c2
  have c2b1 : decide (3000 < a0.size) = true := decide_eq_true (by omega)
  clear c2
  simp only [Option.some.injEq, Prod.mk.injEq] at H
  obtain ⟨rfl, rfl, rfl⟩ := H
  go_enter Tryd.func11, Tryd.ntmps11
  go_wp2_with (first | ((with_reducible refine gate_dst (N := 3) rfl ?_); (try (refine gate_guard (by rfl) ?_; dsimp only)); refine bx 3 #[.int .i64 0, .int .i64 0] 26 ?_; intro gb191 hg w3 hbox hb; have BK191 := am (hbox); have GW191 := am (bs hg (Y0 HB)); have GE191 := am (bs hg (Y0 HB)); replace HB := am (below_step (Y0 HB) hb); clear hb hbox hg; obtain ⟨hcz4_0,hcz4_1,hfz4_0,hfz4_1⟩ := cB2 BK191))
  refine bodyPost_ret (results_tc rfl _ _ gb191 26 #[.int .i64 1, .int .i64 0] (0, 0) _ rfl (by refine pf ?_; refine blk_put (cs := #[.int .i64 1, .int .i64 0]) ?_ 1 _ rfl; refine pf ?_; refine blk_put (cs := #[.int .i64 0, .int .i64 0]) ?_ 0 _ rfl; exact Z BK191) Tryd.underlying26 rfl (by kernel_rfl)) rfl ?_
  exact ⟨_, ez, by first | exact Kd.R_nil _ _ _ _ _ | exact Kd.N_nil _ _ _ _ _ | exact Kd.V_nil _ _ _ _ _ | exact Kd.Q_nil _ _ _ _ _ | exact Kd.S_nil _ _ _ _ _, Y1 HB GE191⟩
 rw [if_neg c2] at H
 have c2b0 : decide (3000 < (a0.size : Int)) = false := decide_eq_false c2
 have c2b1 : decide (3000 < a0.size) = false := decide_eq_false (by omega)
 clear c2
 replace H := Option.bind_eq_some_iff.mp H
 obtain ⟨t192, A50, H⟩ := H
 try dsimp only at H
 have A5 := am A50
 clear A50
 have H' := am H
 clear H
 go_enter Tryd.func11, Tryd.ntmps11
 go_wp2_with (first | ((with_reducible refine gate_dst (N := 3) rfl ?_); (try (refine gate_guard (by rfl) ?_; dsimp only)); refine bx 3 #[.int .i64 0, .int .i64 0] 26 ?_; intro gb191 hg w6 hbox hb; have BK191 := am (hbox); have GW191 := am (bs hg (Y0 HB)); have GE191 := am (bs hg (Y0 HB)); replace HB := am (below_step (Y0 HB) hb); clear hb hbox hg) | ((with_reducible refine gate_callee (f := 26) rfl ?_); refine goesL_ (some 13) rfl rfl Tryd.func26 (by kernel_rfl) rfl #[.string a0, .int .i64 0] rfl mz ?_; (with_reducible refine (impl_lexSkip.calls k a0 0 t192 _ A5.out).mono ?_); rintro e w' ⟨rfl, ⟨nd, rfl⟩⟩; refine ⟨_, rfl, ?_⟩))
 go_loopg [4, 5] k (fun kq v4 v5 w' => ∃ (x4_1 : List (S42)) (x5_1 : Int) (x192000_1 : Int) (x192001_1 : Int), v5 = .int .i64 x5_1 ∧ Aside0 (impl_LexTokens.l0 kq a0 x4_1 x5_1 = some (r1, r2, r3)) ∧ Aside0 (kq ≤ k) ∧ Aside0 (Kd.R k42 42 w' w.heap.size (fun _ => True) v4 x4_1) ∧ Aside0 (w'.heap[gb191]? = some (.cells #[.int .i64 x192000_1, .int .i64 x192001_1] 26 (0, 0))) ∧ Aside0 (Below w.heap.size w w'))
 case atStart => exact ⟨(([] : List (S42))), (t192), (0), (0), ey, H', ⟨Nat.le_refl _⟩, ⟨by first | exact Kd.R_nil _ _ _ _ _ | exact Kd.N_nil _ _ _ _ _ | exact Kd.V_nil _ _ _ _ _ | exact Kd.Q_nil _ _ _ _ _ | exact Kd.S_nil _ _ _ _ _⟩, ⟨Z BK191⟩, ⟨Y1 HB GE191⟩⟩
 case round =>
  clear H'
  (try clear c2b0);(try clear c2b1)
  obtain ⟨x4_1, x5_1, x192000_1, x192001_1, rfl, HA, HK1, HO_4, BK191, HB⟩ := hrel
  cases gk with
  | zero => exact absurd HA.out (by simp [impl_LexTokens.l0])
  | succ k1 =>
   have H := HA.out
   clear HA
   simp only [impl_LexTokens.l0] at H
   by_cases c7 : x5_1 < (a0.size : Int)
   rotate_left
   ·rw [if_neg c7] at H
    have c7b0 : decide (x5_1 < (a0.size : Int)) = false := decide_eq_false c7
    clear c7
    simp only [Option.some.injEq, Prod.mk.injEq] at H
    obtain ⟨rfl, rfl, rfl⟩ := H
    obtain ⟨hcz28_0,hcz28_1,hfz28_0,hfz28_1⟩ := cB2 BK191
    go_wp2
    refine bodyPost_ret (results_tc rfl _ _ gb191 26 #[.int .i64 0, .int .i64 0] (0, 0) _ rfl (by refine pf ?_; refine blk_put (cs := #[.int .i64 0, .int .i64 x192001_1]) ?_ 1 _ rfl; refine pf ?_; refine blk_put (cs := #[.int .i64 x192000_1, .int .i64 x192001_1]) ?_ 0 _ rfl; exact Z BK191) Tryd.underlying26 rfl (by kernel_rfl)) rfl ?_
    exact ⟨_, ez, by (with_reducible repeat (first | apply Kd.R_alloc | apply Kd.R_drewN | apply Kd.R_drew)); exact Kd.R_mono (Kd.R_far (p := ⟨gb191, 1, none⟩) (Kd.R_far (p := ⟨gb191, 0, none⟩) (Kd.R_types HO_4.out BK191.out (by decide)) (fun _ hk => hk.2) (.int .i64 0)) (fun _ hk => hk.2) (.int .i64 0)) (fun _ hk => trivial), Y1 HB GE191⟩
   rw [if_pos c7] at H
   have c7b0 : decide (x5_1 < (a0.size : Int)) = true := decide_eq_true c7
   clear c7
   replace H := Option.bind_eq_some_iff.mp H
   obtain ⟨⟨t193, t194, t195, t196, t197⟩, A80, H⟩ := H
   try dsimp only at H
   have A8 := am A80
   clear A80
   have HC9 := am H
   clear H
   go_upto_region 8 with (first | ((with_reducible refine gate_callee (f := 27) rfl ?_); refine goesL_ (some 24) rfl rfl Tryd.func27 (by kernel_rfl) rfl #[.string a0, .int .i64 x5_1] rfl mz ?_; (with_reducible refine (impl_lexToken.calls k1 a0 x5_1 t193 t194 t195 t196 t197 _ A8.out).mono ?_); rintro e w10 ⟨rfl, hb⟩; refine ⟨_, rfl, ?_⟩; replace HO_4 := am (Kd.R_below (by (with_reducible repeat (first | apply Kd.R_alloc | apply Kd.R_drewN | apply Kd.R_drew)); exact HO_4.out) hb); replace BK191 := bb BK191 hb; replace HB := am (below_step (Y1 HB GE191) hb); (try clear hb)) | ((with_reducible refine gate_dst (N := 6) rfl ?_); (try (refine gate_guard (by rfl) ?_; dsimp only)); refine bx 6 #[.int .i64 0, .int .i64 0, .string (⟨#[]⟩ : ByteArray), .int .i64 0] 42 ?_; intro gb198 hg w11 hbox hb; have BK198 := am (hbox); have GW198 := am (bs hg (Y1 HB GE191)); have GE198 := am (bs hg (Y1 HB GE191)); obtain ⟨NB191_198,NB198_191⟩ := ne_ hg BK191; replace HO_4 := am (Kd.R_below (Kd.R_elderB (by (with_reducible repeat (first | apply Kd.R_alloc | apply Kd.R_drewN | apply Kd.R_drew)); exact HO_4.out) gb198 (Nat.le_of_eq hg.symm)) hb); replace BK191 := bb BK191 hb; replace HB := am (below_step (Y1 HB GE191) hb); clear hb hbox hg; obtain ⟨hnb12,hnc12⟩ := nn NB198_191; obtain ⟨hcz13_0,hcz13_1,hcz13_2,hcz13_3,hfz13_0,hfz13_1,hfz13_2,hfz13_3⟩ := cB4 BK198))
   (try simp only [Act.put, List.setIfInBounds_toArray, List.set_cons_zero, List.set_cons_succ])
   go_cut [33] (fun v33 wc => ∃ (kq : Nat) (x33_8 : Bool), v33 = .bool x33_8 ∧ Aside0 (impl_LexTokens.j1 kq a0 x4_1 x5_1 t197 x33_8 t193 t194 t195 t196 = some (r1, r2, r3)) ∧ Aside0 (kq ≤ k1) ∧ Aside0 (Kd.R k42 42 wc w.heap.size (fun k_ => k_ ≠ gb198) u4 x4_1) ∧ Aside0 (wc.heap[gb191]? = some (.cells #[.int .i64 x192000_1, .int .i64 x192001_1] 26 (0, 0))) ∧ Aside0 (wc.heap[gb198]? = some (.cells #[.int .i64 t193, .int .i64 t194, .string t195, .int .i64 t196] 42 (0, 0))) ∧ Aside0 (Below w.heap.size w wc))
   case first =>
    have H := HC9.out
    clear HC9
    by_cases c14 : t197 = 0
    rotate_left
    ·rw [if_neg c14] at H
     have c14b0 : (t197 == 0) = false := beq_eq_false_iff_ne.mpr c14
     have c14b1 : (t197 != 0) = true := bne_iff_ne.mpr c14
     (first | rw [c14b0] | (simp only [i64_w, i32_w]; rw [c14b0]) | skip)
     have H' := am H
     clear H
     go_wp2
     go_meet
     case rel => exact ⟨_, (false), ey, H', ⟨by have := HK1.out; first | omega | exact Nat.le_refl _⟩, ⟨by (with_reducible repeat (first | apply Kd.R_alloc | apply Kd.R_drewN | apply Kd.R_drew)); exact Kd.R_mono (Kd.R_far (p := ⟨gb198, 3, none⟩) (Kd.R_far (p := ⟨gb198, 2, none⟩) (Kd.R_far (p := ⟨gb198, 1, none⟩) (Kd.R_far (p := ⟨gb198, 0, none⟩) (Kd.R_mono HO_4.out (fun k_ hk => (⟨hk, hk.2⟩ : _ ∧ k_ ≠ gb198))) (fun _ hk => hk.2) (.int .i64 t193)) (fun _ hk => hk.2) (.int .i64 t194)) (fun _ hk => hk.2) (.string t195)) (fun _ hk => hk.2) (.int .i64 t196)) (fun _ hk => hk.1.2)⟩, ⟨by refine fa NB191_198 ?_; refine fa NB191_198 ?_; refine fa NB191_198 ?_; refine fa NB191_198 ?_; exact Z BK191⟩, ⟨by refine pf ?_; refine blk_put (cs := #[.int .i64 t193, .int .i64 t194, .string t195, .int .i64 0]) ?_ 3 _ rfl; refine pf ?_; refine blk_put (cs := #[.int .i64 t193, .int .i64 t194, .string (⟨#[]⟩ : ByteArray), .int .i64 0]) ?_ 2 _ rfl; refine pf ?_; refine blk_put (cs := #[.int .i64 t193, .int .i64 0, .string (⟨#[]⟩ : ByteArray), .int .i64 0]) ?_ 1 _ rfl; refine pf ?_; refine blk_put (cs := #[.int .i64 0, .int .i64 0, .string (⟨#[]⟩ : ByteArray), .int .i64 0]) ?_ 0 _ rfl; exact Z BK198⟩, ⟨Y2 HB GE191 GE198⟩⟩
    rw [if_pos c14] at H
    have c14b0 : (t197 == 0) = true := beq_iff_eq.mpr c14
    have c14b1 : (t197 != 0) = false := bne_eq_false_iff_eq.mpr c14
    clear c14
    (first | rw [c14b0] | (simp only [i64_w, i32_w]; rw [c14b0]) | skip)
    have H' := am H
    clear H
    obtain ⟨Ao15, co15, eo15⟩ := Kd.R_slice HO_4.out
    subst eo15
    go_wp2
    go_meet
    case rel => exact ⟨_, (((x4_1.length : Int) == 700)), ey, H', ⟨by have := HK1.out; first | omega | exact Nat.le_refl _⟩, ⟨by (with_reducible repeat (first | apply Kd.R_alloc | apply Kd.R_drewN | apply Kd.R_drew)); exact Kd.R_mono (Kd.R_far (p := ⟨gb198, 3, none⟩) (Kd.R_far (p := ⟨gb198, 2, none⟩) (Kd.R_far (p := ⟨gb198, 1, none⟩) (Kd.R_far (p := ⟨gb198, 0, none⟩) (Kd.R_mono HO_4.out (fun k_ hk => (⟨hk, hk.2⟩ : _ ∧ k_ ≠ gb198))) (fun _ hk => hk.2) (.int .i64 t193)) (fun _ hk => hk.2) (.int .i64 t194)) (fun _ hk => hk.2) (.string t195)) (fun _ hk => hk.2) (.int .i64 t196)) (fun _ hk => hk.1.2)⟩, ⟨by refine fa NB191_198 ?_; refine fa NB191_198 ?_; refine fa NB191_198 ?_; refine fa NB191_198 ?_; exact Z BK191⟩, ⟨by refine pf ?_; refine blk_put (cs := #[.int .i64 t193, .int .i64 t194, .string t195, .int .i64 0]) ?_ 3 _ rfl; refine pf ?_; refine blk_put (cs := #[.int .i64 t193, .int .i64 t194, .string (⟨#[]⟩ : ByteArray), .int .i64 0]) ?_ 2 _ rfl; refine pf ?_; refine blk_put (cs := #[.int .i64 t193, .int .i64 0, .string (⟨#[]⟩ : ByteArray), .int .i64 0]) ?_ 1 _ rfl; refine pf ?_; refine blk_put (cs := #[.int .i64 0, .int .i64 0, .string (⟨#[]⟩ : ByteArray), .int .i64 0]) ?_ 0 _ rfl; exact Z BK198⟩, ⟨Y2 HB GE191 GE198⟩⟩
   case rest =>
    clear HC9
    (try clear c7b0);(try clear hcz13_0);(try clear hcz13_1);(try clear hcz13_2);(try clear hcz13_3);(try clear hfz13_0);(try clear hfz13_1);(try clear hfz13_2);(try clear hfz13_3)
    obtain ⟨kq, x33_8, rfl, HA, HJ8, HO_4, BK191, BK198, HB⟩ := hcut
    cases kq with
    | zero => exact absurd HA.out (by simp [impl_LexTokens.j1])
    | succ kj8 =>
     have H := HA.out
     clear HA
     simp only [impl_LexTokens.j1] at H
     by_cases c16 : x33_8 = true
     ·subst c16
      rw [if_pos rfl] at H
      simp only [Option.some.injEq, Prod.mk.injEq] at H
      obtain ⟨rfl, rfl, rfl⟩ := H
      obtain ⟨hnb17,hnc17⟩ := nn NB191_198
      obtain ⟨hcz18_0,hcz18_1,hfz18_0,hfz18_1⟩ := cB2 BK191
      go_wp2
      refine bodyPost_ret (results_tc rfl _ _ gb191 26 #[.int .i64 5, .int .i64 x5_1] (0, 0) _ rfl (by refine pf ?_; refine blk_put (cs := #[.int .i64 5, .int .i64 x192001_1]) ?_ 1 _ rfl; refine pf ?_; refine blk_put (cs := #[.int .i64 x192000_1, .int .i64 x192001_1]) ?_ 0 _ rfl; exact Z BK191) Tryd.underlying26 rfl (by kernel_rfl)) rfl ?_
      exact ⟨_, ez, by first | exact Kd.R_nil _ _ _ _ _ | exact Kd.N_nil _ _ _ _ _ | exact Kd.V_nil _ _ _ _ _ | exact Kd.Q_nil _ _ _ _ _ | exact Kd.S_nil _ _ _ _ _, Y2 HB GE191 GE198⟩
     replace c16 := Bool.eq_false_iff.mpr c16
     subst c16
     rw [if_neg (show ¬ (false = true) by decide)] at H
     by_cases c19 : t197 = 0
     rotate_left
     ·rw [if_neg c19] at H
      have c19b0 : (t197 == 0) = false := beq_eq_false_iff_ne.mpr c19
      have c19b1 : (t197 != 0) = true := bne_iff_ne.mpr c19
      simp only [Option.some.injEq, Prod.mk.injEq] at H
      obtain ⟨rfl, rfl, rfl⟩ := H
      obtain ⟨hnb26,hnc26⟩ := nn NB191_198
      obtain ⟨hcz27_0,hcz27_1,hfz27_0,hfz27_1⟩ := cB2 BK191
      go_wp2
      refine bodyPost_ret (results_tc rfl _ _ gb191 26 #[.int .i64 t197, .int .i64 x5_1] (0, 0) _ rfl (by refine pf ?_; refine blk_put (cs := #[.int .i64 t197, .int .i64 x192001_1]) ?_ 1 _ rfl; refine pf ?_; refine blk_put (cs := #[.int .i64 x192000_1, .int .i64 x192001_1]) ?_ 0 _ rfl; exact Z BK191) Tryd.underlying26 rfl (by kernel_rfl)) rfl ?_
      exact ⟨_, ez, by first | exact Kd.R_nil _ _ _ _ _ | exact Kd.N_nil _ _ _ _ _ | exact Kd.V_nil _ _ _ _ _ | exact Kd.Q_nil _ _ _ _ _ | exact Kd.S_nil _ _ _ _ _, Y2 HB GE191 GE198⟩
     rw [if_pos c19] at H
     have c19b0 : (t197 == 0) = true := beq_iff_eq.mpr c19
     have c19b1 : (t197 != 0) = false := bne_eq_false_iff_eq.mpr c19
     clear c19
     by_cases c20 : x4_1.length < 3518437208883
     rotate_left
     ·rw [if_neg c20] at H
      exact absurd H (by simp)
     rw [if_pos c20] at H
     have LMc20 := am c20
     clear c20
     obtain ⟨y199, hy199⟩ : ∃ y_ : List (S42), y_ = (x4_1 ++ [(⟨t193, t194, t195, t196⟩ : S42)]) := ⟨_, rfl⟩
     replace H : ((impl_lexSkip.f kj8 a0 (wrap64 (x5_1 + (t195.size : Int)))).bind fun t202 => (impl_LexTokens.l0 kj8 a0 y199 t202)) = some (r1, r2, r3) := by first | (rw [hy199]; with_reducible exact H) | (have H2_ := (Option.bind_some _ _).symm.trans H; rw [hy199]; with_reducible exact H2_) | (have H2_ := (Option.bind_some _ _).symm.trans H; with_reducible exact H2_) | with_reducible exact H | (rw [hy199]; exact H) | exact H
     have Ny199 := am hy199
     clear hy199
     replace H := Option.bind_eq_some_iff.mp H
     obtain ⟨t202, A210, H⟩ := H
     try dsimp only at H
     have A21 := am A210
     clear A210
     have H' := am H
     clear H
     obtain ⟨hnb22,hnc22⟩ := nn NB198_191
     obtain ⟨hcz23_0,hcz23_1,hcz23_2,hcz23_3,hfz23_0,hfz23_1,hfz23_2,hfz23_3⟩ := cB4 BK198
     go_wp2_with (first | ((with_reducible refine gate_builtin (b := .append) (xs := #[.tmp 39, .tmp 41]) rfl ?_); (try (refine gate_guard (by rfl) ?_; dsimp only)); at_builtin; refine Kd.R_append k42 (w0 := w) w.heap.size rfl (.tmp 39) (.tmp 41) 24 42 (.agg #[(.int .i64 0), (.int .i64 0), (.string ⟨#[]⟩), (.int .i64 0)]) 40 rfl Tryd.underlying24 info42 rfl (by decide) (by omega) u4 x4_1 (⟨t193, t194, t195, t196⟩ : S42) [.int .i64 t193, .int .i64 t194, .string t195, .int .i64 t196] (fun k_ => k_ ≠ gb198) (fun _ => False) rfl rfl ?aP (fun _ hk => hk.elim) ?aF ?aO ?aB ?aS ?aL ?_; (case aP => exact k42_mkM _ _ _ (⟨t193, t194, t195, t196⟩ : S42)); (case aB => exact (Y2 HB GE191 GE198)); (case aF => exact (fun k_ hk => Kd.freshB (g := gb198) (o := .cells #[.int .i64 t193, .int .i64 t194, .string t195, .int .i64 t196] 42 (0, 0)) (Z BK198) k_ hk)); (case aO => exact (by (with_reducible repeat (first | apply Kd.R_alloc | apply Kd.R_drewN | apply Kd.R_drew)); exact HO_4.out)); (case aS => exact (below_size (Y2 HB GE191 GE198))); (case aL => have := LMc20.out; omega); intro v200 w24 ho hb hg hat; rw [← Ny199.out] at ho; have HO201 := am (ho); replace BK191 := am (blk_grown (g := gb191) (o := b2 x192000_1 x192001_1 26) (Z BK191) hg (Kd.R_ne HO_4.out BK191.out (by decide))); replace BK198 := am (blk_grown (g := gb198) (o := .cells #[.int .i64 t193, .int .i64 t194, .string t195, .int .i64 t196] 42 (0, 0)) (Z BK198) hg (Kd.R_away HO_4.out (fun _ hk => hk))); replace HB := am (hb); clear HO_4; clear ho hb hg hat; obtain ⟨hcz25_0,hcz25_1,hcz25_2,hcz25_3,hfz25_0,hfz25_1,hfz25_2,hfz25_3⟩ := cB4 BK198) | ((with_reducible refine gate_callee (f := 26) rfl ?_); refine goesL_ (some 20) rfl rfl Tryd.func26 (by kernel_rfl) rfl #[.string a0, .int .i64 (wrap64 (x5_1 + (t195.size : Int)))] rfl mz ?_; (with_reducible refine (impl_lexSkip.calls kj8 a0 (wrap64 (x5_1 + (t195.size : Int))) t202 _ A21.out).mono ?_); rintro e w' ⟨rfl, ⟨nd, rfl⟩⟩; refine ⟨_, rfl, ?_⟩))
     go_roundg kj8
     case measure => have := HK1.out; have := HJ8.out; omega
     case rel => exact ⟨(y199), (t202), (x192000_1), (x192001_1), ey, H', ⟨by have := HK1.out; have := HJ8.out; omega⟩, ⟨by (with_reducible repeat (first | apply Kd.R_alloc | apply Kd.R_drewN | apply Kd.R_drew)); exact Kd.R_mono HO201.out (fun _ hk => trivial)⟩, ⟨Z BK191⟩, ⟨Y2 HB GE191 GE198⟩⟩

/-! ### strings_Join: function 32, by hand -/
def strings_Join.f (l0 : List ByteArray) (a1 : ByteArray) : Option ByteArray := if l0.length ≤ 140737488355328 ∧ (Base.joined l0 a1).size ≤ 140737488355328 then some (Base.joined l0 a1) else none
theorem strings_Join.calls (A0 : Option Addr) (c0 : Nat) (l0 : List ByteArray) (a1 : ByteArray) (r : ByteArray) (w : World) (hr0 : Kd.C Kd.string w A0 l0.length l0) (hc0 : l0.length ≤ c0) (h : strings_Join.f l0 a1 = some r) : Calls Tryd.prog 32 #[.slice A0 l0.length c0, .string a1] w fun e w' => e = .returned (.string r) ∧ Below w.heap.size w w' := by
 unfold strings_Join.f at h
 by_cases c : l0.length ≤ 140737488355328 ∧ (Base.joined l0 a1).size ≤ 140737488355328
 rotate_left
 ·rw [if_neg c] at h
  cases h
 rw [if_pos c] at h
 obtain rfl := Option.some.inj h
 exact Base.join_calls A0 c0 l0 a1 w hr0 hc0 c.1 c.2

end Go.Proofs.YtnbpgnkplahknaaDoor.PFnExactLexJoin
