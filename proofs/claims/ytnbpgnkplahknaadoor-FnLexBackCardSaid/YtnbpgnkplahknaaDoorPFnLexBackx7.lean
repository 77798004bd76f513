/- Written by this session's own driver (wip/dprint.py): the functions that the law FnLexBack reaches, as Lean functions, each with its contract. -/
import Derived.Test.YtnbpgnkplahknaaDoorPFnLexBackx0
import Derived.Test.YtnbpgnkplahknaaDoorPFnLexBackx4
import Derived.Test.YtnbpgnkplahknaaDoorPFnLexBackx6
import Derived.Test.YtnbpgnkplahknaaDoorSq
namespace Go.Proofs.YtnbpgnkplahknaaDoor.PFnLexBack
open Go.RowKit Go.Proofs.YtnbpgnkplahknaaDoorW.PrintWords Go.Proofs.YtnbpgnkplahknaaDoorW.PrintLast Go.Proofs.YtnbpgnkplahknaaDoorW.PrintMore Go.Proofs.YtnbpgnkplahknaaDoorSq
attribute [local go_sem] max2_int min2_int max_two min_two max_three min_three max_four min_four   -- for this text's walks alone
set_option linter.unusedVariables false
set_option linter.unusedSimpArgs false

/-! ### impl_LexTokens: function 11 -/
attribute [local go_sem] Go.Proofs.YtnbpgnkplahknaaDoorSet.isSome_setCell
mutual
def impl_LexTokens.l0 : Nat → ByteArray → List (S42) → Int → Option ((List (S42)) × Int × Int)
 | 0, _, _, _ => none
 | k + 1, x0, x4, x5 => if x5 < (x0.size : Int) then ((impl_lexToken.f k x0 x5).bind fun bt158 => (if bt158.2.2.2.2 = 0 then (impl_LexTokens.j1 k x0 x4 x5 bt158.2.2.2.2 ((x4.length : Int) == 700) bt158.1 bt158.2.1 bt158.2.2.1 bt158.2.2.2.1) else (impl_LexTokens.j1 k x0 x4 x5 bt158.2.2.2.2 false bt158.1 bt158.2.1 bt158.2.2.1 bt158.2.2.2.1))) else (some (x4, 0, 0))
def impl_LexTokens.j1 : Nat → ByteArray → List (S42) → Int → Int → Bool → Int → Int → ByteArray → Int → Option ((List (S42)) × Int × Int)
 | 0, _, _, _, _, _, _, _, _, _ => none
 | k + 1, x0, x4, x5, x7, x33, x164000, x164001, x164002, x164003 => if x33 = true then (some (([] : List (S42)), 5, x5)) else (if x7 = 0 then (if x4.length < 3518437208883 then ((impl_lexSkip.f k x0 (wrap64 (x5 + (x164002.size : Int)))).bind fun t167 => (impl_LexTokens.l0 k x0 (x4 ++ [(⟨x164000, x164001, x164002, x164003⟩ : S42)]) t167)) else (none)) else (some (([] : List (S42)), x7, x5)))
end
def impl_LexTokens.f (k : Nat) (a0 : ByteArray) : Option ((List (S42)) × Int × Int) := if (a0.size : Int) > 3000 then (some (([] : List (S42)), 1, 0)) else ((impl_lexSkip.f k a0 0).bind fun t157 => (impl_LexTokens.l0 k a0 ([] : List (S42)) t157))
theorem impl_LexTokens.mono_l : ∀ k, (∀ y0 y1 y2, LeO (impl_LexTokens.l0 k y0 y1 y2) (impl_LexTokens.l0 (k + 1) y0 y1 y2)) ∧ (∀ y0 y1 y2 y3 y4 y5 y6 y7 y8, LeO (impl_LexTokens.j1 k y0 y1 y2 y3 y4 y5 y6 y7 y8) (impl_LexTokens.j1 (k + 1) y0 y1 y2 y3 y4 y5 y6 y7 y8))
 | 0 => ⟨fun _ _ _ r h => by simp [impl_LexTokens.l0] at h, fun _ _ _ _ _ _ _ _ _ r h => by simp [impl_LexTokens.j1] at h⟩
 | k + 1 => by
  obtain ⟨ih0, ih1⟩ := impl_LexTokens.mono_l k
  refine ⟨?_, ?_⟩ <;> (intros; (first | unfold impl_LexTokens.l0 | unfold impl_LexTokens.j1); repeat' first | (with_reducible first | apply ih0 | apply ih1 | apply impl_lexSkip.mono | apply impl_lexToken.mono | apply LeO.refl | apply LeO.none | refine LeO.ite ?_ ?_ | refine LeO.bind ?_ (fun _ => ?_)) | apply ih0 | apply ih1 | apply impl_lexSkip.mono | apply impl_lexToken.mono | apply LeO.none | refine LeO.ite ?_ ?_ | refine LeO.bind ?_ (fun _ => ?_))
theorem impl_LexTokens.mono : ∀ a0 k, LeO (impl_LexTokens.f k a0) (impl_LexTokens.f (k + 1) a0) := by
 intro a0 k
 obtain ⟨ih0, ih1⟩ := impl_LexTokens.mono_l k
 unfold impl_LexTokens.f
 repeat' first | (with_reducible first | apply ih0 | apply ih1 | apply impl_lexSkip.mono | apply impl_lexToken.mono | apply LeO.refl | apply LeO.none | refine LeO.ite ?_ ?_ | refine LeO.bind ?_ (fun _ => ?_)) | apply ih0 | apply ih1 | apply impl_lexSkip.mono | apply impl_lexToken.mono | apply LeO.none | refine LeO.ite ?_ ?_ | refine LeO.bind ?_ (fun _ => ?_)
set_option maxHeartbeats 8000000 in
set_option maxRecDepth 100000 in
theorem impl_LexTokens.calls (k : Nat) (a0 : ByteArray) (r1 : List (S42)) (r2 : Int) (r3 : Int) (w : World) (h : impl_LexTokens.f k a0 = some (r1, r2, r3)) (hT : PFnExactSignAt.Tab w := by first | exact HTb.out | exact hT | exact hT_ | exact PFnExactSignAt.Tab.below HTb.out (by assumption) | exact PFnExactSignAt.Tab.below HTb.out (by repeat (first | (with_reducible first | exact HB.out | apply below_alloc | apply pw_below_drewN | apply below_drew1 | apply below_drew) | exact HB.out | refine below_set ?_ (Aside0.out (by assumption))))) :
  Calls Tryd.prog 11 #[.string a0] w fun e w' => ∃ v0_ : Value, e = .returned (.tuple #[v0_, .agg #[.int .i64 r2, .int .i64 r3]]) ∧ Kd.R k42 42 w' w.heap.size (fun _ => True) v0_ r1 ∧ Below w.heap.size w w' := by
 have HTb := am hT
 clear hT
 have hu26 := Tryd.underlying26
 have hu42 := Tryd.underlying42
 have HB := am (Below.refl w.heap.size w)
 have H : (if (a0.size : Int) > 3000 then (some (([] : List (S42)), 1, 0)) else ((impl_lexSkip.f k a0 0).bind fun t157 => (impl_LexTokens.l0 k a0 ([] : List (S42)) t157))) = some (r1, r2, r3) := h
 clear h
 by_cases c2 : (a0.size : Int) > 3000
 ·rw [if_pos c2] at H
  have c2b0 := dT c2
  have c2b1 : decide (3000 < a0.size) = true := decide_eq_true (by omega)
  clear c2
  simp only [Option.some.injEq, Prod.mk.injEq] at H
  obtain ⟨rfl, rfl, rfl⟩ := H
  go_enter Tryd.func11, Tryd.ntmps11
  go_wp2_with (first | ((with_reducible refine gate_dst (N := 3) rfl ?_); (try (refine gate_guard (by rfl) ?_; dsimp only)); refine bx 3 #[.int .i64 0, .int .i64 0] 26 ?_; intro gb156 hg w3 hbox hb; have BK156 := am (hbox); have GW156 := am (bs hg (YA HB)); have GE156 := GW156; replace HB := am (below_step (YA HB) hb); clear hb hbox hg; obtain ⟨hcz4_0,hcz4_1,hfz4_0,hfz4_1⟩ := cB2 BK156))
  refine bodyPost_ret (results_tc rfl _ _ gb156 26 #[.int .i64 1, .int .i64 0] (0, 0) _ rfl (by refine pf ?_; refine blk_put (cs := #[.int .i64 1, .int .i64 0]) ?_ 1 _ rfl; refine pf ?_; refine blk_put (cs := #[.int .i64 0, .int .i64 0]) ?_ 0 _ rfl; exact Z BK156) Tryd.underlying26 rfl (by kernel_rfl)) rfl ?_
  exact ⟨_, ez, by first | exact Kd.R_nil _ _ _ _ _ | exact Kd.N_nil _ _ _ _ _ | exact Kd.V_nil _ _ _ _ _ | exact Kd.Q_nil _ _ _ _ _ | exact Kd.S_nil _ _ _ _ _, YA HB⟩
 rw [if_neg c2] at H
 have c2b0 := dF c2
 have c2b1 : decide (3000 < a0.size) = false := decide_eq_false (by omega)
 clear c2
 replace H := Option.bind_eq_some_iff.mp H
 obtain ⟨t157, A50, H⟩ := H
 try dsimp only at H
 have A5 := am A50
 clear A50
 have H' := am H
 clear H
 go_enter Tryd.func11, Tryd.ntmps11
 go_wp2_with (first | ((with_reducible refine gate_dst (N := 3) rfl ?_); (try (refine gate_guard (by rfl) ?_; dsimp only)); refine bx 3 #[.int .i64 0, .int .i64 0] 26 ?_; intro gb156 hg w6 hbox hb; have BK156 := am (hbox); have GW156 := am (bs hg (YA HB)); have GE156 := GW156; replace HB := am (below_step (YA HB) hb); clear hb hbox hg) | ((with_reducible refine gate_callee (f := 26) rfl ?_); refine goesL_ (some 13) rfl rfl Tryd.func26 (by kernel_rfl) rfl #[.string a0, .int .i64 0] rfl mz ?_; (with_reducible refine (impl_lexSkip.calls k a0 0 t157 _ A5.out).mono ?_); rintro e w' ⟨rfl, ⟨nd, rfl⟩⟩; refine ⟨_, rfl, ?_⟩))
 go_loopg [4, 5] k (fun kq v4 v5 w' => ∃ (x4_1 : List (S42)) (x5_1 : Int) (x157000_1 : Int) (x157001_1 : Int), v5 = .int .i64 x5_1 ∧ Aside0 (impl_LexTokens.l0 kq a0 x4_1 x5_1 = some (r1, r2, r3)) ∧ Aside0 (kq ≤ k) ∧ Aside0 (Kd.R k42 42 w' w.heap.size (fun _ => True) v4 x4_1) ∧ Aside0 (w'.heap[gb156]? = some (.cells #[.int .i64 x157000_1, .int .i64 x157001_1] 26 (0, 0))) ∧ Aside0 (Below w.heap.size w w'))
 case atStart => exact ⟨(([] : List (S42))), (t157), (0), (0), ey, H', ⟨Nat.le_refl _⟩, ⟨by first | exact Kd.R_nil _ _ _ _ _ | exact Kd.N_nil _ _ _ _ _ | exact Kd.V_nil _ _ _ _ _ | exact Kd.Q_nil _ _ _ _ _ | exact Kd.S_nil _ _ _ _ _⟩, ⟨Z BK156⟩, ⟨YA HB⟩⟩
 case round =>
  clear H'
  (try clear c2b0);(try clear c2b1)
  obtain ⟨x4_1, x5_1, x157000_1, x157001_1, rfl, HA, HK1, HO_4, BK156, HB⟩ := hrel
  cases gk with
  | zero => exact absurd HA.out (by simp [impl_LexTokens.l0])
  | succ k1 =>
   have H := HA.out
   clear HA
   simp only [impl_LexTokens.l0] at H
   by_cases c7 : x5_1 < (a0.size : Int)
   rotate_left
   ·rw [if_neg c7] at H
    have c7b0 := dF c7
    clear c7
    simp only [Option.some.injEq, Prod.mk.injEq] at H
    obtain ⟨rfl, rfl, rfl⟩ := H
    obtain ⟨hcz28_0,hcz28_1,hfz28_0,hfz28_1⟩ := cB2 BK156
    go_wp2
    refine bodyPost_ret (results_tc rfl _ _ gb156 26 #[.int .i64 0, .int .i64 0] (0, 0) _ rfl (by refine pf ?_; refine blk_put (cs := #[.int .i64 0, .int .i64 x157001_1]) ?_ 1 _ rfl; refine pf ?_; refine blk_put (cs := #[.int .i64 x157000_1, .int .i64 x157001_1]) ?_ 0 _ rfl; exact Z BK156) Tryd.underlying26 rfl (by kernel_rfl)) rfl ?_
    exact ⟨_, ez, by (with_reducible repeat (first | apply Kd.R_alloc | apply Kd.R_drewN | apply Kd.R_drew)); exact Kd.R_mono (Kd.R_far (p := ⟨gb156, 1, none⟩) (Kd.R_far (p := ⟨gb156, 0, none⟩) (Kd.R_types HO_4.out BK156.out (by decide)) (fun _ hk => hk.2) (.int .i64 0)) (fun _ hk => hk.2) (.int .i64 0)) (fun _ hk => trivial), YA HB⟩
   rw [if_pos c7] at H
   have c7b0 := dT c7
   clear c7
   replace H := Option.bind_eq_some_iff.mp H
   obtain ⟨⟨t158, t159, t160, t161, t162⟩, A80, H⟩ := H
   try dsimp only at H
   have A8 := am A80
   clear A80
   have HC9 := am H
   clear H
   go_upto_region 8 with (first | ((with_reducible refine gate_callee (f := 27) rfl ?_); refine goesL_ (some 24) rfl rfl Tryd.func27 (by kernel_rfl) rfl #[.string a0, .int .i64 x5_1] rfl mz ?_; (with_reducible refine (impl_lexToken.calls k1 a0 x5_1 t158 t159 t160 t161 t162 _ A8.out).mono ?_); rintro e w10 ⟨rfl, hb⟩; refine ⟨_, rfl, ?_⟩; replace HO_4 := am (Kd.R_below (RZ HO_4) hb); replace BK156 := bb BK156 hb; replace HB := am (below_step (YA HB) hb); (try clear hb)) | ((with_reducible refine gate_dst (N := 6) rfl ?_); (try (refine gate_guard (by rfl) ?_; dsimp only)); refine bx 6 #[.int .i64 0, .int .i64 0, .string (⟨#[]⟩ : ByteArray), .int .i64 0] 42 ?_; intro gb163 hg w11 hbox hb; have BK163 := am (hbox); have GW163 := am (bs hg (YA HB)); have GE163 := GW163; obtain ⟨NB156_163,NB163_156⟩ := ne_ hg BK156; replace HO_4 := am (Kd.R_below (Kd.R_elderB (RZ HO_4) gb163 (Nat.le_of_eq hg.symm)) hb); replace BK156 := bb BK156 hb; replace HB := am (below_step (YA HB) hb); clear hb hbox hg; obtain ⟨hnb12,hnc12⟩ := nn NB163_156; obtain ⟨hcz13_0,hcz13_1,hcz13_2,hcz13_3,hfz13_0,hfz13_1,hfz13_2,hfz13_3⟩ := cB4 BK163))
   (try simp only [Act.put, List.setIfInBounds_toArray, List.set_cons_zero, List.set_cons_succ])
   go_cut [33] (fun v33 wc => ∃ (kq : Nat) (x33_8 : Bool), v33 = .bool x33_8 ∧ Aside0 (impl_LexTokens.j1 kq a0 x4_1 x5_1 t162 x33_8 t158 t159 t160 t161 = some (r1, r2, r3)) ∧ Aside0 (kq ≤ k1) ∧ Aside0 (Kd.R k42 42 wc w.heap.size (fun k_ => k_ ≠ gb163) u4 x4_1) ∧ Aside0 (wc.heap[gb156]? = some (.cells #[.int .i64 x157000_1, .int .i64 x157001_1] 26 (0, 0))) ∧ Aside0 (wc.heap[gb163]? = some (.cells #[.int .i64 t158, .int .i64 t159, .string t160, .int .i64 t161] 42 (0, 0))) ∧ Aside0 (Below w.heap.size w wc))
   case first =>
    have H := HC9.out
    clear HC9
    by_cases c14 : t162 = 0
    rotate_left
    ·rw [if_neg c14] at H
     have c14b0 := eF c14
     have c14b1 := nT c14
     (first | rw [c14b0] | (simp only [i64_w, i32_w]; rw [c14b0]) | skip)
     have H' := am H
     clear H
     go_wp2
     go_meet
     case rel => exact ⟨_, (false), ey, H', ⟨by have := HK1.out; first | omega | exact Nat.le_refl _⟩, ⟨by (with_reducible repeat (first | apply Kd.R_alloc | apply Kd.R_drewN | apply Kd.R_drew)); exact Kd.R_mono (Kd.R_far (p := ⟨gb163, 3, none⟩) (Kd.R_far (p := ⟨gb163, 2, none⟩) (Kd.R_far (p := ⟨gb163, 1, none⟩) (Kd.R_far (p := ⟨gb163, 0, none⟩) (Kd.R_mono HO_4.out (fun k_ hk => (⟨hk, hk.2⟩ : _ ∧ k_ ≠ gb163))) (fun _ hk => hk.2) (.int .i64 t158)) (fun _ hk => hk.2) (.int .i64 t159)) (fun _ hk => hk.2) (.string t160)) (fun _ hk => hk.2) (.int .i64 t161)) (fun _ hk => hk.1.2)⟩, ⟨by refine fa NB156_163 ?_; refine fa NB156_163 ?_; refine fa NB156_163 ?_; refine fa NB156_163 ?_; exact Z BK156⟩, ⟨by refine pf ?_; refine blk_put (cs := #[.int .i64 t158, .int .i64 t159, .string t160, .int .i64 0]) ?_ 3 _ rfl; refine pf ?_; refine blk_put (cs := #[.int .i64 t158, .int .i64 t159, .string (⟨#[]⟩ : ByteArray), .int .i64 0]) ?_ 2 _ rfl; refine pf ?_; refine blk_put (cs := #[.int .i64 t158, .int .i64 0, .string (⟨#[]⟩ : ByteArray), .int .i64 0]) ?_ 1 _ rfl; refine pf ?_; refine blk_put (cs := #[.int .i64 0, .int .i64 0, .string (⟨#[]⟩ : ByteArray), .int .i64 0]) ?_ 0 _ rfl; exact Z BK163⟩, ⟨YA HB⟩⟩
    rw [if_pos c14] at H
    have c14b0 := eT c14
    have c14b1 := nF c14
    clear c14
    (first | rw [c14b0] | (simp only [i64_w, i32_w]; rw [c14b0]) | skip)
    have H' := am H
    clear H
    obtain ⟨Ao15, co15, eo15⟩ := Kd.R_slice HO_4.out
    subst eo15
    go_wp2
    go_meet
    case rel => exact ⟨_, (((x4_1.length : Int) == 700)), ey, H', ⟨by have := HK1.out; first | omega | exact Nat.le_refl _⟩, ⟨by (with_reducible repeat (first | apply Kd.R_alloc | apply Kd.R_drewN | apply Kd.R_drew)); exact Kd.R_mono (Kd.R_far (p := ⟨gb163, 3, none⟩) (Kd.R_far (p := ⟨gb163, 2, none⟩) (Kd.R_far (p := ⟨gb163, 1, none⟩) (Kd.R_far (p := ⟨gb163, 0, none⟩) (Kd.R_mono HO_4.out (fun k_ hk => (⟨hk, hk.2⟩ : _ ∧ k_ ≠ gb163))) (fun _ hk => hk.2) (.int .i64 t158)) (fun _ hk => hk.2) (.int .i64 t159)) (fun _ hk => hk.2) (.string t160)) (fun _ hk => hk.2) (.int .i64 t161)) (fun _ hk => hk.1.2)⟩, ⟨by refine fa NB156_163 ?_; refine fa NB156_163 ?_; refine fa NB156_163 ?_; refine fa NB156_163 ?_; exact Z BK156⟩, ⟨by refine pf ?_; refine blk_put (cs := #[.int .i64 t158, .int .i64 t159, .string t160, .int .i64 0]) ?_ 3 _ rfl; refine pf ?_; refine blk_put (cs := #[.int .i64 t158, .int .i64 t159, .string (⟨#[]⟩ : ByteArray), .int .i64 0]) ?_ 2 _ rfl; refine pf ?_; refine blk_put (cs := #[.int .i64 t158, .int .i64 0, .string (⟨#[]⟩ : ByteArray), .int .i64 0]) ?_ 1 _ rfl; refine pf ?_; refine blk_put (cs := #[.int .i64 0, .int .i64 0, .string (⟨#[]⟩ : ByteArray), .int .i64 0]) ?_ 0 _ rfl; exact Z BK163⟩, ⟨YA HB⟩⟩
   case rest =>
    clear HC9
    (try clear c7b0);(try clear hcz13_0);(try clear hcz13_1);(try clear hcz13_2);(try clear hcz13_3);(try clear hfz13_0);(try clear hfz13_1);(try clear hfz13_2);(try clear hfz13_3)
    obtain ⟨kq, x33_8, rfl, HA, HJ8, HO_4, BK156, BK163, HB⟩ := hcut
    cases kq with
    | zero => exact absurd HA.out (by simp [impl_LexTokens.j1])
    | succ kj8 =>
     have H := HA.out
     clear HA
     simp only [impl_LexTokens.j1] at H
     by_cases c16 : x33_8 = true
     ·subst c16
      rw [if_pos rfl] at H
      simp only [Option.some.injEq, Prod.mk.injEq] at H
      obtain ⟨rfl, rfl, rfl⟩ := H
      obtain ⟨hnb17,hnc17⟩ := nn NB156_163
      obtain ⟨hcz18_0,hcz18_1,hfz18_0,hfz18_1⟩ := cB2 BK156
      go_wp2
      refine bodyPost_ret (results_tc rfl _ _ gb156 26 #[.int .i64 5, .int .i64 x5_1] (0, 0) _ rfl (by refine pf ?_; refine blk_put (cs := #[.int .i64 5, .int .i64 x157001_1]) ?_ 1 _ rfl; refine pf ?_; refine blk_put (cs := #[.int .i64 x157000_1, .int .i64 x157001_1]) ?_ 0 _ rfl; exact Z BK156) Tryd.underlying26 rfl (by kernel_rfl)) rfl ?_
      exact ⟨_, ez, by first | exact Kd.R_nil _ _ _ _ _ | exact Kd.N_nil _ _ _ _ _ | exact Kd.V_nil _ _ _ _ _ | exact Kd.Q_nil _ _ _ _ _ | exact Kd.S_nil _ _ _ _ _, YA HB⟩
     replace c16 := Bool.eq_false_iff.mpr c16
     subst c16
     rw [if_neg (show ¬ (false = true) by decide)] at H
     by_cases c19 : t162 = 0
     rotate_left
     ·rw [if_neg c19] at H
      have c19b0 := eF c19
      have c19b1 := nT c19
      simp only [Option.some.injEq, Prod.mk.injEq] at H
      obtain ⟨rfl, rfl, rfl⟩ := H
      obtain ⟨hnb26,hnc26⟩ := nn NB156_163
      obtain ⟨hcz27_0,hcz27_1,hfz27_0,hfz27_1⟩ := cB2 BK156
      go_wp2
      refine bodyPost_ret (results_tc rfl _ _ gb156 26 #[.int .i64 t162, .int .i64 x5_1] (0, 0) _ rfl (by refine pf ?_; refine blk_put (cs := #[.int .i64 t162, .int .i64 x157001_1]) ?_ 1 _ rfl; refine pf ?_; refine blk_put (cs := #[.int .i64 x157000_1, .int .i64 x157001_1]) ?_ 0 _ rfl; exact Z BK156) Tryd.underlying26 rfl (by kernel_rfl)) rfl ?_
      exact ⟨_, ez, by first | exact Kd.R_nil _ _ _ _ _ | exact Kd.N_nil _ _ _ _ _ | exact Kd.V_nil _ _ _ _ _ | exact Kd.Q_nil _ _ _ _ _ | exact Kd.S_nil _ _ _ _ _, YA HB⟩
     rw [if_pos c19] at H
     have c19b0 := eT c19
     have c19b1 := nF c19
     clear c19
     by_cases c20 : x4_1.length < 3518437208883
     rotate_left
     ·rw [if_neg c20] at H
      exact absurd H (by simp)
     rw [if_pos c20] at H
     have LMc20 := am c20
     clear c20
     obtain ⟨y164, hy164⟩ : ∃ y_ : List (S42), y_ = (x4_1 ++ [(⟨t158, t159, t160, t161⟩ : S42)]) := ⟨_, rfl⟩
     replace H : ((impl_lexSkip.f kj8 a0 (wrap64 (x5_1 + (t160.size : Int)))).bind fun t167 => (impl_LexTokens.l0 kj8 a0 y164 t167)) = some (r1, r2, r3) := by first | (rw [hy164]; with_reducible exact H) | (have H2_ := (Option.bind_some _ _).symm.trans H; rw [hy164]; with_reducible exact H2_) | (have H2_ := (Option.bind_some _ _).symm.trans H; with_reducible exact H2_) | with_reducible exact H | (rw [hy164]; exact H) | exact H
     have Ny164 := am hy164
     clear hy164
     replace H := Option.bind_eq_some_iff.mp H
     obtain ⟨t167, A210, H⟩ := H
     try dsimp only at H
     have A21 := am A210
     clear A210
     have H' := am H
     clear H
     obtain ⟨hnb22,hnc22⟩ := nn NB163_156
     obtain ⟨hcz23_0,hcz23_1,hcz23_2,hcz23_3,hfz23_0,hfz23_1,hfz23_2,hfz23_3⟩ := cB4 BK163
     go_wp2_with (first | ((with_reducible refine gate_builtin (b := .append) (xs := #[.tmp 39, .tmp 41]) rfl ?_); (try (refine gate_guard (by rfl) ?_; dsimp only)); at_builtin; refine Kd.R_append k42 (w0 := w) w.heap.size rfl (.tmp 39) (.tmp 41) 24 42 (.agg #[(.int .i64 0), (.int .i64 0), (.string ⟨#[]⟩), (.int .i64 0)]) 40 rfl Tryd.underlying24 info42 rfl (by decide) (by omega) u4 x4_1 (⟨t158, t159, t160, t161⟩ : S42) [.int .i64 t158, .int .i64 t159, .string t160, .int .i64 t161] (fun k_ => k_ ≠ gb163) (fun _ => False) rfl rfl ?aP (fun _ hk => hk.elim) ?aF ?aO ?aB ?aS ?aL ?_; (case aP => exact k42_mkM _ _ _ (⟨t158, t159, t160, t161⟩ : S42)); (case aB => exact (YA HB)); (case aF => exact (fun k_ hk => Kd.freshB (g := gb163) (o := .cells #[.int .i64 t158, .int .i64 t159, .string t160, .int .i64 t161] 42 (0, 0)) (Z BK163) k_ hk)); (case aO => exact (RZ HO_4)); (case aS => exact (below_size (YA HB))); (case aL => have := LMc20.out; omega); intro v165 w24 ho hb hg hat; rw [← Ny164.out] at ho; have HO166 := am (ho); replace BK156 := am (blk_grown (g := gb156) (o := b2 x157000_1 x157001_1 26) (Z BK156) hg (Kd.R_ne HO_4.out BK156.out (by decide))); replace BK163 := am (blk_grown (g := gb163) (o := .cells #[.int .i64 t158, .int .i64 t159, .string t160, .int .i64 t161] 42 (0, 0)) (Z BK163) hg (Kd.R_away HO_4.out (fun _ hk => hk))); replace HB := am (hb); clear HO_4; clear ho hb hg hat; obtain ⟨hcz25_0,hcz25_1,hcz25_2,hcz25_3,hfz25_0,hfz25_1,hfz25_2,hfz25_3⟩ := cB4 BK163) | ((with_reducible refine gate_callee (f := 26) rfl ?_); refine goesL_ (some 20) rfl rfl Tryd.func26 (by kernel_rfl) rfl #[.string a0, .int .i64 (wrap64 (x5_1 + (t160.size : Int)))] rfl mz ?_; (with_reducible refine (impl_lexSkip.calls kj8 a0 (wrap64 (x5_1 + (t160.size : Int))) t167 _ A21.out).mono ?_); rintro e w' ⟨rfl, ⟨nd, rfl⟩⟩; refine ⟨_, rfl, ?_⟩))
     go_roundg kj8
     case measure => have := HK1.out; have := HJ8.out; omega
     case rel => exact ⟨(y164), (t167), (x157000_1), (x157001_1), ey, H', ⟨by have := HK1.out; have := HJ8.out; omega⟩, ⟨by (with_reducible repeat (first | apply Kd.R_alloc | apply Kd.R_drewN | apply Kd.R_drew)); exact Kd.R_mono HO166.out (fun _ hk => trivial)⟩, ⟨Z BK156⟩, ⟨YA HB⟩⟩

end Go.Proofs.YtnbpgnkplahknaaDoor.PFnLexBack
