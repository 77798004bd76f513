/- Written by this session's own driver (wip/dprint.py): the functions that the law FnExactLexJoin reaches, as Lean functions, each with its contract. -/
import Derived.Test.YtnbpgnkplahknaaDoorPFnExactLexJoinx0
import Derived.Test.YtnbpgnkplahknaaDoorPFnExactLexJoinx1
import Derived.Test.YtnbpgnkplahknaaDoorPFnExactLexJoinx5
import Derived.Test.YtnbpgnkplahknaaDoorPFnExactLexJoinx6
import Derived.Test.YtnbpgnkplahknaaDoorPFnExactLexJoinx10
import Derived.Test.YtnbpgnkplahknaaDoorSq
namespace Go.Proofs.YtnbpgnkplahknaaDoor.PFnExactLexJoin
open Go.RowKit Go.Proofs.YtnbpgnkplahknaaDoorW.PrintWords Go.Proofs.YtnbpgnkplahknaaDoorW.PrintLast Go.Proofs.YtnbpgnkplahknaaDoorW.PrintMore Go.Proofs.YtnbpgnkplahknaaDoorSq
attribute [local go_sem] max2_int min2_int max_two min_two max_three min_three max_four min_four   -- for this text's walks alone
set_option linter.unusedVariables false
set_option linter.unusedSimpArgs false

/-! ### laws_FnExactLexJoin: function 5 -/
attribute [local go_sem] Go.Proofs.YtnbpgnkplahknaaDoorSet.isSome_setCell
def laws_FnExactLexJoin.j0 : Nat → List (S56) → List (S42) → Bool → Option (Bool)
 | 0, _, _, _ => none
 | k + 1, x0, x6, x34 => if x34 = true then (none) else ((laws_toTokenS.f k x0).bind fun t236 => ((laws_eqTokenS.f k x6 t236).bind fun t239 => (if t239 = true then (some true) else (none))))
def laws_FnExactLexJoin.f (k : Nat) (l0 : List (S56)) : Option (Bool) := (laws_szTokenS.f k l0 1048576).bind fun t225 => (if t225 < 0 then (some true) else ((laws_toTokenS.f k l0).bind fun t226 => ((spec_LexJoin.f k t226).bind fun bt229 => ((laws_toTokenS.f k l0).bind fun t231 => ((impl_LexJoin.f k t231).bind fun bt234 => (if bt234.1.toList = bt229.1.toList then (laws_FnExactLexJoin.j0 k l0 t231 (bt234.2 != bt229.2)) else (laws_FnExactLexJoin.j0 k l0 t231 true)))))))
theorem laws_FnExactLexJoin.mono_l : ∀ k, (∀ y0 y1 y2, LeO (laws_FnExactLexJoin.j0 k y0 y1 y2) (laws_FnExactLexJoin.j0 (k + 1) y0 y1 y2))
 | 0 => fun _ _ _ r h => by simp [laws_FnExactLexJoin.j0] at h
 | k + 1 => by
  have ih0 := laws_FnExactLexJoin.mono_l k
  ·intro y0 y1 y2
   unfold laws_FnExactLexJoin.j0
   repeat' first
   | (with_reducible exact ih0 _ _ _)
   | (with_reducible exact impl_LexJoin.mono _ _)
   | (with_reducible exact laws_eqTokenS.mono _ _ _)
   | (with_reducible exact laws_szTokenS.mono _ _ _)
   | (with_reducible exact laws_toTokenS.mono _ _)
   | (with_reducible exact spec_LexJoin.mono _ _)
   | (with_reducible exact LeO.refl _)
   | (with_reducible exact LeO.none _)
   | (with_reducible refine LeO.ite ?_ ?_)
   | (with_reducible refine LeO.bind ?_ (fun _ => ?_))
   | exact ih0 _ _ _
   | exact impl_LexJoin.mono _ _
   | exact laws_eqTokenS.mono _ _ _
   | exact laws_szTokenS.mono _ _ _
   | exact laws_toTokenS.mono _ _
   | exact spec_LexJoin.mono _ _
   | exact LeO.none _
   | refine LeO.ite ?_ ?_
   | refine LeO.bind ?_ (fun _ => ?_)
theorem laws_FnExactLexJoin.mono : ∀ a0 k, LeO (laws_FnExactLexJoin.f k a0) (laws_FnExactLexJoin.f (k + 1) a0) := by
 intro a0 k
 have ih0 := laws_FnExactLexJoin.mono_l k
 unfold laws_FnExactLexJoin.f
 repeat' first
   | (with_reducible exact ih0 _ _ _)
   | (with_reducible exact impl_LexJoin.mono _ _)
   | (with_reducible exact laws_eqTokenS.mono _ _ _)
   | (with_reducible exact laws_szTokenS.mono _ _ _)
   | (with_reducible exact laws_toTokenS.mono _ _)
   | (with_reducible exact spec_LexJoin.mono _ _)
   | (with_reducible exact LeO.refl _)
   | (with_reducible exact LeO.none _)
   | (with_reducible refine LeO.ite ?_ ?_)
   | (with_reducible refine LeO.bind ?_ (fun _ => ?_))
   | exact ih0 _ _ _
   | exact impl_LexJoin.mono _ _
   | exact laws_eqTokenS.mono _ _ _
   | exact laws_szTokenS.mono _ _ _
   | exact laws_toTokenS.mono _ _
   | exact spec_LexJoin.mono _ _
   | exact LeO.none _
   | refine LeO.ite ?_ ?_
   | refine LeO.bind ?_ (fun _ => ?_)
set_option maxHeartbeats 8000000 in
set_option maxRecDepth 100000 in
theorem laws_FnExactLexJoin.calls (k : Nat) (A0 : Option Addr) (c0 : Nat) (l0 : List (S56)) (r : Bool) (w : World) (hr0 : Kd.C k56 w A0 l0.length l0) (hc0 : l0.length ≤ c0) (h : laws_FnExactLexJoin.f k l0 = some r) (hT : PFnExactSignAt.Tab w := by first | exact HTb.out | exact hT | exact hT_ | exact PFnExactSignAt.Tab.below HTb.out (by assumption) | exact PFnExactSignAt.Tab.below HTb.out (by repeat (first | (with_reducible first | exact HB.out | apply below_alloc | apply pw_below_drewN | apply below_drew1 | apply below_drew) | exact HB.out | refine below_set ?_ (Aside0.out (by assumption))))) :
  Calls Tryd.prog 5 #[.slice A0 l0.length c0] w fun e w' => e = .returned (.bool r) ∧ Below w.heap.size w w' := by
 have HTb := am hT
 clear hT
 have HR0 := am hr0
 have HC0 := am hc0
 clear hr0 hc0
 have HB := am (Below.refl w.heap.size w)
 have H : ((laws_szTokenS.f k l0 1048576).bind fun t225 => (if t225 < 0 then (some true) else ((laws_toTokenS.f k l0).bind fun t226 => ((spec_LexJoin.f k t226).bind fun bt229 => ((laws_toTokenS.f k l0).bind fun t231 => ((impl_LexJoin.f k t231).bind fun bt234 => (if bt234.1.toList = bt229.1.toList then (laws_FnExactLexJoin.j0 k l0 t231 (bt234.2 != bt229.2)) else (laws_FnExactLexJoin.j0 k l0 t231 true)))))))) = some r := h
 clear h
 replace H := Option.bind_eq_some_iff.mp H
 obtain ⟨t225, A20, H⟩ := H
 try dsimp only at H
 have A2 := am A20
 clear A20
 by_cases c3 : t225 < 0
 ·rw [if_pos c3] at H
  have c3b0 : decide (t225 < 0) = true := decide_eq_true c3
  clear c3
  obtain rfl := Option.some.inj H
  go_enter Tryd.func5, Tryd.ntmps5
  go_wp2_with (first | ((with_reducible refine gate_callee (f := 16) rfl ?_); refine goesL_ (some 11) rfl rfl Tryd.func16 (by kernel_rfl) rfl #[.slice A0 l0.length c0, .int .i64 1048576] rfl mz ?_; (with_reducible refine (laws_szTokenS.calls k _ _ l0 1048576 t225 _ ?side1 ?side2 A2.out).mono ?_); (case side1 => repeat (first | exact HR0.out | (with_reducible refine Kd.C_alloc ?_ _) | (with_reducible refine Kd.C_drewN ?_ _) | (with_reducible refine Kd.C_drew ?_))); (case side2 => exact HC0.out); rintro e w4 ⟨rfl, hb⟩; refine ⟨_, rfl, ?_⟩; replace HB := am (below_step (Y0 HB) hb); (try clear hb)))
  go_ret
  exact ⟨ez, Y0 HB⟩
 rw [if_neg c3] at H
 have c3b0 : decide (t225 < 0) = false := decide_eq_false c3
 clear c3
 replace H := Option.bind_eq_some_iff.mp H
 obtain ⟨t226, A50, H⟩ := H
 try dsimp only at H
 have A5 := am A50
 clear A50
 replace H := Option.bind_eq_some_iff.mp H
 obtain ⟨⟨t229, t230⟩, A60, H⟩ := H
 try dsimp only at H
 have A6 := am A60
 clear A60
 replace H := Option.bind_eq_some_iff.mp H
 obtain ⟨t231, A70, H⟩ := H
 try dsimp only at H
 have A7 := am A70
 clear A70
 replace H := Option.bind_eq_some_iff.mp H
 obtain ⟨⟨t234, t235⟩, A80, H⟩ := H
 try dsimp only at H
 have A8 := am A80
 clear A80
 have HC9 := am H
 clear H
 go_enter Tryd.func5, Tryd.ntmps5
 go_upto_region 8 with (first | ((with_reducible refine gate_callee (f := 16) rfl ?_); refine goesL_ (some 11) rfl rfl Tryd.func16 (by kernel_rfl) rfl #[.slice A0 l0.length c0, .int .i64 1048576] rfl mz ?_; (with_reducible refine (laws_szTokenS.calls k _ _ l0 1048576 t225 _ ?side1 ?side2 A2.out).mono ?_); (case side1 => repeat (first | exact HR0.out | (with_reducible refine Kd.C_alloc ?_ _) | (with_reducible refine Kd.C_drewN ?_ _) | (with_reducible refine Kd.C_drew ?_))); (case side2 => exact HC0.out); rintro e w10 ⟨rfl, hb⟩; refine ⟨_, rfl, ?_⟩; replace HB := am (below_step (Y0 HB) hb); (try clear hb)) | ((with_reducible refine gate_callee (f := 18) rfl ?_); refine goesL_ (some 16) rfl rfl Tryd.func18 (by kernel_rfl) rfl #[.slice A0 l0.length c0] rfl mz ?_; (with_reducible refine (laws_toTokenS.calls k _ _ l0 t226 _ ?side1 ?side2 A5.out).mono ?_); (case side1 => repeat (first | exact (Kd.C_below HR0.out HB.out) | (with_reducible refine Kd.C_alloc ?_ _) | (with_reducible refine Kd.C_drewN ?_ _) | (with_reducible refine Kd.C_drew ?_))); (case side2 => exact HC0.out); rintro e w11 ⟨v227, rfl, ho0, hb⟩; refine ⟨_, rfl, ?_⟩; have HO228 := am (Kd.R_lower ho0 (below_size (Y0 HB))); replace HB := am (below_step (Y0 HB) hb); (try clear hb); (try clear ho0); obtain ⟨Ao12, co12, eo12⟩ := Kd.R_slice HO228.out; subst eo12) | ((with_reducible refine gate_callee (f := 17) rfl ?_); refine goesL_ (some 17) rfl rfl Tryd.func17 (by kernel_rfl) rfl #[.slice Ao12 t226.length co12] rfl mz ?_; (with_reducible refine (spec_LexJoin.calls k _ _ t226 t229 t230 _ ?side1 ?side2 A6.out).mono ?_); (case side1 => repeat (first | exact (Kd.R_reads' HO228.out).2.2 | (with_reducible refine Kd.C_alloc ?_ _) | (with_reducible refine Kd.C_drewN ?_ _) | (with_reducible refine Kd.C_drew ?_))); (case side2 => exact (Kd.R_reads' HO228.out).2.1); rintro e w13 ⟨rfl, hb⟩; refine ⟨_, rfl, ?_⟩; replace HO228 := am (Kd.R_below (by (with_reducible repeat (first | apply Kd.R_alloc | apply Kd.R_drewN | apply Kd.R_drew)); exact HO228.out) hb); replace HB := am (below_step (Y0 HB) hb); (try clear hb)) | ((with_reducible refine gate_callee (f := 18) rfl ?_); refine goesL_ (some 21) rfl rfl Tryd.func18 (by kernel_rfl) rfl #[.slice A0 l0.length c0] rfl mz ?_; (with_reducible refine (laws_toTokenS.calls k _ _ l0 t231 _ ?side1 ?side2 A7.out).mono ?_); (case side1 => repeat (first | exact (Kd.C_below HR0.out HB.out) | (with_reducible refine Kd.C_alloc ?_ _) | (with_reducible refine Kd.C_drewN ?_ _) | (with_reducible refine Kd.C_drew ?_))); (case side2 => exact HC0.out); rintro e w14 ⟨v232, rfl, ho0, hb⟩; refine ⟨_, rfl, ?_⟩; have HO233 := am (Kd.R_lower (Kd.R_new' ho0 (Kd.R_lt (by (with_reducible repeat (first | apply Kd.R_alloc | apply Kd.R_drewN | apply Kd.R_drew)); exact HO228.out))) (below_size (Y0 HB))); replace HO228 := am (Kd.R_elder' (by (with_reducible repeat (first | apply Kd.R_alloc | apply Kd.R_drewN | apply Kd.R_drew)); exact HO228.out) (Kd.R_base ho0) hb); replace HB := am (below_step (Y0 HB) hb); (try clear hb); (try clear ho0); obtain ⟨Ao15, co15, eo15⟩ := Kd.R_slice HO233.out; subst eo15) | ((with_reducible refine gate_callee (f := 19) rfl ?_); refine goesL_ (some 24) rfl rfl Tryd.func19 (by kernel_rfl) rfl #[.slice Ao15 t231.length co15] rfl mz ?_; (with_reducible refine (impl_LexJoin.calls k _ _ t231 t234 t235 _ ?side1 ?side2 A8.out).mono ?_); (case side1 => repeat (first | exact (Kd.R_reads' HO233.out).2.2 | (with_reducible refine Kd.C_alloc ?_ _) | (with_reducible refine Kd.C_drewN ?_ _) | (with_reducible refine Kd.C_drew ?_))); (case side2 => exact (Kd.R_reads' HO233.out).2.1); rintro e w16 ⟨rfl, hb⟩; refine ⟨_, rfl, ?_⟩; replace HO228 := am (Kd.R_below (by (with_reducible repeat (first | apply Kd.R_alloc | apply Kd.R_drewN | apply Kd.R_drew)); exact HO228.out) hb); replace HO233 := am (Kd.R_below (by (with_reducible repeat (first | apply Kd.R_alloc | apply Kd.R_drewN | apply Kd.R_drew)); exact HO233.out) hb); replace HB := am (below_step (Y0 HB) hb); (try clear hb)))
 (try simp only [Act.put, List.setIfInBounds_toArray, List.set_cons_zero, List.set_cons_succ])
 go_cut [34] (fun v34 wc => ∃ (kq : Nat) (x34_8 : Bool), v34 = .bool x34_8 ∧ Aside0 (laws_FnExactLexJoin.j0 kq l0 t231 x34_8 = some r) ∧ Aside0 (kq ≤ k) ∧ Aside0 (Kd.R k42 42 wc w.heap.size (fun _ => True) (.slice Ao15 t231.length co15) t231) ∧ Aside0 (Below w.heap.size w wc))
 case first =>
  have H := HC9.out
  clear HC9
  by_cases c17 : t234.toList = t229.toList
  rotate_left
  ·rw [if_neg c17] at H
   have c17b0 : (t234.toList == t229.toList) = false := beq_eq_false_iff_ne.mpr c17
   have c17b1 : (t234.toList != t229.toList) = true := bne_iff_ne.mpr c17
   (first | rw [c17b0] | (simp only [i64_w, i32_w]; rw [c17b0]) | skip)
   have H' := am H
   clear H
   go_wp2
   go_meet
   case rel => exact ⟨_, (true), ey, H', ⟨by first | omega | exact Nat.le_refl _⟩, ⟨by (with_reducible repeat (first | apply Kd.R_alloc | apply Kd.R_drewN | apply Kd.R_drew)); exact Kd.R_mono HO233.out (fun _ hk => trivial)⟩, ⟨Y0 HB⟩⟩
  rw [if_pos c17] at H
  have c17b0 : (t234.toList == t229.toList) = true := beq_iff_eq.mpr c17
  have c17b1 : (t234.toList != t229.toList) = false := bne_eq_false_iff_eq.mpr c17
  clear c17
  (first | rw [c17b0] | (simp only [i64_w, i32_w]; rw [c17b0]) | skip)
  have H' := am H
  clear H
  go_wp2
  go_meet
  case rel => exact ⟨_, ((t235 != t230)), ey, H', ⟨by first | omega | exact Nat.le_refl _⟩, ⟨by (with_reducible repeat (first | apply Kd.R_alloc | apply Kd.R_drewN | apply Kd.R_drew)); exact Kd.R_mono HO233.out (fun _ hk => trivial)⟩, ⟨Y0 HB⟩⟩
 case rest =>
  clear HC9
  try clear c3b0
  obtain ⟨kq, x34_8, rfl, HA, HJ8, HO_6, HB⟩ := hcut
  cases kq with
  | zero => exact absurd HA.out (by simp [laws_FnExactLexJoin.j0])
  | succ kj8 =>
   have H := HA.out
   clear HA
   simp only [laws_FnExactLexJoin.j0] at H
   by_cases c18 : x34_8 = true
   ·subst c18
    rw [if_pos rfl] at H
    exact absurd H (by simp)
   replace c18 := Bool.eq_false_iff.mpr c18
   subst c18
   rw [if_neg (show ¬ (false = true) by decide)] at H
   replace H := Option.bind_eq_some_iff.mp H
   obtain ⟨t236, A190, H⟩ := H
   try dsimp only at H
   have A19 := am A190
   clear A190
   replace H := Option.bind_eq_some_iff.mp H
   obtain ⟨t239, A200, H⟩ := H
   try dsimp only at H
   have A20 := am A200
   clear A200
   by_cases c21 : t239 = true
   rotate_left
   ·replace c21 := Bool.eq_false_iff.mpr c21
    subst c21
    rw [if_neg (show ¬ (false = true) by decide)] at H
    exact absurd H (by simp)
   subst c21
   rw [if_pos rfl] at H
   obtain rfl := Option.some.inj H
   go_wp2_with (first | ((with_reducible refine gate_callee (f := 18) rfl ?_); refine goesL_ (some 37) rfl rfl Tryd.func18 (by kernel_rfl) rfl #[.slice A0 l0.length c0] rfl mz ?_; (with_reducible refine (laws_toTokenS.calls kj8 _ _ l0 t236 _ ?side1 ?side2 A19.out).mono ?_); (case side1 => repeat (first | exact (Kd.C_below HR0.out HB.out) | (with_reducible refine Kd.C_alloc ?_ _) | (with_reducible refine Kd.C_drewN ?_ _) | (with_reducible refine Kd.C_drew ?_))); (case side2 => exact HC0.out); rintro e w22 ⟨v237, rfl, ho0, hb⟩; refine ⟨_, rfl, ?_⟩; have HO238 := am (Kd.R_lower (Kd.R_new' ho0 (Kd.R_lt (by (with_reducible repeat (first | apply Kd.R_alloc | apply Kd.R_drewN | apply Kd.R_drew)); exact HO_6.out))) (below_size (Y0 HB))); replace HO_6 := am (Kd.R_elder' (by (with_reducible repeat (first | apply Kd.R_alloc | apply Kd.R_drewN | apply Kd.R_drew)); exact HO_6.out) (Kd.R_base ho0) hb); replace HB := am (below_step (Y0 HB) hb); (try clear hb); (try clear ho0); obtain ⟨Ao23, co23, eo23⟩ := Kd.R_slice HO238.out; subst eo23) | ((with_reducible refine gate_callee (f := 12) rfl ?_); refine goesL_ (some 38) rfl rfl Tryd.func12 (by kernel_rfl) rfl #[.slice Ao15 t231.length co15, .slice Ao23 t236.length co23] rfl mz ?_; (with_reducible refine (laws_eqTokenS.calls kj8 _ _ t231 _ _ t236 true _ ?side1 ?side2 ?side3 ?side4 A20.out).mono ?_); (case side1 => repeat (first | exact (Kd.R_reads' HO_6.out).2.2 | (with_reducible refine Kd.C_alloc ?_ _) | (with_reducible refine Kd.C_drewN ?_ _) | (with_reducible refine Kd.C_drew ?_))); (case side2 => exact (Kd.R_reads' HO_6.out).2.1); (case side3 => repeat (first | exact (Kd.R_reads' HO238.out).2.2 | (with_reducible refine Kd.C_alloc ?_ _) | (with_reducible refine Kd.C_drewN ?_ _) | (with_reducible refine Kd.C_drew ?_))); (case side4 => exact (Kd.R_reads' HO238.out).2.1); rintro e w24 ⟨rfl, hb⟩; refine ⟨_, rfl, ?_⟩; replace HO_6 := am (Kd.R_below (by (with_reducible repeat (first | apply Kd.R_alloc | apply Kd.R_drewN | apply Kd.R_drew)); exact HO_6.out) hb); replace HO238 := am (Kd.R_below (by (with_reducible repeat (first | apply Kd.R_alloc | apply Kd.R_drewN | apply Kd.R_drew)); exact HO238.out) hb); replace HB := am (below_step (Y0 HB) hb); (try clear hb)))
   go_ret
   exact ⟨ez, Y0 HB⟩

end Go.Proofs.YtnbpgnkplahknaaDoor.PFnExactLexJoin
