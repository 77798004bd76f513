/- Written by this session's own driver (wip/dprint.py): the functions that the law FnNumDo reaches, as Lean functions, each with its contract. -/
import Derived.Test.YtjkmefkgagfcaaaPFnNumDox0
import Derived.Test.YtjkmefkgagfcaaaPFnNumDox1
import Derived.Test.YtjkmefkgagfcaaaPFnNumDox2
import Derived.Test.YtjkmefkgagfcaaaPFnNumDox3
import Derived.Test.YtjkmefkgagfcaaaPFnNumDox4
namespace Go.Proofs.Ytjkmefkgagfcaaa.PFnNumDo
open Go.RowKit Go.Proofs.YtjkmefkgagfcaaaW.PrintWords Go.Proofs.YtjkmefkgagfcaaaW.PrintLast Go.Proofs.YtjkmefkgagfcaaaW.PrintMore
attribute [local go_sem] max2_int min2_int max_two min_two max_three min_three max_four min_four   -- for this text's walks alone
set_option linter.unusedVariables false
set_option linter.unusedSimpArgs false

/-! ### laws_FnNumDo: function 11 -/
mutual
def laws_FnNumDo.j0 : Nat → Int → Int → Int → Int → Int → Bool → Option (Bool)
  | 0, _, _, _, _, _, _ => none
  | k + 1, x3, x4, x5, x6, x7, x63 => if x63 = true then (some false) else (if x3 ≥ 11 then (laws_FnNumDo.j1 k x3 x4 x5 x6 x7 (x7 != 0)) else (laws_FnNumDo.j1 k x3 x4 x5 x6 x7 false))
def laws_FnNumDo.j1 : Nat → Int → Int → Int → Int → Int → Bool → Option (Bool)
  | 0, _, _, _, _, _, _ => none
  | k + 1, x3, x4, x5, x6, x7, x69 => if x69 = true then (some false) else (if x3 = 1 then ((impl_NumDo.f k x3 x5 x4).bind fun bt195 => (if bt195.1 = x6 then (some (bt195.2 == x7)) else (some false))) else (if x3 = 3 then ((impl_NumDo.f k x3 x5 x4).bind fun bt197 => (if bt197.1 = x6 then (some (bt197.2 == x7)) else (some false))) else (if x3 = 8 then ((impl_NumDo.f k x3 x5 x4).bind fun bt199 => (if bt199.1 = x6 then (some (bt199.2 == x7)) else (some false))) else (some true))))
end
def laws_FnNumDo.f (k : Nat) (l0 : List Int) : Option (Bool) := if (l0.length : Int) > 1048576 then (some true) else ((spec_DrawNumDo.f k l0).bind fun bt187 => ((impl_NumDo.f k bt187.1 bt187.2.1 bt187.2.2).bind fun bt190 => ((spec_NumDo.f k bt187.1 bt187.2.1 bt187.2.2).bind fun bt192 => (if bt190.1 = bt192.1 then (if bt190.2 = bt192.2 then ((impl_NumOk.f bt190.1).bind fun t194 => (if t194 = true then (if bt190.2 = 0 then (if bt190.2 < 0 then (laws_FnNumDo.j0 k bt187.1 bt187.2.1 bt187.2.2 bt190.1 bt190.2 true) else (laws_FnNumDo.j0 k bt187.1 bt187.2.1 bt187.2.2 bt190.1 bt190.2 (decide (bt190.2 > 3)))) else (if bt190.1 = 0 then (if bt190.2 < 0 then (laws_FnNumDo.j0 k bt187.1 bt187.2.1 bt187.2.2 bt190.1 bt190.2 true) else (laws_FnNumDo.j0 k bt187.1 bt187.2.1 bt187.2.2 bt190.1 bt190.2 (decide (bt190.2 > 3)))) else (laws_FnNumDo.j0 k bt187.1 bt187.2.1 bt187.2.2 bt190.1 bt190.2 true))) else (laws_FnNumDo.j0 k bt187.1 bt187.2.1 bt187.2.2 bt190.1 bt190.2 true))) else (laws_FnNumDo.j0 k bt187.1 bt187.2.1 bt187.2.2 bt190.1 bt190.2 true)) else (laws_FnNumDo.j0 k bt187.1 bt187.2.1 bt187.2.2 bt190.1 bt190.2 true)))))
theorem laws_FnNumDo.mono_l : ∀ k, (∀ y0 y1 y2 y3 y4 y5, LeO (laws_FnNumDo.j0 k y0 y1 y2 y3 y4 y5) (laws_FnNumDo.j0 (k + 1) y0 y1 y2 y3 y4 y5)) ∧ (∀ y0 y1 y2 y3 y4 y5, LeO (laws_FnNumDo.j1 k y0 y1 y2 y3 y4 y5) (laws_FnNumDo.j1 (k + 1) y0 y1 y2 y3 y4 y5))
  | 0 => ⟨fun _ _ _ _ _ _ r h => by simp [laws_FnNumDo.j0] at h, fun _ _ _ _ _ _ r h => by simp [laws_FnNumDo.j1] at h⟩
  | k + 1 => by
    obtain ⟨ih0, ih1⟩ := laws_FnNumDo.mono_l k
    refine ⟨?_, ?_⟩
    · intro y0 y1 y2 y3 y4 y5
      unfold laws_FnNumDo.j0
      repeat' first
      | (with_reducible exact ih0 _ _ _ _ _ _)
      | (with_reducible exact ih1 _ _ _ _ _ _)
      | (with_reducible exact impl_NumDo.mono _ _ _ _)
      | (with_reducible exact spec_DrawNumDo.mono _ _)
      | (with_reducible exact spec_NumDo.mono _ _ _ _)
      | (with_reducible exact LeO.refl _)
      | (with_reducible exact LeO.none _)
      | (with_reducible refine LeO.ite ?_ ?_)
      | (with_reducible refine LeO.bind ?_ (fun _ => ?_))
      | exact ih0 _ _ _ _ _ _
      | exact ih1 _ _ _ _ _ _
      | exact impl_NumDo.mono _ _ _ _
      | exact spec_DrawNumDo.mono _ _
      | exact spec_NumDo.mono _ _ _ _
      | exact LeO.none _
      | refine LeO.ite ?_ ?_
      | refine LeO.bind ?_ (fun _ => ?_)
    · intro y0 y1 y2 y3 y4 y5
      unfold laws_FnNumDo.j1
      repeat' first
      | (with_reducible exact ih0 _ _ _ _ _ _)
      | (with_reducible exact ih1 _ _ _ _ _ _)
      | (with_reducible exact impl_NumDo.mono _ _ _ _)
      | (with_reducible exact spec_DrawNumDo.mono _ _)
      | (with_reducible exact spec_NumDo.mono _ _ _ _)
      | (with_reducible exact LeO.refl _)
      | (with_reducible exact LeO.none _)
      | (with_reducible refine LeO.ite ?_ ?_)
      | (with_reducible refine LeO.bind ?_ (fun _ => ?_))
      | exact ih0 _ _ _ _ _ _
      | exact ih1 _ _ _ _ _ _
      | exact impl_NumDo.mono _ _ _ _
      | exact spec_DrawNumDo.mono _ _
      | exact spec_NumDo.mono _ _ _ _
      | exact LeO.none _
      | refine LeO.ite ?_ ?_
      | refine LeO.bind ?_ (fun _ => ?_)
theorem laws_FnNumDo.mono : ∀ a0 k, LeO (laws_FnNumDo.f k a0) (laws_FnNumDo.f (k + 1) a0) := by
  intro a0 k
  obtain ⟨ih0, ih1⟩ := laws_FnNumDo.mono_l k
  unfold laws_FnNumDo.f
  repeat' first
      | (with_reducible exact ih0 _ _ _ _ _ _)
      | (with_reducible exact ih1 _ _ _ _ _ _)
      | (with_reducible exact impl_NumDo.mono _ _ _ _)
      | (with_reducible exact spec_DrawNumDo.mono _ _)
      | (with_reducible exact spec_NumDo.mono _ _ _ _)
      | (with_reducible exact LeO.refl _)
      | (with_reducible exact LeO.none _)
      | (with_reducible refine LeO.ite ?_ ?_)
      | (with_reducible refine LeO.bind ?_ (fun _ => ?_))
      | exact ih0 _ _ _ _ _ _
      | exact ih1 _ _ _ _ _ _
      | exact impl_NumDo.mono _ _ _ _
      | exact spec_DrawNumDo.mono _ _
      | exact spec_NumDo.mono _ _ _ _
      | exact LeO.none _
      | refine LeO.ite ?_ ?_
      | refine LeO.bind ?_ (fun _ => ?_)
set_option maxHeartbeats 8000000 in
set_option maxRecDepth 100000 in
theorem laws_FnNumDo.calls (k : Nat) (A0 : Option Addr) (c0 : Nat) (l0 : List Int) (r : Bool) (w : World) (hr0 : Kd.C (Kd.int .u8) w A0 l0.length l0) (hc0 : l0.length ≤ c0) (h : laws_FnNumDo.f k l0 = some r) :
    Calls Try.prog 11 #[.slice A0 l0.length c0] w fun e w' => e = .returned (.bool r) ∧ Below w.heap.size w w' := by
  have HR0 := Aside0.mk hr0
  have HC0 := Aside0.mk hc0
  clear hr0 hc0
  have HB := Aside0.mk (Below.refl w.heap.size w)
  have H : (if (l0.length : Int) > 1048576 then (some true) else ((spec_DrawNumDo.f k l0).bind fun bt187 => ((impl_NumDo.f k bt187.1 bt187.2.1 bt187.2.2).bind fun bt190 => ((spec_NumDo.f k bt187.1 bt187.2.1 bt187.2.2).bind fun bt192 => (if bt190.1 = bt192.1 then (if bt190.2 = bt192.2 then ((impl_NumOk.f bt190.1).bind fun t194 => (if t194 = true then (if bt190.2 = 0 then (if bt190.2 < 0 then (laws_FnNumDo.j0 k bt187.1 bt187.2.1 bt187.2.2 bt190.1 bt190.2 true) else (laws_FnNumDo.j0 k bt187.1 bt187.2.1 bt187.2.2 bt190.1 bt190.2 (decide (bt190.2 > 3)))) else (if bt190.1 = 0 then (if bt190.2 < 0 then (laws_FnNumDo.j0 k bt187.1 bt187.2.1 bt187.2.2 bt190.1 bt190.2 true) else (laws_FnNumDo.j0 k bt187.1 bt187.2.1 bt187.2.2 bt190.1 bt190.2 (decide (bt190.2 > 3)))) else (laws_FnNumDo.j0 k bt187.1 bt187.2.1 bt187.2.2 bt190.1 bt190.2 true))) else (laws_FnNumDo.j0 k bt187.1 bt187.2.1 bt187.2.2 bt190.1 bt190.2 true))) else (laws_FnNumDo.j0 k bt187.1 bt187.2.1 bt187.2.2 bt190.1 bt190.2 true)) else (laws_FnNumDo.j0 k bt187.1 bt187.2.1 bt187.2.2 bt190.1 bt190.2 true)))))) = some r := h
  clear h
  by_cases c2 : (l0.length : Int) > 1048576
  · rw [if_pos c2] at H
    have c2b0 : decide (1048576 < (l0.length : Int)) = true := decide_eq_true c2
    have c2b1 : decide (1048576 < l0.length) = true := decide_eq_true (by omega)
    clear c2
    obtain rfl := Option.some.inj H
    go_enter Try.func11, Try.ntmps11
    go_wp2
    go_ret
    exact ⟨by first | rfl | (simp [errW_none, errW_some] <;> rfl) | (simp [*, errW_none, errW_some] <;> rfl), by repeat (first | (with_reducible first | exact HB.out | apply below_alloc | apply pw_below_drewN | apply below_drew1) | exact HB.out)⟩
  · rw [if_neg c2] at H
    have c2b0 : decide (1048576 < (l0.length : Int)) = false := decide_eq_false c2
    have c2b1 : decide (1048576 < l0.length) = false := decide_eq_false (by omega)
    clear c2
    replace H := Option.bind_eq_some_iff.mp H
    obtain ⟨⟨t187, t188, t189⟩, A30, H⟩ := H
    replace H : ((impl_NumDo.f k t187 t188 t189).bind fun bt190 => ((spec_NumDo.f k t187 t188 t189).bind fun bt192 => (if bt190.1 = bt192.1 then (if bt190.2 = bt192.2 then ((impl_NumOk.f bt190.1).bind fun t194 => (if t194 = true then (if bt190.2 = 0 then (if bt190.2 < 0 then (laws_FnNumDo.j0 k t187 t188 t189 bt190.1 bt190.2 true) else (laws_FnNumDo.j0 k t187 t188 t189 bt190.1 bt190.2 (decide (bt190.2 > 3)))) else (if bt190.1 = 0 then (if bt190.2 < 0 then (laws_FnNumDo.j0 k t187 t188 t189 bt190.1 bt190.2 true) else (laws_FnNumDo.j0 k t187 t188 t189 bt190.1 bt190.2 (decide (bt190.2 > 3)))) else (laws_FnNumDo.j0 k t187 t188 t189 bt190.1 bt190.2 true))) else (laws_FnNumDo.j0 k t187 t188 t189 bt190.1 bt190.2 true))) else (laws_FnNumDo.j0 k t187 t188 t189 bt190.1 bt190.2 true)) else (laws_FnNumDo.j0 k t187 t188 t189 bt190.1 bt190.2 true)))) = some r := H
    have A3 := Aside0.mk A30
    clear A30
    replace H := Option.bind_eq_some_iff.mp H
    obtain ⟨⟨t190, t191⟩, A40, H⟩ := H
    replace H : ((spec_NumDo.f k t187 t188 t189).bind fun bt192 => (if t190 = bt192.1 then (if t191 = bt192.2 then ((impl_NumOk.f t190).bind fun t194 => (if t194 = true then (if t191 = 0 then (if t191 < 0 then (laws_FnNumDo.j0 k t187 t188 t189 t190 t191 true) else (laws_FnNumDo.j0 k t187 t188 t189 t190 t191 (decide (t191 > 3)))) else (if t190 = 0 then (if t191 < 0 then (laws_FnNumDo.j0 k t187 t188 t189 t190 t191 true) else (laws_FnNumDo.j0 k t187 t188 t189 t190 t191 (decide (t191 > 3)))) else (laws_FnNumDo.j0 k t187 t188 t189 t190 t191 true))) else (laws_FnNumDo.j0 k t187 t188 t189 t190 t191 true))) else (laws_FnNumDo.j0 k t187 t188 t189 t190 t191 true)) else (laws_FnNumDo.j0 k t187 t188 t189 t190 t191 true))) = some r := H
    have A4 := Aside0.mk A40
    clear A40
    replace H := Option.bind_eq_some_iff.mp H
    obtain ⟨⟨t192, t193⟩, A50, H⟩ := H
    replace H : (if t190 = t192 then (if t191 = t193 then ((impl_NumOk.f t190).bind fun t194 => (if t194 = true then (if t191 = 0 then (if t191 < 0 then (laws_FnNumDo.j0 k t187 t188 t189 t190 t191 true) else (laws_FnNumDo.j0 k t187 t188 t189 t190 t191 (decide (t191 > 3)))) else (if t190 = 0 then (if t191 < 0 then (laws_FnNumDo.j0 k t187 t188 t189 t190 t191 true) else (laws_FnNumDo.j0 k t187 t188 t189 t190 t191 (decide (t191 > 3)))) else (laws_FnNumDo.j0 k t187 t188 t189 t190 t191 true))) else (laws_FnNumDo.j0 k t187 t188 t189 t190 t191 true))) else (laws_FnNumDo.j0 k t187 t188 t189 t190 t191 true)) else (laws_FnNumDo.j0 k t187 t188 t189 t190 t191 true)) = some r := H
    have A5 := Aside0.mk A50
    clear A50
    have HC6 := Aside0.mk H
    clear H
    go_enter Try.func11, Try.ntmps11
    go_upto_region 6 with (first | ((with_reducible refine gate_callee (f := 26) rfl ?_); refine goesL_ (some 17) rfl rfl Try.func26 (by kernel_rfl) rfl #[.slice A0 l0.length c0] rfl (by (try simp only [List.map_toArray, List.map_cons, List.map_nil]); first | done | rfl | (simp only [List.length_drop, List.length_take]; rfl)) ?_; (with_reducible refine (spec_DrawNumDo.calls k _ _ l0 t187 t188 t189 _ ?side1 ?side2 A3.out).mono ?_); (case side1 => repeat (first | exact HR0.out | (with_reducible refine Kd.C_alloc ?_ _) | (with_reducible refine Kd.C_drewN ?_ _) | (with_reducible refine Kd.C_drew ?_))); (case side2 => exact HC0.out); rintro e w7 ⟨rfl, hb⟩; refine ⟨_, rfl, ?_⟩; have n0_ := Aside0.mk (below_step (by repeat (first | (with_reducible first | exact HB.out | apply below_alloc | apply pw_below_drewN | apply below_drew1) | exact HB.out)) hb); clear HB; have HB := n0_; clear n0_; (try clear hb); (try clear hb2); (try clear hk); (try clear hi)) | ((with_reducible refine gate_callee (f := 27) rfl ?_); refine goesL_ (some 25) rfl rfl Try.func27 (by kernel_rfl) rfl #[.int .i64 t187, .int .i64 t188, .int .i64 t189] rfl (by (try simp only [List.map_toArray, List.map_cons, List.map_nil]); first | done | rfl | (simp only [List.length_drop, List.length_take]; rfl)) ?_; (with_reducible refine (impl_NumDo.calls k t187 t188 t189 t190 t191 _ A4.out).mono ?_); rintro e w' ⟨rfl, ⟨nd, rfl⟩⟩; refine ⟨_, rfl, ?_⟩) | ((with_reducible refine gate_callee (f := 28) rfl ?_); refine goesL_ (some 32) rfl rfl Try.func28 (by kernel_rfl) rfl #[.int .i64 t187, .int .i64 t188, .int .i64 t189] rfl (by (try simp only [List.map_toArray, List.map_cons, List.map_nil]); first | done | rfl | (simp only [List.length_drop, List.length_take]; rfl)) ?_; (with_reducible refine (spec_NumDo.calls k t187 t188 t189 t192 t193 _ A5.out).mono ?_); rintro e w' ⟨rfl, ⟨nd, rfl⟩⟩; refine ⟨_, rfl, ?_⟩))
    (try simp only [Act.put, List.setIfInBounds_toArray, List.set_cons_zero, List.set_cons_succ])
    go_cut [63] (fun v63 wc => ∃ (kq : Nat) (x63_5 : Bool), v63 = .bool x63_5 ∧ Aside0 (laws_FnNumDo.j0 kq t187 t188 t189 t190 t191 x63_5 = some r) ∧ Aside0 (kq ≤ k) ∧ Aside0 (Below w.heap.size w wc))
    case first =>
      have H := HC6.out
      clear HC6
      by_cases c8 : t190 = t192
      · rw [if_pos c8] at H
        have c8b0 : (t190 == t192) = true := beq_iff_eq.mpr c8
        have c8b1 : (t190 != t192) = false := bne_eq_false_iff_eq.mpr c8
        clear c8
        (first | rw [c8b0] | (simp only [i64_w, i32_w]; rw [c8b0]) | skip)
        by_cases c9 : t191 = t193
        · rw [if_pos c9] at H
          have c9b0 : (t191 == t193) = true := beq_iff_eq.mpr c9
          have c9b1 : (t191 != t193) = false := bne_eq_false_iff_eq.mpr c9
          clear c9
          replace H := Option.bind_eq_some_iff.mp H
          obtain ⟨t194, A100, H⟩ := H
          replace H : (if t194 = true then (if t191 = 0 then (if t191 < 0 then (laws_FnNumDo.j0 k t187 t188 t189 t190 t191 true) else (laws_FnNumDo.j0 k t187 t188 t189 t190 t191 (decide (t191 > 3)))) else (if t190 = 0 then (if t191 < 0 then (laws_FnNumDo.j0 k t187 t188 t189 t190 t191 true) else (laws_FnNumDo.j0 k t187 t188 t189 t190 t191 (decide (t191 > 3)))) else (laws_FnNumDo.j0 k t187 t188 t189 t190 t191 true))) else (laws_FnNumDo.j0 k t187 t188 t189 t190 t191 true)) = some r := H
          have A10 := Aside0.mk A100
          clear A100
          by_cases c11 : t194 = true
          · subst c11
            have H1 : (if t191 = 0 then (if t191 < 0 then (laws_FnNumDo.j0 k t187 t188 t189 t190 t191 true) else (laws_FnNumDo.j0 k t187 t188 t189 t190 t191 (decide (t191 > 3)))) else (if t190 = 0 then (if t191 < 0 then (laws_FnNumDo.j0 k t187 t188 t189 t190 t191 true) else (laws_FnNumDo.j0 k t187 t188 t189 t190 t191 (decide (t191 > 3)))) else (laws_FnNumDo.j0 k t187 t188 t189 t190 t191 true))) = some r := by rw [if_pos rfl] at H; exact H
            clear H
            have H := H1
            clear H1
            by_cases c12 : t191 = 0
            · rw [if_pos c12] at H
              have c12b0 : (t191 == 0) = true := beq_iff_eq.mpr c12
              have c12b1 : (t191 != 0) = false := bne_eq_false_iff_eq.mpr c12
              clear c12
              by_cases c13 : t191 < 0
              · rw [if_pos c13] at H
                have c13b0 : decide (t191 < 0) = true := decide_eq_true c13
                clear c13
                have H' := Aside0.mk H
                clear H
                go_wp2_with (first | (go_at_call 16; (with_reducible refine (impl_NumOk.calls t190 true _ A10.out).mono ?_); rintro e w' ⟨rfl, ⟨nd, rfl⟩⟩))
                go_meet
                case rel => exact ⟨_, (true), (by first | rfl | (simp; done) | (simp [*]; done)), H', ⟨by first | omega | exact Nat.le_refl _⟩, ⟨by repeat (first | (with_reducible first | exact HB.out | apply below_alloc | apply pw_below_drewN | apply below_drew1) | exact HB.out)⟩⟩
              · rw [if_neg c13] at H
                have c13b0 : decide (t191 < 0) = false := decide_eq_false c13
                clear c13
                have H' := Aside0.mk H
                clear H
                go_wp2_with (first | (go_at_call 16; (with_reducible refine (impl_NumOk.calls t190 true _ A10.out).mono ?_); rintro e w' ⟨rfl, ⟨nd, rfl⟩⟩))
                go_meet
                case rel => exact ⟨_, (decide (t191 > 3)), (by first | rfl | (simp; done) | (simp [*]; done)), H', ⟨by first | omega | exact Nat.le_refl _⟩, ⟨by repeat (first | (with_reducible first | exact HB.out | apply below_alloc | apply pw_below_drewN | apply below_drew1) | exact HB.out)⟩⟩
            · rw [if_neg c12] at H
              have c12b0 : (t191 == 0) = false := beq_eq_false_iff_ne.mpr c12
              have c12b1 : (t191 != 0) = true := bne_iff_ne.mpr c12
              by_cases c14 : t190 = 0
              · rw [if_pos c14] at H
                have c14b0 : (t190 == 0) = true := beq_iff_eq.mpr c14
                have c14b1 : (t190 != 0) = false := bne_eq_false_iff_eq.mpr c14
                clear c14
                by_cases c15 : t191 < 0
                · rw [if_pos c15] at H
                  have c15b0 : decide (t191 < 0) = true := decide_eq_true c15
                  clear c15
                  have H' := Aside0.mk H
                  clear H
                  go_wp2_with (first | (go_at_call 16; (with_reducible refine (impl_NumOk.calls t190 true _ A10.out).mono ?_); rintro e w' ⟨rfl, ⟨nd, rfl⟩⟩))
                  go_meet
                  case rel => exact ⟨_, (true), (by first | rfl | (simp; done) | (simp [*]; done)), H', ⟨by first | omega | exact Nat.le_refl _⟩, ⟨by repeat (first | (with_reducible first | exact HB.out | apply below_alloc | apply pw_below_drewN | apply below_drew1) | exact HB.out)⟩⟩
                · rw [if_neg c15] at H
                  have c15b0 : decide (t191 < 0) = false := decide_eq_false c15
                  clear c15
                  have H' := Aside0.mk H
                  clear H
                  go_wp2_with (first | (go_at_call 16; (with_reducible refine (impl_NumOk.calls t190 true _ A10.out).mono ?_); rintro e w' ⟨rfl, ⟨nd, rfl⟩⟩))
                  go_meet
                  case rel => exact ⟨_, (decide (t191 > 3)), (by first | rfl | (simp; done) | (simp [*]; done)), H', ⟨by first | omega | exact Nat.le_refl _⟩, ⟨by repeat (first | (with_reducible first | exact HB.out | apply below_alloc | apply pw_below_drewN | apply below_drew1) | exact HB.out)⟩⟩
              · rw [if_neg c14] at H
                have c14b0 : (t190 == 0) = false := beq_eq_false_iff_ne.mpr c14
                have c14b1 : (t190 != 0) = true := bne_iff_ne.mpr c14
                have H' := Aside0.mk H
                clear H
                go_wp2_with (first | (go_at_call 16; (with_reducible refine (impl_NumOk.calls t190 true _ A10.out).mono ?_); rintro e w' ⟨rfl, ⟨nd, rfl⟩⟩))
                go_meet
                case rel => exact ⟨_, (true), (by first | rfl | (simp; done) | (simp [*]; done)), H', ⟨by first | omega | exact Nat.le_refl _⟩, ⟨by repeat (first | (with_reducible first | exact HB.out | apply below_alloc | apply pw_below_drewN | apply below_drew1) | exact HB.out)⟩⟩
          · replace c11 := Bool.eq_false_iff.mpr c11
            subst c11
            have H1 : (laws_FnNumDo.j0 k t187 t188 t189 t190 t191 true) = some r := by rw [if_neg (show ¬ (false = true) by decide)] at H; exact H
            clear H
            have H := H1
            clear H1
            have H' := Aside0.mk H
            clear H
            go_wp2_with (first | (go_at_call 16; (with_reducible refine (impl_NumOk.calls t190 false _ A10.out).mono ?_); rintro e w' ⟨rfl, ⟨nd, rfl⟩⟩))
            go_meet
            case rel => exact ⟨_, (true), (by first | rfl | (simp; done) | (simp [*]; done)), H', ⟨by first | omega | exact Nat.le_refl _⟩, ⟨by repeat (first | (with_reducible first | exact HB.out | apply below_alloc | apply pw_below_drewN | apply below_drew1) | exact HB.out)⟩⟩
        · rw [if_neg c9] at H
          have c9b0 : (t191 == t193) = false := beq_eq_false_iff_ne.mpr c9
          have c9b1 : (t191 != t193) = true := bne_iff_ne.mpr c9
          have H' := Aside0.mk H
          clear H
          go_wp2
          go_meet
          case rel => exact ⟨_, (true), (by first | rfl | (simp; done) | (simp [*]; done)), H', ⟨by first | omega | exact Nat.le_refl _⟩, ⟨by repeat (first | (with_reducible first | exact HB.out | apply below_alloc | apply pw_below_drewN | apply below_drew1) | exact HB.out)⟩⟩
      · rw [if_neg c8] at H
        have c8b0 : (t190 == t192) = false := beq_eq_false_iff_ne.mpr c8
        have c8b1 : (t190 != t192) = true := bne_iff_ne.mpr c8
        (first | rw [c8b0] | (simp only [i64_w, i32_w]; rw [c8b0]) | skip)
        have H' := Aside0.mk H
        clear H
        go_wp2
        go_meet
        case rel => exact ⟨_, (true), (by first | rfl | (simp; done) | (simp [*]; done)), H', ⟨by first | omega | exact Nat.le_refl _⟩, ⟨by repeat (first | (with_reducible first | exact HB.out | apply below_alloc | apply pw_below_drewN | apply below_drew1) | exact HB.out)⟩⟩
    case rest =>
      clear HC6
      try clear c1
      try clear c2
      try clear c2b0
      try clear c2b1
      try clear p2
      try clear c8
      try clear c8b0
      try clear c8b1
      try clear c9
      try clear c9b0
      try clear c9b1
      try clear c11
      try clear c12
      try clear c12b0
      try clear c12b1
      try clear c13
      try clear c13b0
      try clear c14
      try clear c14b0
      try clear c14b1
      try clear c15
      try clear c15b0
      obtain ⟨kq, x63_5, rfl, HA, HJ5, HB⟩ := hcut
      cases kq with
      | zero => exact absurd HA.out (by simp [laws_FnNumDo.j0])
      | succ kj5 =>
        have H := HA.out
        clear HA
        simp only [laws_FnNumDo.j0] at H
        by_cases c16 : x63_5 = true
        · subst c16
          have H1 : (some false) = some r := by rw [if_pos rfl] at H; exact H
          clear H
          have H := H1
          clear H1
          obtain rfl := Option.some.inj H
          go_wp2
          go_ret
          exact ⟨by first | rfl | (simp [errW_none, errW_some] <;> rfl) | (simp [*, errW_none, errW_some] <;> rfl), by repeat (first | (with_reducible first | exact HB.out | apply below_alloc | apply pw_below_drewN | apply below_drew1) | exact HB.out)⟩
        · replace c16 := Bool.eq_false_iff.mpr c16
          subst c16
          have H1 : (if t187 ≥ 11 then (laws_FnNumDo.j1 kj5 t187 t188 t189 t190 t191 (t191 != 0)) else (laws_FnNumDo.j1 kj5 t187 t188 t189 t190 t191 false)) = some r := by rw [if_neg (show ¬ (false = true) by decide)] at H; exact H
          clear H
          have H := H1
          clear H1
          have HC17 := Aside0.mk H
          clear H
          go_upto_region 8 with (fail)
          go_cut [69] (fun v69 wc => ∃ (kq : Nat) (x69_16 : Bool), v69 = .bool x69_16 ∧ Aside0 (laws_FnNumDo.j1 kq t187 t188 t189 t190 t191 x69_16 = some r) ∧ Aside0 (kq ≤ kj5) ∧ Aside0 (Below w.heap.size w wc))
          case first =>
            have H := HC17.out
            clear HC17
            by_cases c18 : t187 ≥ 11
            · rw [if_pos c18] at H
              have c18b0 : decide (11 ≤ t187) = true := decide_eq_true c18
              clear c18
              (first | rw [c18b0] | (simp only [i64_w, i32_w]; rw [c18b0]) | skip)
              have H' := Aside0.mk H
              clear H
              go_wp2
              go_meet
              case rel => exact ⟨_, ((t191 != 0)), (by first | rfl | (simp; done) | (simp [*]; done)), H', ⟨by have := HJ5.out; first | omega | exact Nat.le_refl _⟩, ⟨by repeat (first | (with_reducible first | exact HB.out | apply below_alloc | apply pw_below_drewN | apply below_drew1) | exact HB.out)⟩⟩
            · rw [if_neg c18] at H
              have c18b0 : decide (11 ≤ t187) = false := decide_eq_false c18
              clear c18
              (first | rw [c18b0] | (simp only [i64_w, i32_w]; rw [c18b0]) | skip)
              have H' := Aside0.mk H
              clear H
              go_wp2
              go_meet
              case rel => exact ⟨_, (false), (by first | rfl | (simp; done) | (simp [*]; done)), H', ⟨by have := HJ5.out; first | omega | exact Nat.le_refl _⟩, ⟨by repeat (first | (with_reducible first | exact HB.out | apply below_alloc | apply pw_below_drewN | apply below_drew1) | exact HB.out)⟩⟩
          case rest =>
            clear HC17
            try clear c1
            try clear c2
            try clear c2b0
            try clear c2b1
            try clear p2
            try clear c8
            try clear c8b0
            try clear c8b1
            try clear c9
            try clear c9b0
            try clear c9b1
            try clear c11
            try clear c12
            try clear c12b0
            try clear c12b1
            try clear c13
            try clear c13b0
            try clear c14
            try clear c14b0
            try clear c14b1
            try clear c15
            try clear c15b0
            try clear c16
            try clear c18
            try clear c18b0
            try clear p2
            obtain ⟨kq, x69_16, rfl, HA, HJ16, HB⟩ := hcut
            cases kq with
            | zero => exact absurd HA.out (by simp [laws_FnNumDo.j1])
            | succ kj16 =>
              have H := HA.out
              clear HA
              simp only [laws_FnNumDo.j1] at H
              by_cases c19 : x69_16 = true
              · subst c19
                have H1 : (some false) = some r := by rw [if_pos rfl] at H; exact H
                clear H
                have H := H1
                clear H1
                obtain rfl := Option.some.inj H
                go_wp2
                go_ret
                exact ⟨by first | rfl | (simp [errW_none, errW_some] <;> rfl) | (simp [*, errW_none, errW_some] <;> rfl), by repeat (first | (with_reducible first | exact HB.out | apply below_alloc | apply pw_below_drewN | apply below_drew1) | exact HB.out)⟩
              · replace c19 := Bool.eq_false_iff.mpr c19
                subst c19
                have H1 : (if t187 = 1 then ((impl_NumDo.f kj16 t187 t189 t188).bind fun bt195 => (if bt195.1 = t190 then (some (bt195.2 == t191)) else (some false))) else (if t187 = 3 then ((impl_NumDo.f kj16 t187 t189 t188).bind fun bt197 => (if bt197.1 = t190 then (some (bt197.2 == t191)) else (some false))) else (if t187 = 8 then ((impl_NumDo.f kj16 t187 t189 t188).bind fun bt199 => (if bt199.1 = t190 then (some (bt199.2 == t191)) else (some false))) else (some true)))) = some r := by rw [if_neg (show ¬ (false = true) by decide)] at H; exact H
                clear H
                have H := H1
                clear H1
                by_cases c20 : t187 = 1
                · rw [if_pos c20] at H
                  have c20b0 : (t187 == 1) = true := beq_iff_eq.mpr c20
                  have c20b1 : (t187 != 1) = false := bne_eq_false_iff_eq.mpr c20
                  clear c20
                  replace H := Option.bind_eq_some_iff.mp H
                  obtain ⟨⟨t195, t196⟩, A210, H⟩ := H
                  replace H : (if t195 = t190 then (some (t196 == t191)) else (some false)) = some r := H
                  have A21 := Aside0.mk A210
                  clear A210
                  by_cases c22 : t195 = t190
                  · rw [if_pos c22] at H
                    have c22b0 : (t195 == t190) = true := beq_iff_eq.mpr c22
                    have c22b1 : (t195 != t190) = false := bne_eq_false_iff_eq.mpr c22
                    clear c22
                    obtain rfl := Option.some.inj H
                    go_wp2_with (first | ((with_reducible refine gate_callee (f := 27) rfl ?_); refine goesL_ (some 84) rfl rfl Try.func27 (by kernel_rfl) rfl #[.int .i64 t187, .int .i64 t189, .int .i64 t188] rfl (by (try simp only [List.map_toArray, List.map_cons, List.map_nil]); first | done | rfl | (simp only [List.length_drop, List.length_take]; rfl)) ?_; (with_reducible refine (impl_NumDo.calls kj16 t187 t189 t188 t195 t196 _ A21.out).mono ?_); rintro e w' ⟨rfl, ⟨nd, rfl⟩⟩; refine ⟨_, rfl, ?_⟩))
                    go_ret
                    exact ⟨by first | rfl | (simp [errW_none, errW_some] <;> rfl) | (simp [*, errW_none, errW_some] <;> rfl), by repeat (first | (with_reducible first | exact HB.out | apply below_alloc | apply pw_below_drewN | apply below_drew1) | exact HB.out)⟩
                  · rw [if_neg c22] at H
                    have c22b0 : (t195 == t190) = false := beq_eq_false_iff_ne.mpr c22
                    have c22b1 : (t195 != t190) = true := bne_iff_ne.mpr c22
                    obtain rfl := Option.some.inj H
                    go_wp2_with (first | ((with_reducible refine gate_callee (f := 27) rfl ?_); refine goesL_ (some 84) rfl rfl Try.func27 (by kernel_rfl) rfl #[.int .i64 t187, .int .i64 t189, .int .i64 t188] rfl (by (try simp only [List.map_toArray, List.map_cons, List.map_nil]); first | done | rfl | (simp only [List.length_drop, List.length_take]; rfl)) ?_; (with_reducible refine (impl_NumDo.calls kj16 t187 t189 t188 t195 t196 _ A21.out).mono ?_); rintro e w' ⟨rfl, ⟨nd, rfl⟩⟩; refine ⟨_, rfl, ?_⟩))
                    go_ret
                    exact ⟨by first | rfl | (simp [errW_none, errW_some] <;> rfl) | (simp [*, errW_none, errW_some] <;> rfl), by repeat (first | (with_reducible first | exact HB.out | apply below_alloc | apply pw_below_drewN | apply below_drew1) | exact HB.out)⟩
                · rw [if_neg c20] at H
                  have c20b0 : (t187 == 1) = false := beq_eq_false_iff_ne.mpr c20
                  have c20b1 : (t187 != 1) = true := bne_iff_ne.mpr c20
                  by_cases c23 : t187 = 3
                  · rw [if_pos c23] at H
                    have c23b0 : (t187 == 3) = true := beq_iff_eq.mpr c23
                    have c23b1 : (t187 != 3) = false := bne_eq_false_iff_eq.mpr c23
                    clear c23
                    replace H := Option.bind_eq_some_iff.mp H
                    obtain ⟨⟨t197, t198⟩, A240, H⟩ := H
                    replace H : (if t197 = t190 then (some (t198 == t191)) else (some false)) = some r := H
                    have A24 := Aside0.mk A240
                    clear A240
                    by_cases c25 : t197 = t190
                    · rw [if_pos c25] at H
                      have c25b0 : (t197 == t190) = true := beq_iff_eq.mpr c25
                      have c25b1 : (t197 != t190) = false := bne_eq_false_iff_eq.mpr c25
                      clear c25
                      obtain rfl := Option.some.inj H
                      go_wp2_with (first | ((with_reducible refine gate_callee (f := 27) rfl ?_); refine goesL_ (some 84) rfl rfl Try.func27 (by kernel_rfl) rfl #[.int .i64 t187, .int .i64 t189, .int .i64 t188] rfl (by (try simp only [List.map_toArray, List.map_cons, List.map_nil]); first | done | rfl | (simp only [List.length_drop, List.length_take]; rfl)) ?_; (with_reducible refine (impl_NumDo.calls kj16 t187 t189 t188 t197 t198 _ A24.out).mono ?_); rintro e w' ⟨rfl, ⟨nd, rfl⟩⟩; refine ⟨_, rfl, ?_⟩))
                      go_ret
                      exact ⟨by first | rfl | (simp [errW_none, errW_some] <;> rfl) | (simp [*, errW_none, errW_some] <;> rfl), by repeat (first | (with_reducible first | exact HB.out | apply below_alloc | apply pw_below_drewN | apply below_drew1) | exact HB.out)⟩
                    · rw [if_neg c25] at H
                      have c25b0 : (t197 == t190) = false := beq_eq_false_iff_ne.mpr c25
                      have c25b1 : (t197 != t190) = true := bne_iff_ne.mpr c25
                      obtain rfl := Option.some.inj H
                      go_wp2_with (first | ((with_reducible refine gate_callee (f := 27) rfl ?_); refine goesL_ (some 84) rfl rfl Try.func27 (by kernel_rfl) rfl #[.int .i64 t187, .int .i64 t189, .int .i64 t188] rfl (by (try simp only [List.map_toArray, List.map_cons, List.map_nil]); first | done | rfl | (simp only [List.length_drop, List.length_take]; rfl)) ?_; (with_reducible refine (impl_NumDo.calls kj16 t187 t189 t188 t197 t198 _ A24.out).mono ?_); rintro e w' ⟨rfl, ⟨nd, rfl⟩⟩; refine ⟨_, rfl, ?_⟩))
                      go_ret
                      exact ⟨by first | rfl | (simp [errW_none, errW_some] <;> rfl) | (simp [*, errW_none, errW_some] <;> rfl), by repeat (first | (with_reducible first | exact HB.out | apply below_alloc | apply pw_below_drewN | apply below_drew1) | exact HB.out)⟩
                  · rw [if_neg c23] at H
                    have c23b0 : (t187 == 3) = false := beq_eq_false_iff_ne.mpr c23
                    have c23b1 : (t187 != 3) = true := bne_iff_ne.mpr c23
                    by_cases c26 : t187 = 8
                    · rw [if_pos c26] at H
                      have c26b0 : (t187 == 8) = true := beq_iff_eq.mpr c26
                      have c26b1 : (t187 != 8) = false := bne_eq_false_iff_eq.mpr c26
                      clear c26
                      replace H := Option.bind_eq_some_iff.mp H
                      obtain ⟨⟨t199, t200⟩, A270, H⟩ := H
                      replace H : (if t199 = t190 then (some (t200 == t191)) else (some false)) = some r := H
                      have A27 := Aside0.mk A270
                      clear A270
                      by_cases c28 : t199 = t190
                      · rw [if_pos c28] at H
                        have c28b0 : (t199 == t190) = true := beq_iff_eq.mpr c28
                        have c28b1 : (t199 != t190) = false := bne_eq_false_iff_eq.mpr c28
                        clear c28
                        obtain rfl := Option.some.inj H
                        go_wp2_with (first | ((with_reducible refine gate_callee (f := 27) rfl ?_); refine goesL_ (some 84) rfl rfl Try.func27 (by kernel_rfl) rfl #[.int .i64 t187, .int .i64 t189, .int .i64 t188] rfl (by (try simp only [List.map_toArray, List.map_cons, List.map_nil]); first | done | rfl | (simp only [List.length_drop, List.length_take]; rfl)) ?_; (with_reducible refine (impl_NumDo.calls kj16 t187 t189 t188 t199 t200 _ A27.out).mono ?_); rintro e w' ⟨rfl, ⟨nd, rfl⟩⟩; refine ⟨_, rfl, ?_⟩))
                        go_ret
                        exact ⟨by first | rfl | (simp [errW_none, errW_some] <;> rfl) | (simp [*, errW_none, errW_some] <;> rfl), by repeat (first | (with_reducible first | exact HB.out | apply below_alloc | apply pw_below_drewN | apply below_drew1) | exact HB.out)⟩
                      · rw [if_neg c28] at H
                        have c28b0 : (t199 == t190) = false := beq_eq_false_iff_ne.mpr c28
                        have c28b1 : (t199 != t190) = true := bne_iff_ne.mpr c28
                        obtain rfl := Option.some.inj H
                        go_wp2_with (first | ((with_reducible refine gate_callee (f := 27) rfl ?_); refine goesL_ (some 84) rfl rfl Try.func27 (by kernel_rfl) rfl #[.int .i64 t187, .int .i64 t189, .int .i64 t188] rfl (by (try simp only [List.map_toArray, List.map_cons, List.map_nil]); first | done | rfl | (simp only [List.length_drop, List.length_take]; rfl)) ?_; (with_reducible refine (impl_NumDo.calls kj16 t187 t189 t188 t199 t200 _ A27.out).mono ?_); rintro e w' ⟨rfl, ⟨nd, rfl⟩⟩; refine ⟨_, rfl, ?_⟩))
                        go_ret
                        exact ⟨by first | rfl | (simp [errW_none, errW_some] <;> rfl) | (simp [*, errW_none, errW_some] <;> rfl), by repeat (first | (with_reducible first | exact HB.out | apply below_alloc | apply pw_below_drewN | apply below_drew1) | exact HB.out)⟩
                    · rw [if_neg c26] at H
                      have c26b0 : (t187 == 8) = false := beq_eq_false_iff_ne.mpr c26
                      have c26b1 : (t187 != 8) = true := bne_iff_ne.mpr c26
                      obtain rfl := Option.some.inj H
                      go_wp2
                      go_ret
                      exact ⟨by first | rfl | (simp [errW_none, errW_some] <;> rfl) | (simp [*, errW_none, errW_some] <;> rfl), by repeat (first | (with_reducible first | exact HB.out | apply below_alloc | apply pw_below_drewN | apply below_drew1) | exact HB.out)⟩

/-- THE ONE PURE STATEMENT of laws_FnNumDo: yours. -/
def laws_FnNumDo.Pure : Prop := ∀ (l0 : List Int), l0.length ≤ maxLen → l0.length * 1 ≤ 140737488351232 → (∀ x ∈ l0, (Lit.int .u8 x).wf = true) → ∃ k, laws_FnNumDo.f k l0 = some true
theorem laws_FnNumDo.walk (P : laws_FnNumDo.Pure) (a0 : Option Addr) (len0 cap0 : Nat) (z0 : List Int) (w : World) (w0 : (a0 = none ∧ len0 = 0 ∧ cap0 = 0 ∧ z0 = []) ∨ ∃ x, a0 = some x ∧ len0 ≤ cap0 ∧ cap0 ≤ maxLen ∧ z0.length = cap0 ∧ (∀ i, i < z0.length → w.cell? (x.add i) = some (.int .u8 (z0.getD i 0))) ∧ ∀ n ∈ z0, (Lit.int .u8 n).wf = true) (y0 : len0 * 1 ≤ 140737488351232) :
    Calls Try.prog 11 #[.slice a0 len0 cap0] w fun e w' => e = .returned (.bool true) ∧ Below w.heap.size w w' := by
  obtain ⟨l0, rfl, hr0, hm0, hw0, hc0⟩ := ReadsInt.ofRowC w0
  obtain ⟨k, h⟩ := P l0 hm0 y0 hw0
  refine (laws_FnNumDo.calls k _ _ l0 true w (Kd.C_of_reads (d := (0 : Int)) (h1 := fun _ => rfl) hr0) hc0 h).mono ?_
  rintro e w' ⟨rfl, hd⟩
  exact ⟨rfl, hd⟩

end Go.Proofs.Ytjkmefkgagfcaaa.PFnNumDo
