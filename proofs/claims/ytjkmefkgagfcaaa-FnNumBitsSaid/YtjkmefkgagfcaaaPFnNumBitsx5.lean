/- Written by this session's own driver (wip/dprint.py): the functions that the law FnNumBits reaches, as Lean functions, each with its contract. -/
import Derived.Test.YtjkmefkgagfcaaaPFnNumBitsx0
import Derived.Test.YtjkmefkgagfcaaaPFnNumBitsx1
import Derived.Test.YtjkmefkgagfcaaaPFnNumBitsx2
import Derived.Test.YtjkmefkgagfcaaaPFnNumBitsx3
import Derived.Test.YtjkmefkgagfcaaaPFnNumBitsx4
namespace Go.Proofs.Ytjkmefkgagfcaaa.PFnNumBits
open Go.RowKit Go.Proofs.YtjkmefkgagfcaaaW.PrintWords Go.Proofs.YtjkmefkgagfcaaaW.PrintLast Go.Proofs.YtjkmefkgagfcaaaW.PrintMore
attribute [local go_sem] max2_int min2_int max_two min_two max_three min_three max_four min_four   -- for this text's walks alone
set_option linter.unusedVariables false
set_option linter.unusedSimpArgs false

/-! ### laws_FnNumBits: function 10 -/
mutual
def laws_FnNumBits.j0 : Nat → Int → Int → Int → Int → Int → Int → Bool → Option (Bool)
  | 0, _, _, _, _, _, _, _ => none
  | k + 1, x4, x5, x6, x8, x10, x12, x64 => if x64 = true then (if x6 = x12 then (some (x10 == 0)) else (some false)) else (if (wrap64 (x6 + x8)) = (wrap64 (x4 + x5)) then (laws_FnNumBits.j1 k x4 x5 (x10 != (wrap64 (x8 - x6)))) else (laws_FnNumBits.j1 k x4 x5 true))
def laws_FnNumBits.j1 : Nat → Int → Int → Bool → Option (Bool)
  | 0, _, _, _ => none
  | k + 1, x4, x5, x85 => if x85 = true then (some false) else (laws_FnNumBits.l0 k x4 x5 0)
def laws_FnNumBits.l0 : Nat → Int → Int → Int → Option (Bool)
  | 0, _, _, _ => none
  | k + 1, x4, x5, x14 => if x14 < 3 then ((impl_NumDo.f k (wrap64 (1 + x14)) x4 x5).bind fun bt200 => ((impl_NumDo.f k (wrap64 (11 + x14)) x4 x5).bind fun bt202 => (if bt202.2 = 0 then (if bt200.2 = 0 then (if bt200.1 = bt202.1 then (laws_FnNumBits.l0 k x4 x5 (wrap64 (x14 + 1))) else (some false)) else (laws_FnNumBits.l0 k x4 x5 (wrap64 (x14 + 1)))) else (some false)))) else (some true)
end
def laws_FnNumBits.f (k : Nat) (l0 : List Int) : Option (Bool) := if (l0.length : Int) > 1048576 then (some true) else ((spec_DrawNumDo.f k l0).bind fun bt187 => ((impl_NumDo.f k 6 bt187.2.1 bt187.2.2).bind fun bt190 => ((impl_NumDo.f k 7 bt187.2.1 bt187.2.2).bind fun bt192 => ((impl_NumDo.f k 8 bt187.2.1 bt187.2.2).bind fun bt194 => ((spec_NumDo.f k 6 bt187.2.1 bt187.2.2).bind fun bt196 => (if bt190.1 = bt196.1 then ((spec_NumOk.f bt187.2.1).bind fun t198 => (if t198 = true then ((spec_NumOk.f bt187.2.2).bind fun t199 => (laws_FnNumBits.j0 k bt187.2.1 bt187.2.2 bt190.1 bt192.1 bt194.1 bt196.1 (!t199))) else (laws_FnNumBits.j0 k bt187.2.1 bt187.2.2 bt190.1 bt192.1 bt194.1 bt196.1 true))) else (laws_FnNumBits.j0 k bt187.2.1 bt187.2.2 bt190.1 bt192.1 bt194.1 bt196.1 true)))))))
theorem laws_FnNumBits.mono_l : ∀ k, (∀ y0 y1 y2 y3 y4 y5 y6, LeO (laws_FnNumBits.j0 k y0 y1 y2 y3 y4 y5 y6) (laws_FnNumBits.j0 (k + 1) y0 y1 y2 y3 y4 y5 y6)) ∧ (∀ y0 y1 y2, LeO (laws_FnNumBits.j1 k y0 y1 y2) (laws_FnNumBits.j1 (k + 1) y0 y1 y2)) ∧ (∀ y0 y1 y2, LeO (laws_FnNumBits.l0 k y0 y1 y2) (laws_FnNumBits.l0 (k + 1) y0 y1 y2))
  | 0 => ⟨fun _ _ _ _ _ _ _ r h => by simp [laws_FnNumBits.j0] at h, fun _ _ _ r h => by simp [laws_FnNumBits.j1] at h, fun _ _ _ r h => by simp [laws_FnNumBits.l0] at h⟩
  | k + 1 => by
    obtain ⟨ih0, ih1, ih2⟩ := laws_FnNumBits.mono_l k
    refine ⟨?_, ?_, ?_⟩
    · intro y0 y1 y2 y3 y4 y5 y6
      unfold laws_FnNumBits.j0
      repeat' first
      | (with_reducible exact ih0 _ _ _ _ _ _ _)
      | (with_reducible exact ih1 _ _ _)
      | (with_reducible exact ih2 _ _ _)
      | (with_reducible exact impl_NumDo.mono _ _ _ _)
      | (with_reducible exact spec_DrawNumDo.mono _ _)
      | (with_reducible exact spec_NumDo.mono _ _ _ _)
      | (with_reducible exact LeO.refl _)
      | (with_reducible exact LeO.none _)
      | (with_reducible refine LeO.ite ?_ ?_)
      | (with_reducible refine LeO.bind ?_ (fun _ => ?_))
      | exact ih0 _ _ _ _ _ _ _
      | exact ih1 _ _ _
      | exact ih2 _ _ _
      | exact impl_NumDo.mono _ _ _ _
      | exact spec_DrawNumDo.mono _ _
      | exact spec_NumDo.mono _ _ _ _
      | exact LeO.none _
      | refine LeO.ite ?_ ?_
      | refine LeO.bind ?_ (fun _ => ?_)
    · intro y0 y1 y2
      unfold laws_FnNumBits.j1
      repeat' first
      | (with_reducible exact ih0 _ _ _ _ _ _ _)
      | (with_reducible exact ih1 _ _ _)
      | (with_reducible exact ih2 _ _ _)
      | (with_reducible exact impl_NumDo.mono _ _ _ _)
      | (with_reducible exact spec_DrawNumDo.mono _ _)
      | (with_reducible exact spec_NumDo.mono _ _ _ _)
      | (with_reducible exact LeO.refl _)
      | (with_reducible exact LeO.none _)
      | (with_reducible refine LeO.ite ?_ ?_)
      | (with_reducible refine LeO.bind ?_ (fun _ => ?_))
      | exact ih0 _ _ _ _ _ _ _
      | exact ih1 _ _ _
      | exact ih2 _ _ _
      | exact impl_NumDo.mono _ _ _ _
      | exact spec_DrawNumDo.mono _ _
      | exact spec_NumDo.mono _ _ _ _
      | exact LeO.none _
      | refine LeO.ite ?_ ?_
      | refine LeO.bind ?_ (fun _ => ?_)
    · intro y0 y1 y2
      unfold laws_FnNumBits.l0
      repeat' first
      | (with_reducible exact ih0 _ _ _ _ _ _ _)
      | (with_reducible exact ih1 _ _ _)
      | (with_reducible exact ih2 _ _ _)
      | (with_reducible exact impl_NumDo.mono _ _ _ _)
      | (with_reducible exact spec_DrawNumDo.mono _ _)
      | (with_reducible exact spec_NumDo.mono _ _ _ _)
      | (with_reducible exact LeO.refl _)
      | (with_reducible exact LeO.none _)
      | (with_reducible refine LeO.ite ?_ ?_)
      | (with_reducible refine LeO.bind ?_ (fun _ => ?_))
      | exact ih0 _ _ _ _ _ _ _
      | exact ih1 _ _ _
      | exact ih2 _ _ _
      | exact impl_NumDo.mono _ _ _ _
      | exact spec_DrawNumDo.mono _ _
      | exact spec_NumDo.mono _ _ _ _
      | exact LeO.none _
      | refine LeO.ite ?_ ?_
      | refine LeO.bind ?_ (fun _ => ?_)
theorem laws_FnNumBits.mono : ∀ a0 k, LeO (laws_FnNumBits.f k a0) (laws_FnNumBits.f (k + 1) a0) := by
  intro a0 k
  obtain ⟨ih0, ih1, ih2⟩ := laws_FnNumBits.mono_l k
  unfold laws_FnNumBits.f
  repeat' first
      | (with_reducible exact ih0 _ _ _ _ _ _ _)
      | (with_reducible exact ih1 _ _ _)
      | (with_reducible exact ih2 _ _ _)
      | (with_reducible exact impl_NumDo.mono _ _ _ _)
      | (with_reducible exact spec_DrawNumDo.mono _ _)
      | (with_reducible exact spec_NumDo.mono _ _ _ _)
      | (with_reducible exact LeO.refl _)
      | (with_reducible exact LeO.none _)
      | (with_reducible refine LeO.ite ?_ ?_)
      | (with_reducible refine LeO.bind ?_ (fun _ => ?_))
      | exact ih0 _ _ _ _ _ _ _
      | exact ih1 _ _ _
      | exact ih2 _ _ _
      | exact impl_NumDo.mono _ _ _ _
      | exact spec_DrawNumDo.mono _ _
      | exact spec_NumDo.mono _ _ _ _
      | exact LeO.none _
      | refine LeO.ite ?_ ?_
      | refine LeO.bind ?_ (fun _ => ?_)
set_option maxHeartbeats 8000000 in
set_option maxRecDepth 100000 in
theorem laws_FnNumBits.calls (k : Nat) (A0 : Option Addr) (c0 : Nat) (l0 : List Int) (r : Bool) (w : World) (hr0 : Kd.C (Kd.int .u8) w A0 l0.length l0) (hc0 : l0.length ≤ c0) (h : laws_FnNumBits.f k l0 = some r) :
    Calls Try.prog 10 #[.slice A0 l0.length c0] w fun e w' => e = .returned (.bool r) ∧ Below w.heap.size w w' := by
  have HR0 := Aside0.mk hr0
  have HC0 := Aside0.mk hc0
  clear hr0 hc0
  have HB := Aside0.mk (Below.refl w.heap.size w)
  have H : (if (l0.length : Int) > 1048576 then (some true) else ((spec_DrawNumDo.f k l0).bind fun bt187 => ((impl_NumDo.f k 6 bt187.2.1 bt187.2.2).bind fun bt190 => ((impl_NumDo.f k 7 bt187.2.1 bt187.2.2).bind fun bt192 => ((impl_NumDo.f k 8 bt187.2.1 bt187.2.2).bind fun bt194 => ((spec_NumDo.f k 6 bt187.2.1 bt187.2.2).bind fun bt196 => (if bt190.1 = bt196.1 then ((spec_NumOk.f bt187.2.1).bind fun t198 => (if t198 = true then ((spec_NumOk.f bt187.2.2).bind fun t199 => (laws_FnNumBits.j0 k bt187.2.1 bt187.2.2 bt190.1 bt192.1 bt194.1 bt196.1 (!t199))) else (laws_FnNumBits.j0 k bt187.2.1 bt187.2.2 bt190.1 bt192.1 bt194.1 bt196.1 true))) else (laws_FnNumBits.j0 k bt187.2.1 bt187.2.2 bt190.1 bt192.1 bt194.1 bt196.1 true)))))))) = some r := h
  clear h
  by_cases c2 : (l0.length : Int) > 1048576
  · rw [if_pos c2] at H
    have c2b0 : decide (1048576 < (l0.length : Int)) = true := decide_eq_true c2
    have c2b1 : decide (1048576 < l0.length) = true := decide_eq_true (by omega)
    clear c2
    obtain rfl := Option.some.inj H
    go_enter Try.func10, Try.ntmps10
    go_wp2
    go_ret
    exact ⟨by first | rfl | (simp [errW_none, errW_some] <;> rfl) | (simp [*, errW_none, errW_some] <;> rfl), by repeat (first | (with_reducible first | exact HB.out | apply below_alloc | apply pw_below_drewN | apply below_drew1) | exact HB.out)⟩
  · rw [if_neg c2] at H
    have c2b0 : decide (1048576 < (l0.length : Int)) = false := decide_eq_false c2
    have c2b1 : decide (1048576 < l0.length) = false := decide_eq_false (by omega)
    clear c2
    replace H := Option.bind_eq_some_iff.mp H
    obtain ⟨⟨t187, t188, t189⟩, A30, H⟩ := H
    replace H : ((impl_NumDo.f k 6 t188 t189).bind fun bt190 => ((impl_NumDo.f k 7 t188 t189).bind fun bt192 => ((impl_NumDo.f k 8 t188 t189).bind fun bt194 => ((spec_NumDo.f k 6 t188 t189).bind fun bt196 => (if bt190.1 = bt196.1 then ((spec_NumOk.f t188).bind fun t198 => (if t198 = true then ((spec_NumOk.f t189).bind fun t199 => (laws_FnNumBits.j0 k t188 t189 bt190.1 bt192.1 bt194.1 bt196.1 (!t199))) else (laws_FnNumBits.j0 k t188 t189 bt190.1 bt192.1 bt194.1 bt196.1 true))) else (laws_FnNumBits.j0 k t188 t189 bt190.1 bt192.1 bt194.1 bt196.1 true)))))) = some r := H
    have A3 := Aside0.mk A30
    clear A30
    replace H := Option.bind_eq_some_iff.mp H
    obtain ⟨⟨t190, t191⟩, A40, H⟩ := H
    replace H : ((impl_NumDo.f k 7 t188 t189).bind fun bt192 => ((impl_NumDo.f k 8 t188 t189).bind fun bt194 => ((spec_NumDo.f k 6 t188 t189).bind fun bt196 => (if t190 = bt196.1 then ((spec_NumOk.f t188).bind fun t198 => (if t198 = true then ((spec_NumOk.f t189).bind fun t199 => (laws_FnNumBits.j0 k t188 t189 t190 bt192.1 bt194.1 bt196.1 (!t199))) else (laws_FnNumBits.j0 k t188 t189 t190 bt192.1 bt194.1 bt196.1 true))) else (laws_FnNumBits.j0 k t188 t189 t190 bt192.1 bt194.1 bt196.1 true))))) = some r := H
    have A4 := Aside0.mk A40
    clear A40
    replace H := Option.bind_eq_some_iff.mp H
    obtain ⟨⟨t192, t193⟩, A50, H⟩ := H
    replace H : ((impl_NumDo.f k 8 t188 t189).bind fun bt194 => ((spec_NumDo.f k 6 t188 t189).bind fun bt196 => (if t190 = bt196.1 then ((spec_NumOk.f t188).bind fun t198 => (if t198 = true then ((spec_NumOk.f t189).bind fun t199 => (laws_FnNumBits.j0 k t188 t189 t190 t192 bt194.1 bt196.1 (!t199))) else (laws_FnNumBits.j0 k t188 t189 t190 t192 bt194.1 bt196.1 true))) else (laws_FnNumBits.j0 k t188 t189 t190 t192 bt194.1 bt196.1 true)))) = some r := H
    have A5 := Aside0.mk A50
    clear A50
    replace H := Option.bind_eq_some_iff.mp H
    obtain ⟨⟨t194, t195⟩, A60, H⟩ := H
    replace H : ((spec_NumDo.f k 6 t188 t189).bind fun bt196 => (if t190 = bt196.1 then ((spec_NumOk.f t188).bind fun t198 => (if t198 = true then ((spec_NumOk.f t189).bind fun t199 => (laws_FnNumBits.j0 k t188 t189 t190 t192 t194 bt196.1 (!t199))) else (laws_FnNumBits.j0 k t188 t189 t190 t192 t194 bt196.1 true))) else (laws_FnNumBits.j0 k t188 t189 t190 t192 t194 bt196.1 true))) = some r := H
    have A6 := Aside0.mk A60
    clear A60
    replace H := Option.bind_eq_some_iff.mp H
    obtain ⟨⟨t196, t197⟩, A70, H⟩ := H
    replace H : (if t190 = t196 then ((spec_NumOk.f t188).bind fun t198 => (if t198 = true then ((spec_NumOk.f t189).bind fun t199 => (laws_FnNumBits.j0 k t188 t189 t190 t192 t194 t196 (!t199))) else (laws_FnNumBits.j0 k t188 t189 t190 t192 t194 t196 true))) else (laws_FnNumBits.j0 k t188 t189 t190 t192 t194 t196 true)) = some r := H
    have A7 := Aside0.mk A70
    clear A70
    have HC8 := Aside0.mk H
    clear H
    go_enter Try.func10, Try.ntmps10
    go_upto_region 8 with (first | ((with_reducible refine gate_callee (f := 26) rfl ?_); refine goesL_ (some 24) rfl rfl Try.func26 (by kernel_rfl) rfl #[.slice A0 l0.length c0] rfl (by (try simp only [List.map_toArray, List.map_cons, List.map_nil]); first | done | rfl | (simp only [List.length_drop, List.length_take]; rfl)) ?_; (with_reducible refine (spec_DrawNumDo.calls k _ _ l0 t187 t188 t189 _ ?side1 ?side2 A3.out).mono ?_); (case side1 => repeat (first | exact HR0.out | (with_reducible refine Kd.C_alloc ?_ _) | (with_reducible refine Kd.C_drewN ?_ _) | (with_reducible refine Kd.C_drew ?_))); (case side2 => exact HC0.out); rintro e w9 ⟨rfl, hb⟩; refine ⟨_, rfl, ?_⟩; have n0_ := Aside0.mk (below_step (by repeat (first | (with_reducible first | exact HB.out | apply below_alloc | apply pw_below_drewN | apply below_drew1) | exact HB.out)) hb); clear HB; have HB := n0_; clear n0_; (try clear hb); (try clear hb2); (try clear hk); (try clear hi)) | ((with_reducible refine gate_callee (f := 27) rfl ?_); refine goesL_ (some 31) rfl rfl Try.func27 (by kernel_rfl) rfl #[.int .i64 6, .int .i64 t188, .int .i64 t189] rfl (by (try simp only [List.map_toArray, List.map_cons, List.map_nil]); first | done | rfl | (simp only [List.length_drop, List.length_take]; rfl)) ?_; (with_reducible refine (impl_NumDo.calls k 6 t188 t189 t190 t191 _ A4.out).mono ?_); rintro e w' ⟨rfl, ⟨nd, rfl⟩⟩; refine ⟨_, rfl, ?_⟩) | ((with_reducible refine gate_callee (f := 27) rfl ?_); refine goesL_ (some 37) rfl rfl Try.func27 (by kernel_rfl) rfl #[.int .i64 7, .int .i64 t188, .int .i64 t189] rfl (by (try simp only [List.map_toArray, List.map_cons, List.map_nil]); first | done | rfl | (simp only [List.length_drop, List.length_take]; rfl)) ?_; (with_reducible refine (impl_NumDo.calls k 7 t188 t189 t192 t193 _ A5.out).mono ?_); rintro e w' ⟨rfl, ⟨nd, rfl⟩⟩; refine ⟨_, rfl, ?_⟩) | ((with_reducible refine gate_callee (f := 27) rfl ?_); refine goesL_ (some 43) rfl rfl Try.func27 (by kernel_rfl) rfl #[.int .i64 8, .int .i64 t188, .int .i64 t189] rfl (by (try simp only [List.map_toArray, List.map_cons, List.map_nil]); first | done | rfl | (simp only [List.length_drop, List.length_take]; rfl)) ?_; (with_reducible refine (impl_NumDo.calls k 8 t188 t189 t194 t195 _ A6.out).mono ?_); rintro e w' ⟨rfl, ⟨nd, rfl⟩⟩; refine ⟨_, rfl, ?_⟩) | ((with_reducible refine gate_callee (f := 28) rfl ?_); refine goesL_ (some 49) rfl rfl Try.func28 (by kernel_rfl) rfl #[.int .i64 6, .int .i64 t188, .int .i64 t189] rfl (by (try simp only [List.map_toArray, List.map_cons, List.map_nil]); first | done | rfl | (simp only [List.length_drop, List.length_take]; rfl)) ?_; (with_reducible refine (spec_NumDo.calls k 6 t188 t189 t196 t197 _ A7.out).mono ?_); rintro e w' ⟨rfl, ⟨nd, rfl⟩⟩; refine ⟨_, rfl, ?_⟩))
    (try simp only [Act.put, List.setIfInBounds_toArray, List.set_cons_zero, List.set_cons_succ])
    go_cut [64] (fun v64 wc => ∃ (kq : Nat) (x64_7 : Bool), v64 = .bool x64_7 ∧ Aside0 (laws_FnNumBits.j0 kq t188 t189 t190 t192 t194 t196 x64_7 = some r) ∧ Aside0 (kq ≤ k) ∧ Aside0 (Below w.heap.size w wc))
    case first =>
      have H := HC8.out
      clear HC8
      by_cases c10 : t190 = t196
      · rw [if_pos c10] at H
        have c10b0 : (t190 == t196) = true := beq_iff_eq.mpr c10
        have c10b1 : (t190 != t196) = false := bne_eq_false_iff_eq.mpr c10
        clear c10
        (first | rw [c10b0] | (simp only [i64_w, i32_w]; rw [c10b0]) | skip)
        replace H := Option.bind_eq_some_iff.mp H
        obtain ⟨t198, A110, H⟩ := H
        replace H : (if t198 = true then ((spec_NumOk.f t189).bind fun t199 => (laws_FnNumBits.j0 k t188 t189 t190 t192 t194 t196 (!t199))) else (laws_FnNumBits.j0 k t188 t189 t190 t192 t194 t196 true)) = some r := H
        have A11 := Aside0.mk A110
        clear A110
        by_cases c12 : t198 = true
        · subst c12
          have H1 : ((spec_NumOk.f t189).bind fun t199 => (laws_FnNumBits.j0 k t188 t189 t190 t192 t194 t196 (!t199))) = some r := by rw [if_pos rfl] at H; exact H
          clear H
          have H := H1
          clear H1
          replace H := Option.bind_eq_some_iff.mp H
          obtain ⟨t199, A130, H⟩ := H
          replace H : (laws_FnNumBits.j0 k t188 t189 t190 t192 t194 t196 (!t199)) = some r := H
          have A13 := Aside0.mk A130
          clear A130
          have H' := Aside0.mk H
          clear H
          go_wp2_with (first | (go_at_call 15; (with_reducible refine (spec_NumOk.calls t188 true _ A11.out).mono ?_); rintro e w' ⟨rfl, ⟨nd, rfl⟩⟩) | (go_at_call 15; (with_reducible refine (spec_NumOk.calls t189 t199 _ A13.out).mono ?_); rintro e w' ⟨rfl, ⟨nd, rfl⟩⟩))
          go_meet
          case rel => exact ⟨_, (!t199), (by first | rfl | (simp; done) | (simp [*]; done)), H', ⟨by first | omega | exact Nat.le_refl _⟩, ⟨by repeat (first | (with_reducible first | exact HB.out | apply below_alloc | apply pw_below_drewN | apply below_drew1) | exact HB.out)⟩⟩
        · replace c12 := Bool.eq_false_iff.mpr c12
          subst c12
          have H1 : (laws_FnNumBits.j0 k t188 t189 t190 t192 t194 t196 true) = some r := by rw [if_neg (show ¬ (false = true) by decide)] at H; exact H
          clear H
          have H := H1
          clear H1
          have H' := Aside0.mk H
          clear H
          go_wp2_with (first | (go_at_call 15; (with_reducible refine (spec_NumOk.calls t188 false _ A11.out).mono ?_); rintro e w' ⟨rfl, ⟨nd, rfl⟩⟩))
          go_meet
          case rel => exact ⟨_, (true), (by first | rfl | (simp; done) | (simp [*]; done)), H', ⟨by first | omega | exact Nat.le_refl _⟩, ⟨by repeat (first | (with_reducible first | exact HB.out | apply below_alloc | apply pw_below_drewN | apply below_drew1) | exact HB.out)⟩⟩
      · rw [if_neg c10] at H
        have c10b0 : (t190 == t196) = false := beq_eq_false_iff_ne.mpr c10
        have c10b1 : (t190 != t196) = true := bne_iff_ne.mpr c10
        (first | rw [c10b0] | (simp only [i64_w, i32_w]; rw [c10b0]) | skip)
        have H' := Aside0.mk H
        clear H
        go_wp2
        go_meet
        case rel => exact ⟨_, (true), (by first | rfl | (simp; done) | (simp [*]; done)), H', ⟨by first | omega | exact Nat.le_refl _⟩, ⟨by repeat (first | (with_reducible first | exact HB.out | apply below_alloc | apply pw_below_drewN | apply below_drew1) | exact HB.out)⟩⟩
    case rest =>
      clear HC8
      try clear c1
      try clear c2
      try clear c2b0
      try clear c2b1
      try clear p2
      try clear c10
      try clear c10b0
      try clear c10b1
      try clear c12
      obtain ⟨kq, x64_7, rfl, HA, HJ7, HB⟩ := hcut
      cases kq with
      | zero => exact absurd HA.out (by simp [laws_FnNumBits.j0])
      | succ kj7 =>
        have H := HA.out
        clear HA
        simp only [laws_FnNumBits.j0] at H
        by_cases c14 : x64_7 = true
        · subst c14
          have H1 : (if t190 = t196 then (some (t194 == 0)) else (some false)) = some r := by rw [if_pos rfl] at H; exact H
          clear H
          have H := H1
          clear H1
          by_cases c15 : t190 = t196
          · rw [if_pos c15] at H
            have c15b0 : (t190 == t196) = true := beq_iff_eq.mpr c15
            have c15b1 : (t190 != t196) = false := bne_eq_false_iff_eq.mpr c15
            clear c15
            obtain rfl := Option.some.inj H
            go_wp2
            go_ret
            exact ⟨by first | rfl | (simp [errW_none, errW_some] <;> rfl) | (simp [*, errW_none, errW_some] <;> rfl), by repeat (first | (with_reducible first | exact HB.out | apply below_alloc | apply pw_below_drewN | apply below_drew1) | exact HB.out)⟩
          · rw [if_neg c15] at H
            have c15b0 : (t190 == t196) = false := beq_eq_false_iff_ne.mpr c15
            have c15b1 : (t190 != t196) = true := bne_iff_ne.mpr c15
            obtain rfl := Option.some.inj H
            go_wp2
            go_ret
            exact ⟨by first | rfl | (simp [errW_none, errW_some] <;> rfl) | (simp [*, errW_none, errW_some] <;> rfl), by repeat (first | (with_reducible first | exact HB.out | apply below_alloc | apply pw_below_drewN | apply below_drew1) | exact HB.out)⟩
        · replace c14 := Bool.eq_false_iff.mpr c14
          subst c14
          have H1 : (if (wrap64 (t190 + t192)) = (wrap64 (t188 + t189)) then (laws_FnNumBits.j1 kj7 t188 t189 (t194 != (wrap64 (t192 - t190)))) else (laws_FnNumBits.j1 kj7 t188 t189 true)) = some r := by rw [if_neg (show ¬ (false = true) by decide)] at H; exact H
          clear H
          have H := H1
          clear H1
          have HC16 := Aside0.mk H
          clear H
          go_upto_region 10 with (fail)
          go_cut [85] (fun v85 wc => ∃ (kq : Nat) (x85_15 : Bool), v85 = .bool x85_15 ∧ Aside0 (laws_FnNumBits.j1 kq t188 t189 x85_15 = some r) ∧ Aside0 (kq ≤ kj7) ∧ Aside0 (Below w.heap.size w wc))
          case first =>
            have H := HC16.out
            clear HC16
            by_cases c17 : (wrap64 (t190 + t192)) = (wrap64 (t188 + t189))
            · rw [if_pos c17] at H
              have c17b0 : ((wrap64 (t190 + t192)) == (wrap64 (t188 + t189))) = true := beq_iff_eq.mpr c17
              have c17b1 : ((wrap64 (t190 + t192)) != (wrap64 (t188 + t189))) = false := bne_eq_false_iff_eq.mpr c17
              clear c17
              (first | rw [c17b0] | (simp only [i64_w, i32_w]; rw [c17b0]) | skip)
              have H' := Aside0.mk H
              clear H
              go_wp2
              go_meet
              case rel => exact ⟨_, ((t194 != (wrap64 (t192 - t190)))), (by first | rfl | (simp; done) | (simp [*]; done)), H', ⟨by have := HJ7.out; first | omega | exact Nat.le_refl _⟩, ⟨by repeat (first | (with_reducible first | exact HB.out | apply below_alloc | apply pw_below_drewN | apply below_drew1) | exact HB.out)⟩⟩
            · rw [if_neg c17] at H
              have c17b0 : ((wrap64 (t190 + t192)) == (wrap64 (t188 + t189))) = false := beq_eq_false_iff_ne.mpr c17
              have c17b1 : ((wrap64 (t190 + t192)) != (wrap64 (t188 + t189))) = true := bne_iff_ne.mpr c17
              (first | rw [c17b0] | (simp only [i64_w, i32_w]; rw [c17b0]) | skip)
              have H' := Aside0.mk H
              clear H
              go_wp2
              go_meet
              case rel => exact ⟨_, (true), (by first | rfl | (simp; done) | (simp [*]; done)), H', ⟨by have := HJ7.out; first | omega | exact Nat.le_refl _⟩, ⟨by repeat (first | (with_reducible first | exact HB.out | apply below_alloc | apply pw_below_drewN | apply below_drew1) | exact HB.out)⟩⟩
          case rest =>
            clear HC16
            try clear c1
            try clear c2
            try clear c2b0
            try clear c2b1
            try clear p2
            try clear p6
            try clear c10
            try clear c10b0
            try clear c10b1
            try clear c12
            try clear c14
            try clear c15
            try clear c15b0
            try clear c15b1
            try clear c17
            try clear c17b0
            try clear c17b1
            try clear p2
            obtain ⟨kq, x85_15, rfl, HA, HJ15, HB⟩ := hcut
            cases kq with
            | zero => exact absurd HA.out (by simp [laws_FnNumBits.j1])
            | succ kj15 =>
              have H := HA.out
              clear HA
              simp only [laws_FnNumBits.j1] at H
              by_cases c18 : x85_15 = true
              · subst c18
                have H1 : (some false) = some r := by rw [if_pos rfl] at H; exact H
                clear H
                have H := H1
                clear H1
                obtain rfl := Option.some.inj H
                go_wp2
                go_ret
                exact ⟨by first | rfl | (simp [errW_none, errW_some] <;> rfl) | (simp [*, errW_none, errW_some] <;> rfl), by repeat (first | (with_reducible first | exact HB.out | apply below_alloc | apply pw_below_drewN | apply below_drew1) | exact HB.out)⟩
              · replace c18 := Bool.eq_false_iff.mpr c18
                subst c18
                have H1 : (laws_FnNumBits.l0 kj15 t188 t189 0) = some r := by rw [if_neg (show ¬ (false = true) by decide)] at H; exact H
                clear H
                have H := H1
                clear H1
                have H' := Aside0.mk H
                clear H
                go_wp2
                go_loopg [14] kj15 (fun kq v14 w' => ∃ (x14_3 : Int), v14 = .int .i64 x14_3 ∧ Aside0 (laws_FnNumBits.l0 kq t188 t189 x14_3 = some r) ∧ Aside0 (kq ≤ kj15) ∧ Aside0 (Below w.heap.size w w'))
                case atStart => exact ⟨(0), (by first | rfl | (simp; done) | (simp [*]; done)), H', ⟨Nat.le_refl _⟩, ⟨by repeat (first | (with_reducible first | exact HB.out | apply below_alloc | apply pw_below_drewN | apply below_drew1) | exact HB.out)⟩⟩
                case round =>
                  clear H'
                  try clear c1
                  try clear c2
                  try clear c2b0
                  try clear c2b1
                  try clear p2
                  try clear p6
                  try clear c10
                  try clear c10b0
                  try clear c10b1
                  try clear c12
                  try clear c14
                  try clear c15
                  try clear c15b0
                  try clear c15b1
                  try clear c17
                  try clear c17b0
                  try clear c17b1
                  try clear c18
                  try clear p2
                  try clear p6
                  obtain ⟨x14_3, rfl, HA, HK3, HB⟩ := hrel
                  cases gk with
                  | zero => exact absurd HA.out (by simp [laws_FnNumBits.l0])
                  | succ k3 =>
                    have H := HA.out
                    clear HA
                    simp only [laws_FnNumBits.l0] at H
                    by_cases c19 : x14_3 < 3
                    · rw [if_pos c19] at H
                      have c19b0 : decide (x14_3 < 3) = true := decide_eq_true c19
                      clear c19
                      replace H := Option.bind_eq_some_iff.mp H
                      obtain ⟨⟨t200, t201⟩, A200, H⟩ := H
                      replace H : ((impl_NumDo.f k3 (wrap64 (11 + x14_3)) t188 t189).bind fun bt202 => (if bt202.2 = 0 then (if t201 = 0 then (if t200 = bt202.1 then (laws_FnNumBits.l0 k3 t188 t189 (wrap64 (x14_3 + 1))) else (some false)) else (laws_FnNumBits.l0 k3 t188 t189 (wrap64 (x14_3 + 1)))) else (some false))) = some r := H
                      have A20 := Aside0.mk A200
                      clear A200
                      replace H := Option.bind_eq_some_iff.mp H
                      obtain ⟨⟨t202, t203⟩, A210, H⟩ := H
                      replace H : (if t203 = 0 then (if t201 = 0 then (if t200 = t202 then (laws_FnNumBits.l0 k3 t188 t189 (wrap64 (x14_3 + 1))) else (some false)) else (laws_FnNumBits.l0 k3 t188 t189 (wrap64 (x14_3 + 1)))) else (some false)) = some r := H
                      have A21 := Aside0.mk A210
                      clear A210
                      by_cases c22 : t203 = 0
                      · rw [if_pos c22] at H
                        have c22b0 : (t203 == 0) = true := beq_iff_eq.mpr c22
                        have c22b1 : (t203 != 0) = false := bne_eq_false_iff_eq.mpr c22
                        clear c22
                        by_cases c23 : t201 = 0
                        · rw [if_pos c23] at H
                          have c23b0 : (t201 == 0) = true := beq_iff_eq.mpr c23
                          have c23b1 : (t201 != 0) = false := bne_eq_false_iff_eq.mpr c23
                          clear c23
                          by_cases c24 : t200 = t202
                          · rw [if_pos c24] at H
                            have c24b0 : (t200 == t202) = true := beq_iff_eq.mpr c24
                            have c24b1 : (t200 != t202) = false := bne_eq_false_iff_eq.mpr c24
                            clear c24
                            have H' := Aside0.mk H
                            clear H
                            go_wp2_with (first | ((with_reducible refine gate_callee (f := 27) rfl ?_); refine goesL_ (some 95) rfl rfl Try.func27 (by kernel_rfl) rfl #[.int .i64 (wrap64 (1 + x14_3)), .int .i64 t188, .int .i64 t189] rfl (by (try simp only [List.map_toArray, List.map_cons, List.map_nil]); first | done | rfl | (simp only [List.length_drop, List.length_take]; rfl)) ?_; (with_reducible refine (impl_NumDo.calls k3 (wrap64 (1 + x14_3)) t188 t189 t200 t201 _ A20.out).mono ?_); rintro e w' ⟨rfl, ⟨nd, rfl⟩⟩; refine ⟨_, rfl, ?_⟩) | ((with_reducible refine gate_callee (f := 27) rfl ?_); refine goesL_ (some 103) rfl rfl Try.func27 (by kernel_rfl) rfl #[.int .i64 (wrap64 (11 + x14_3)), .int .i64 t188, .int .i64 t189] rfl (by (try simp only [List.map_toArray, List.map_cons, List.map_nil]); first | done | rfl | (simp only [List.length_drop, List.length_take]; rfl)) ?_; (with_reducible refine (impl_NumDo.calls k3 (wrap64 (11 + x14_3)) t188 t189 t202 t203 _ A21.out).mono ?_); rintro e w' ⟨rfl, ⟨nd, rfl⟩⟩; refine ⟨_, rfl, ?_⟩))
                            go_roundg k3
                            case measure => have := HJ7.out; have := HJ15.out; have := HK3.out; omega
                            case rel => exact ⟨(wrap64 (x14_3 + 1)), (by first | rfl | (simp; done) | (simp [*]; done)), H', ⟨by have := HJ7.out; have := HJ15.out; have := HK3.out; omega⟩, ⟨by repeat (first | (with_reducible first | exact HB.out | apply below_alloc | apply pw_below_drewN | apply below_drew1) | exact HB.out)⟩⟩
                          · rw [if_neg c24] at H
                            have c24b0 : (t200 == t202) = false := beq_eq_false_iff_ne.mpr c24
                            have c24b1 : (t200 != t202) = true := bne_iff_ne.mpr c24
                            obtain rfl := Option.some.inj H
                            go_wp2_with (first | ((with_reducible refine gate_callee (f := 27) rfl ?_); refine goesL_ (some 95) rfl rfl Try.func27 (by kernel_rfl) rfl #[.int .i64 (wrap64 (1 + x14_3)), .int .i64 t188, .int .i64 t189] rfl (by (try simp only [List.map_toArray, List.map_cons, List.map_nil]); first | done | rfl | (simp only [List.length_drop, List.length_take]; rfl)) ?_; (with_reducible refine (impl_NumDo.calls k3 (wrap64 (1 + x14_3)) t188 t189 t200 t201 _ A20.out).mono ?_); rintro e w' ⟨rfl, ⟨nd, rfl⟩⟩; refine ⟨_, rfl, ?_⟩) | ((with_reducible refine gate_callee (f := 27) rfl ?_); refine goesL_ (some 103) rfl rfl Try.func27 (by kernel_rfl) rfl #[.int .i64 (wrap64 (11 + x14_3)), .int .i64 t188, .int .i64 t189] rfl (by (try simp only [List.map_toArray, List.map_cons, List.map_nil]); first | done | rfl | (simp only [List.length_drop, List.length_take]; rfl)) ?_; (with_reducible refine (impl_NumDo.calls k3 (wrap64 (11 + x14_3)) t188 t189 t202 t203 _ A21.out).mono ?_); rintro e w' ⟨rfl, ⟨nd, rfl⟩⟩; refine ⟨_, rfl, ?_⟩))
                            go_ret
                            exact ⟨by first | rfl | (simp [errW_none, errW_some] <;> rfl) | (simp [*, errW_none, errW_some] <;> rfl), by repeat (first | (with_reducible first | exact HB.out | apply below_alloc | apply pw_below_drewN | apply below_drew1) | exact HB.out)⟩
                        · rw [if_neg c23] at H
                          have c23b0 : (t201 == 0) = false := beq_eq_false_iff_ne.mpr c23
                          have c23b1 : (t201 != 0) = true := bne_iff_ne.mpr c23
                          have H' := Aside0.mk H
                          clear H
                          go_wp2_with (first | ((with_reducible refine gate_callee (f := 27) rfl ?_); refine goesL_ (some 95) rfl rfl Try.func27 (by kernel_rfl) rfl #[.int .i64 (wrap64 (1 + x14_3)), .int .i64 t188, .int .i64 t189] rfl (by (try simp only [List.map_toArray, List.map_cons, List.map_nil]); first | done | rfl | (simp only [List.length_drop, List.length_take]; rfl)) ?_; (with_reducible refine (impl_NumDo.calls k3 (wrap64 (1 + x14_3)) t188 t189 t200 t201 _ A20.out).mono ?_); rintro e w' ⟨rfl, ⟨nd, rfl⟩⟩; refine ⟨_, rfl, ?_⟩) | ((with_reducible refine gate_callee (f := 27) rfl ?_); refine goesL_ (some 103) rfl rfl Try.func27 (by kernel_rfl) rfl #[.int .i64 (wrap64 (11 + x14_3)), .int .i64 t188, .int .i64 t189] rfl (by (try simp only [List.map_toArray, List.map_cons, List.map_nil]); first | done | rfl | (simp only [List.length_drop, List.length_take]; rfl)) ?_; (with_reducible refine (impl_NumDo.calls k3 (wrap64 (11 + x14_3)) t188 t189 t202 t203 _ A21.out).mono ?_); rintro e w' ⟨rfl, ⟨nd, rfl⟩⟩; refine ⟨_, rfl, ?_⟩))
                          go_roundg k3
                          case measure => have := HJ7.out; have := HJ15.out; have := HK3.out; omega
                          case rel => exact ⟨(wrap64 (x14_3 + 1)), (by first | rfl | (simp; done) | (simp [*]; done)), H', ⟨by have := HJ7.out; have := HJ15.out; have := HK3.out; omega⟩, ⟨by repeat (first | (with_reducible first | exact HB.out | apply below_alloc | apply pw_below_drewN | apply below_drew1) | exact HB.out)⟩⟩
                      · rw [if_neg c22] at H
                        have c22b0 : (t203 == 0) = false := beq_eq_false_iff_ne.mpr c22
                        have c22b1 : (t203 != 0) = true := bne_iff_ne.mpr c22
                        obtain rfl := Option.some.inj H
                        go_wp2_with (first | ((with_reducible refine gate_callee (f := 27) rfl ?_); refine goesL_ (some 95) rfl rfl Try.func27 (by kernel_rfl) rfl #[.int .i64 (wrap64 (1 + x14_3)), .int .i64 t188, .int .i64 t189] rfl (by (try simp only [List.map_toArray, List.map_cons, List.map_nil]); first | done | rfl | (simp only [List.length_drop, List.length_take]; rfl)) ?_; (with_reducible refine (impl_NumDo.calls k3 (wrap64 (1 + x14_3)) t188 t189 t200 t201 _ A20.out).mono ?_); rintro e w' ⟨rfl, ⟨nd, rfl⟩⟩; refine ⟨_, rfl, ?_⟩) | ((with_reducible refine gate_callee (f := 27) rfl ?_); refine goesL_ (some 103) rfl rfl Try.func27 (by kernel_rfl) rfl #[.int .i64 (wrap64 (11 + x14_3)), .int .i64 t188, .int .i64 t189] rfl (by (try simp only [List.map_toArray, List.map_cons, List.map_nil]); first | done | rfl | (simp only [List.length_drop, List.length_take]; rfl)) ?_; (with_reducible refine (impl_NumDo.calls k3 (wrap64 (11 + x14_3)) t188 t189 t202 t203 _ A21.out).mono ?_); rintro e w' ⟨rfl, ⟨nd, rfl⟩⟩; refine ⟨_, rfl, ?_⟩))
                        go_ret
                        exact ⟨by first | rfl | (simp [errW_none, errW_some] <;> rfl) | (simp [*, errW_none, errW_some] <;> rfl), by repeat (first | (with_reducible first | exact HB.out | apply below_alloc | apply pw_below_drewN | apply below_drew1) | exact HB.out)⟩
                    · rw [if_neg c19] at H
                      have c19b0 : decide (x14_3 < 3) = false := decide_eq_false c19
                      clear c19
                      obtain rfl := Option.some.inj H
                      go_wp2
                      go_ret
                      exact ⟨by first | rfl | (simp [errW_none, errW_some] <;> rfl) | (simp [*, errW_none, errW_some] <;> rfl), by repeat (first | (with_reducible first | exact HB.out | apply below_alloc | apply pw_below_drewN | apply below_drew1) | exact HB.out)⟩

/-- THE ONE PURE STATEMENT of laws_FnNumBits: yours. -/
def laws_FnNumBits.Pure : Prop := ∀ (l0 : List Int), l0.length ≤ maxLen → l0.length * 1 ≤ 140737488351232 → (∀ x ∈ l0, (Lit.int .u8 x).wf = true) → ∃ k, laws_FnNumBits.f k l0 = some true
theorem laws_FnNumBits.walk (P : laws_FnNumBits.Pure) (a0 : Option Addr) (len0 cap0 : Nat) (z0 : List Int) (w : World) (w0 : (a0 = none ∧ len0 = 0 ∧ cap0 = 0 ∧ z0 = []) ∨ ∃ x, a0 = some x ∧ len0 ≤ cap0 ∧ cap0 ≤ maxLen ∧ z0.length = cap0 ∧ (∀ i, i < z0.length → w.cell? (x.add i) = some (.int .u8 (z0.getD i 0))) ∧ ∀ n ∈ z0, (Lit.int .u8 n).wf = true) (y0 : len0 * 1 ≤ 140737488351232) :
    Calls Try.prog 10 #[.slice a0 len0 cap0] w fun e w' => e = .returned (.bool true) ∧ Below w.heap.size w w' := by
  obtain ⟨l0, rfl, hr0, hm0, hw0, hc0⟩ := ReadsInt.ofRowC w0
  obtain ⟨k, h⟩ := P l0 hm0 y0 hw0
  refine (laws_FnNumBits.calls k _ _ l0 true w (Kd.C_of_reads (d := (0 : Int)) (h1 := fun _ => rfl) hr0) hc0 h).mono ?_
  rintro e w' ⟨rfl, hd⟩
  exact ⟨rfl, hd⟩

end Go.Proofs.Ytjkmefkgagfcaaa.PFnNumBits
