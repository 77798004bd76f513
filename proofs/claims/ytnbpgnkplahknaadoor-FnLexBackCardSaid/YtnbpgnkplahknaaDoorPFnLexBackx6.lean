/- Written by this session's own driver (wip/dprint.py): the functions that the law FnLexBack reaches, as Lean functions, each with its contract. -/
import Derived.Test.YtnbpgnkplahknaaDoorPFnLexBackx0
import Derived.Test.YtnbpgnkplahknaaDoorPFnLexBackx4
import Derived.Test.YtnbpgnkplahknaaDoorPFnLexBackx5
import Derived.Test.YtnbpgnkplahknaaDoorSq
namespace Go.Proofs.YtnbpgnkplahknaaDoor.PFnLexBack
open Go.RowKit Go.Proofs.YtnbpgnkplahknaaDoorW.PrintWords Go.Proofs.YtnbpgnkplahknaaDoorW.PrintLast Go.Proofs.YtnbpgnkplahknaaDoorW.PrintMore Go.Proofs.YtnbpgnkplahknaaDoorSq
attribute [local go_sem] max2_int min2_int max_two min_two max_three min_three max_four min_four   -- for this text's walks alone
set_option linter.unusedVariables false
set_option linter.unusedSimpArgs false

/-! ### impl_lexToken: function 27 -/
attribute [local go_sem] Go.Proofs.YtnbpgnkplahknaaDoorSet.isSome_setCell
mutual
def impl_lexToken.j1 : Nat → ByteArray → Int → Int → Option (Int × Int × ByteArray × Int × Int)
 | 0, _, _, _ => none
 | k + 1, x0, x1, x6 => if (wrap64 (x6 - x1)) > 8 then (some (0, 0, (⟨#[]⟩ : ByteArray), 0, 3)) else (if 0 ≤ x1 then (if x1 ≤ x6 then (if x6 ≤ (x0.size : Int) then ((impl_WordOk.f (x0.extract (x1 : Int).toNat (x6 : Int).toNat)).bind fun t148 => (if t148 = true then (impl_lexToken.j2 k x0 x1 x6 3) else (impl_lexToken.j2 k x0 x1 x6 1))) else (none)) else (none)) else (none))
def impl_lexToken.j2 : Nat → ByteArray → Int → Int → Int → Option (Int × Int × ByteArray × Int × Int)
 | 0, _, _, _, _ => none
 | k + 1, x0, x1, x6, x7 => if 0 ≤ x1 then (if x1 ≤ x6 then (if x6 ≤ (x0.size : Int) then ((strings_Clone.f (x0.extract (x1 : Int).toNat (x6 : Int).toNat)).bind fun t149 => (some (x7, x1, t149, 0, 0))) else (none)) else (none)) else (none)
def impl_lexToken.l0 : Nat → ByteArray → Int → Int → Option (Int × Int × ByteArray × Int × Int)
 | 0, _, _, _ => none
 | k + 1, x0, x1, x6 => if x6 < (x0.size : Int) then (if 0 ≤ x6 then ((impl_lexLetter.f (bt x0 x6)).bind fun t146 => (if t146 = true then (impl_lexToken.l0 k x0 x1 (wrap64 (x6 + 1))) else ((impl_lexDigit.f (bt x0 x6)).bind fun t147 => (if t147 = true then (impl_lexToken.l0 k x0 x1 (wrap64 (x6 + 1))) else (impl_lexToken.j1 k x0 x1 x6))))) else (none)) else (impl_lexToken.j1 k x0 x1 x6)
def impl_lexToken.j4 : Nat → ByteArray → Int → Int → Option (Int × Int × ByteArray × Int × Int)
 | 0, _, _, _ => none
 | k + 1, x0, x1, x6 => if 0 ≤ x1 then (if x1 ≤ x6 then (if x6 ≤ (x0.size : Int) then ((impl_lexNumber.f k (x0.extract (x1 : Int).toNat (x6 : Int).toNat)).bind fun bt152 => (if bt152.2 = true then ((strings_Clone.f (x0.extract (x1 : Int).toNat (x6 : Int).toNat)).bind fun t154 => (some (2, x1, t154, bt152.1, 0))) else (some (0, 0, (⟨#[]⟩ : ByteArray), 0, 4)))) else (none)) else (none)) else (none)
def impl_lexToken.l1 : Nat → ByteArray → Int → Int → Option (Int × Int × ByteArray × Int × Int)
 | 0, _, _, _ => none
 | k + 1, x0, x1, x6 => if x6 < (x0.size : Int) then (if 0 ≤ x6 then ((impl_lexDigit.f (bt x0 x6)).bind fun t151 => (if t151 = true then (impl_lexToken.l1 k x0 x1 (wrap64 (x6 + 1))) else (impl_lexToken.j4 k x0 x1 x6))) else (none)) else (impl_lexToken.j4 k x0 x1 x6)
end
def impl_lexToken.f (k : Nat) (a0 : ByteArray) (a1 : Int) : Option (Int × Int × ByteArray × Int × Int) := if 0 ≤ a1 then (if a1 < (a0.size : Int) then ((impl_lexLetter.f (bt a0 a1)).bind fun t145 => (if t145 = true then (impl_lexToken.l0 k a0 a1 a1) else ((impl_lexDigit.f (bt a0 a1)).bind fun t150 => (if t150 = true then (impl_lexToken.l1 k a0 a1 a1) else ((impl_SignAt.f a0 a1).bind fun t155 => (if t155.toList = ([] : List UInt8) then (some (0, 0, (⟨#[]⟩ : ByteArray), 0, 2)) else (some (4, a1, t155, 0, 0)))))))) else (none)) else (none)
theorem impl_lexToken.mono_l : ∀ k, (∀ y0 y1 y2, LeO (impl_lexToken.j1 k y0 y1 y2) (impl_lexToken.j1 (k + 1) y0 y1 y2)) ∧ (∀ y0 y1 y2 y3, LeO (impl_lexToken.j2 k y0 y1 y2 y3) (impl_lexToken.j2 (k + 1) y0 y1 y2 y3)) ∧ (∀ y0 y1 y2, LeO (impl_lexToken.l0 k y0 y1 y2) (impl_lexToken.l0 (k + 1) y0 y1 y2)) ∧ (∀ y0 y1 y2, LeO (impl_lexToken.j4 k y0 y1 y2) (impl_lexToken.j4 (k + 1) y0 y1 y2)) ∧ (∀ y0 y1 y2, LeO (impl_lexToken.l1 k y0 y1 y2) (impl_lexToken.l1 (k + 1) y0 y1 y2))
 | 0 => ⟨fun _ _ _ r h => by simp [impl_lexToken.j1] at h, fun _ _ _ _ r h => by simp [impl_lexToken.j2] at h, fun _ _ _ r h => by simp [impl_lexToken.l0] at h, fun _ _ _ r h => by simp [impl_lexToken.j4] at h, fun _ _ _ r h => by simp [impl_lexToken.l1] at h⟩
 | k + 1 => by
  obtain ⟨ih0, ih1, ih2, ih3, ih4⟩ := impl_lexToken.mono_l k
  refine ⟨?_, ?_, ?_, ?_, ?_⟩ <;> (intros; (first | unfold impl_lexToken.j1 | unfold impl_lexToken.j2 | unfold impl_lexToken.l0 | unfold impl_lexToken.j4 | unfold impl_lexToken.l1); repeat' first | (with_reducible first | apply ih0 | apply ih1 | apply ih2 | apply ih3 | apply ih4 | apply impl_lexNumber.mono | apply LeO.refl | apply LeO.none | refine LeO.ite ?_ ?_ | refine LeO.bind ?_ (fun _ => ?_)) | apply ih0 | apply ih1 | apply ih2 | apply ih3 | apply ih4 | apply impl_lexNumber.mono | apply LeO.none | refine LeO.ite ?_ ?_ | refine LeO.bind ?_ (fun _ => ?_))
theorem impl_lexToken.mono : ∀ a0 a1 k, LeO (impl_lexToken.f k a0 a1) (impl_lexToken.f (k + 1) a0 a1) := by
 intro a0 a1 k
 obtain ⟨ih0, ih1, ih2, ih3, ih4⟩ := impl_lexToken.mono_l k
 unfold impl_lexToken.f
 repeat' first | (with_reducible first | apply ih0 | apply ih1 | apply ih2 | apply ih3 | apply ih4 | apply impl_lexNumber.mono | apply LeO.refl | apply LeO.none | refine LeO.ite ?_ ?_ | refine LeO.bind ?_ (fun _ => ?_)) | apply ih0 | apply ih1 | apply ih2 | apply ih3 | apply ih4 | apply impl_lexNumber.mono | apply LeO.none | refine LeO.ite ?_ ?_ | refine LeO.bind ?_ (fun _ => ?_)
set_option maxHeartbeats 8000000 in
set_option maxRecDepth 100000 in
theorem impl_lexToken.calls (k : Nat) (a0 : ByteArray) (a1 : Int) (r1 : Int) (r2 : Int) (r3 : ByteArray) (r4 : Int) (r5 : Int) (w : World) (h : impl_lexToken.f k a0 a1 = some (r1, r2, r3, r4, r5)) (hT : PFnExactSignAt.Tab w := by first | exact HTb.out | exact hT | exact hT_ | exact PFnExactSignAt.Tab.below HTb.out (by assumption) | exact PFnExactSignAt.Tab.below HTb.out (by repeat (first | (with_reducible first | exact HB.out | apply below_alloc | apply pw_below_drewN | apply below_drew1 | apply below_drew) | exact HB.out | refine below_set ?_ (Aside0.out (by assumption))))) :
  Calls Tryd.prog 27 #[.string a0, .int .i64 a1] w fun e w' => e = .returned (.tuple #[.agg #[.int .i64 r1, .int .i64 r2, .string r3, .int .i64 r4], .int .i64 r5]) ∧ Below w.heap.size w w' := by
 have HTb := am hT
 clear hT
 have hu42 := Tryd.underlying42
 have HB := am (Below.refl w.heap.size w)
 have H : (if 0 ≤ a1 then (if a1 < (a0.size : Int) then ((impl_lexLetter.f (bt a0 a1)).bind fun t145 => (if t145 = true then (impl_lexToken.l0 k a0 a1 a1) else ((impl_lexDigit.f (bt a0 a1)).bind fun t150 => (if t150 = true then (impl_lexToken.l1 k a0 a1 a1) else ((impl_SignAt.f a0 a1).bind fun t155 => (if t155.toList = ([] : List UInt8) then (some (0, 0, (⟨#[]⟩ : ByteArray), 0, 2)) else (some (4, a1, t155, 0, 0)))))))) else (none)) else (none)) = some (r1, r2, r3, r4, r5) := h
 clear h
 by_cases c3 : 0 ≤ a1
 rotate_left
 ·rw [if_neg c3] at H
  exact absurd H (by simp)
 rw [if_pos c3] at H
 have c3b0 := dT c3
 clear c3
 by_cases c4 : a1 < (a0.size : Int)
 rotate_left
 ·rw [if_neg c4] at H
  exact absurd H (by simp)
 rw [if_pos c4] at H
 have c4b0 := dT c4
 clear c4
 replace H := Option.bind_eq_some_iff.mp H
 obtain ⟨t145, A60, H⟩ := H
 try dsimp only at H
 have A6 := am A60
 clear A60
 by_cases c7 : t145 = true
 ·subst c7
  rw [if_pos rfl] at H
  have HC8 := am H
  clear H
  go_enter Tryd.func27, Tryd.ntmps27
  go_upto_block 1 with (first | ((with_reducible refine gate_dst (N := 4) rfl ?_); refine bx 4 #[.int .i64 0, .int .i64 0, .string (⟨#[]⟩ : ByteArray), .int .i64 0] 42 ?_; intro gb144 hg w9 hbox hb; have BK144 := am (hbox); have GW144 := am (bs hg (YA HB)); have GE144 := GW144; replace HB := am (below_step (YA HB) hb); clear hb hbox hg; have p5 : 0 ≤ (a1 : Int) := oz; have q5 : a1 < (a0.size : Int) := oz; have hx5 := bt_at a0 a1; replace p5 := eq_true p5; replace q5 := eq_true q5) | ((with_reducible refine gate_callee (f := 44) rfl ?_); refine goesL_ (some 16) rfl rfl Tryd.func44 (by kernel_rfl) rfl #[.int .u8 (bt a0 a1)] rfl mz ?_; (with_reducible refine (impl_lexLetter.calls (bt a0 a1) true _ A6.out).mono ?_); rintro e w' ⟨rfl, ⟨nd, rfl⟩⟩; refine ⟨_, rfl, ?_⟩))
  (try simp only [Act.put, List.setIfInBounds_toArray, List.set_cons_zero, List.set_cons_succ])
  go_cut [6] (fun v6 wc => ∃ (kq : Nat) (x6_7 : Int), v6 = .int .i64 x6_7 ∧ Aside0 (impl_lexToken.j1 kq a0 a1 x6_7 = some (r1, r2, r3, r4, r5)) ∧ Aside0 (kq ≤ k) ∧ Aside0 (wc.heap[gb144]? = some (.cells #[.int .i64 0, .int .i64 0, .string (⟨#[]⟩ : ByteArray), .int .i64 0] 42 (0, 0))) ∧ Aside0 (Below w.heap.size w wc))
  case first =>
   have H := HC8.out
   clear HC8
   have H' := am H
   clear H
   go_wp2
   go_loopg [6] k (fun kq v6 w' => ∃ (x6_1 : Int), v6 = .int .i64 x6_1 ∧ Aside0 (impl_lexToken.l0 kq a0 a1 x6_1 = some (r1, r2, r3, r4, r5)) ∧ Aside0 (kq ≤ k) ∧ Aside0 (w'.heap[gb144]? = some (.cells #[.int .i64 0, .int .i64 0, .string (⟨#[]⟩ : ByteArray), .int .i64 0] 42 (0, 0))) ∧ Aside0 (Below w.heap.size w w'))
   case atStart => exact ⟨(a1), ey, H', ⟨Nat.le_refl _⟩, ⟨Z BK144⟩, ⟨YA HB⟩⟩
   case round =>
    clear H'
    (try clear c3b0);(try clear c4b0);(try clear p5);(try clear q5);(try clear hx5);(try clear c7)
    obtain ⟨x6_1, rfl, HA, HK1, BK144, HB⟩ := hrel
    cases gk with
    | zero => exact absurd HA.out (by simp [impl_lexToken.l0])
    | succ k1 =>
     have H := HA.out
     clear HA
     simp only [impl_lexToken.l0] at H
     by_cases c10 : x6_1 < (a0.size : Int)
     rotate_left
     ·rw [if_neg c10] at H
      have c10b0 := dF c10
      clear c10
      (first | rw [c10b0] | (simp only [i64_w, i32_w]; rw [c10b0]) | skip)
      have H' := am H
      clear H
      go_wp2
      go_meet
      case rel => exact ⟨_, (x6_1), ey, H', ⟨by have := HK1.out; first | omega | exact Nat.le_refl _⟩, ⟨Z BK144⟩, ⟨YA HB⟩⟩
     rw [if_pos c10] at H
     have c10b0 := dT c10
     clear c10
     (first | rw [c10b0] | (simp only [i64_w, i32_w]; rw [c10b0]) | skip)
     by_cases c11 : 0 ≤ x6_1
     rotate_left
     ·rw [if_neg c11] at H
      exact absurd H (by simp)
     rw [if_pos c11] at H
     have c11b0 := dT c11
     clear c11
     replace H := Option.bind_eq_some_iff.mp H
     obtain ⟨t146, A130, H⟩ := H
     try dsimp only at H
     have A13 := am A130
     clear A130
     by_cases c14 : t146 = true
     ·subst c14
      rw [if_pos rfl] at H
      have H' := am H
      clear H
      have p12 : 0 ≤ (x6_1 : Int) := oz
      have q12 : x6_1 < (a0.size : Int) := oz
      have hx12 := bt_at a0 x6_1
      replace p12 := eq_true p12
      replace q12 := eq_true q12
      go_wp2_with (first | (go_at_call 44; (with_reducible refine (impl_lexLetter.calls (bt a0 x6_1) true _ A13.out).mono ?_); rintro e w' ⟨rfl, ⟨nd, rfl⟩⟩))
      go_roundg k1
      case measure => have := HK1.out; omega
      case rel => exact ⟨(wrap64 (x6_1 + 1)), ey, H', ⟨by have := HK1.out; omega⟩, ⟨Z BK144⟩, ⟨YA HB⟩⟩
     replace c14 := Bool.eq_false_iff.mpr c14
     subst c14
     rw [if_neg (show ¬ (false = true) by decide)] at H
     replace H := Option.bind_eq_some_iff.mp H
     obtain ⟨t147, A160, H⟩ := H
     try dsimp only at H
     have A16 := am A160
     clear A160
     by_cases c17 : t147 = true
     ·subst c17
      rw [if_pos rfl] at H
      have H' := am H
      clear H
      have p12 : 0 ≤ (x6_1 : Int) := oz
      have q12 : x6_1 < (a0.size : Int) := oz
      have hx12 := bt_at a0 x6_1
      replace p12 := eq_true p12
      replace q12 := eq_true q12
      go_wp2_with (first | (go_at_call 44; (with_reducible refine (impl_lexLetter.calls (bt a0 x6_1) false _ A13.out).mono ?_); rintro e w' ⟨rfl, ⟨nd, rfl⟩⟩; have p15 : 0 ≤ (x6_1 : Int) := oz; have q15 : x6_1 < (a0.size : Int) := oz; have hx15 := bt_at a0 x6_1; replace p15 := eq_true p15; replace q15 := eq_true q15) | (go_at_call 45; (with_reducible refine (impl_lexDigit.calls (bt a0 x6_1) true _ A16.out).mono ?_); rintro e w' ⟨rfl, ⟨nd, rfl⟩⟩))
      go_roundg k1
      case measure => have := HK1.out; omega
      case rel => exact ⟨(wrap64 (x6_1 + 1)), ey, H', ⟨by have := HK1.out; omega⟩, ⟨Z BK144⟩, ⟨YA HB⟩⟩
     replace c17 := Bool.eq_false_iff.mpr c17
     subst c17
     rw [if_neg (show ¬ (false = true) by decide)] at H
     have H' := am H
     clear H
     have p12 : 0 ≤ (x6_1 : Int) := oz
     have q12 : x6_1 < (a0.size : Int) := oz
     have hx12 := bt_at a0 x6_1
     replace p12 := eq_true p12
     replace q12 := eq_true q12
     go_wp2_with (first | (go_at_call 44; (with_reducible refine (impl_lexLetter.calls (bt a0 x6_1) false _ A13.out).mono ?_); rintro e w' ⟨rfl, ⟨nd, rfl⟩⟩; have p15 : 0 ≤ (x6_1 : Int) := oz; have q15 : x6_1 < (a0.size : Int) := oz; have hx15 := bt_at a0 x6_1; replace p15 := eq_true p15; replace q15 := eq_true q15) | (go_at_call 45; (with_reducible refine (impl_lexDigit.calls (bt a0 x6_1) false _ A16.out).mono ?_); rintro e w' ⟨rfl, ⟨nd, rfl⟩⟩))
     go_meet
     case rel => exact ⟨_, (x6_1), ey, H', ⟨by have := HK1.out; first | omega | exact Nat.le_refl _⟩, ⟨Z BK144⟩, ⟨YA HB⟩⟩
  case rest =>
   clear HC8
   (try clear c3b0);(try clear c4b0);(try clear p5);(try clear q5);(try clear hx5);(try clear c7)
   obtain ⟨kq, x6_7, rfl, HA, HJ7, BK144, HB⟩ := hcut
   cases kq with
   | zero => exact absurd HA.out (by simp [impl_lexToken.j1])
   | succ kj7 =>
    have H := HA.out
    clear HA
    simp only [impl_lexToken.j1] at H
    by_cases c18 : (wrap64 (x6_7 - a1)) > 8
    ·rw [if_pos c18] at H
     have c18b0 := dT c18
     clear c18
     simp only [Option.some.injEq, Prod.mk.injEq] at H
     obtain ⟨rfl, rfl, rfl, rfl, rfl⟩ := H
     obtain ⟨hcz19_0,hcz19_1,hcz19_2,hcz19_3,hfz19_0,hfz19_1,hfz19_2,hfz19_3⟩ := cB4 BK144
     go_wp2
     refine bodyPost_ret (results_ct rfl _ _ gb144 42 #[.int .i64 0, .int .i64 0, .string (⟨#[]⟩ : ByteArray), .int .i64 0] (0, 0) _ rfl (by refine pf ?_; refine blk_put (cs := #[.int .i64 0, .int .i64 0, .string (⟨#[]⟩ : ByteArray), .int .i64 0]) ?_ 3 _ rfl; refine pf ?_; refine blk_put (cs := #[.int .i64 0, .int .i64 0, .string (⟨#[]⟩ : ByteArray), .int .i64 0]) ?_ 2 _ rfl; refine pf ?_; refine blk_put (cs := #[.int .i64 0, .int .i64 0, .string (⟨#[]⟩ : ByteArray), .int .i64 0]) ?_ 1 _ rfl; refine pf ?_; refine blk_put (cs := #[.int .i64 0, .int .i64 0, .string (⟨#[]⟩ : ByteArray), .int .i64 0]) ?_ 0 _ rfl; exact Z BK144) Tryd.underlying42 rfl (by kernel_rfl)) rfl ?_
     exact ⟨ez, YA HB⟩
    rw [if_neg c18] at H
    have c18b0 := dF c18
    clear c18
    by_cases c20 : 0 ≤ a1
    rotate_left
    ·rw [if_neg c20] at H
     exact absurd H (by simp)
    rw [if_pos c20] at H
    have c20b0 := eq_true c20
    have c20b1 := dT c20
    clear c20
    by_cases c21 : a1 ≤ x6_7
    rotate_left
    ·rw [if_neg c21] at H
     exact absurd H (by simp)
    rw [if_pos c21] at H
    have c21b0 := eq_true c21
    have c21b1 := dT c21
    clear c21
    by_cases c22 : x6_7 ≤ (a0.size : Int)
    rotate_left
    ·rw [if_neg c22] at H
     exact absurd H (by simp)
    rw [if_pos c22] at H
    have c22b0 := eq_true c22
    have c22b1 := dT c22
    clear c22
    replace H := Option.bind_eq_some_iff.mp H
    obtain ⟨t148, A230, H⟩ := H
    try dsimp only at H
    have A23 := am A230
    clear A230
    have HC24 := am H
    clear H
    go_upto_if 44 with (first | ((with_reducible refine gate_callee (f := 21) rfl ?_); refine goesL_ (some 44) rfl rfl Tryd.func21 (by kernel_rfl) rfl #[.string (a0.extract (a1 : Int).toNat (x6_7 : Int).toNat)] rfl mz ?_; (with_reducible refine (impl_WordOk.calls (a0.extract (a1 : Int).toNat (x6_7 : Int).toNat) t148 _ A23.out).mono ?_); rintro e w' ⟨rfl, ⟨nd, rfl⟩⟩; refine ⟨_, rfl, ?_⟩))
    (try simp only [Act.put, List.setIfInBounds_toArray, List.set_cons_zero, List.set_cons_succ])
    go_cut [7] (fun v7 wc => ∃ (kq : Nat) (x7_23 : Int), v7 = .int .i64 x7_23 ∧ Aside0 (impl_lexToken.j2 kq a0 a1 x6_7 x7_23 = some (r1, r2, r3, r4, r5)) ∧ Aside0 (kq ≤ kj7) ∧ Aside0 (wc.heap[gb144]? = some (.cells #[.int .i64 0, .int .i64 0, .string (⟨#[]⟩ : ByteArray), .int .i64 0] 42 (0, 0))) ∧ Aside0 (Below w.heap.size w wc))
    case first =>
     have H := HC24.out
     clear HC24
     by_cases c25 : t148 = true
     ·subst c25
      rw [if_pos rfl] at H
      have H' := am H
      clear H
      go_wp2
      go_meet
      case rel => exact ⟨_, (3), ey, H', ⟨by have := HJ7.out; first | omega | exact Nat.le_refl _⟩, ⟨Z BK144⟩, ⟨YA HB⟩⟩
     replace c25 := Bool.eq_false_iff.mpr c25
     subst c25
     rw [if_neg (show ¬ (false = true) by decide)] at H
     have H' := am H
     clear H
     go_wp2
     go_meet
     case rel => exact ⟨_, (1), ey, H', ⟨by have := HJ7.out; first | omega | exact Nat.le_refl _⟩, ⟨Z BK144⟩, ⟨YA HB⟩⟩
    case rest =>
     clear HC24
     (try clear c18b0);(try clear c20b0);(try clear c20b1);(try clear c21b0);(try clear c21b1);(try clear c22b0);(try clear c22b1)
     obtain ⟨kq, x7_23, rfl, HA, HJ23, BK144, HB⟩ := hcut
     cases kq with
     | zero => exact absurd HA.out (by simp [impl_lexToken.j2])
     | succ kj23 =>
      have H := HA.out
      clear HA
      simp only [impl_lexToken.j2] at H
      by_cases c26 : 0 ≤ a1
      rotate_left
      ·rw [if_neg c26] at H
       exact absurd H (by simp)
      rw [if_pos c26] at H
      have c26b0 := eq_true c26
      have c26b1 := dT c26
      clear c26
      by_cases c27 : a1 ≤ x6_7
      rotate_left
      ·rw [if_neg c27] at H
       exact absurd H (by simp)
      rw [if_pos c27] at H
      have c27b0 := eq_true c27
      have c27b1 := dT c27
      clear c27
      by_cases c28 : x6_7 ≤ (a0.size : Int)
      rotate_left
      ·rw [if_neg c28] at H
       exact absurd H (by simp)
      rw [if_pos c28] at H
      have c28b0 := eq_true c28
      have c28b1 := dT c28
      clear c28
      replace H := Option.bind_eq_some_iff.mp H
      obtain ⟨t149, A290, H⟩ := H
      try dsimp only at H
      have A29 := am A290
      clear A290
      simp only [Option.some.injEq, Prod.mk.injEq] at H
      obtain ⟨rfl, rfl, rfl, rfl, rfl⟩ := H
      go_wp2_with (first | ((with_reducible refine gate_callee (f := 46) rfl ?_); refine goesL_ (some 51) rfl rfl Tryd.func46 (by kernel_rfl) rfl #[.string (a0.extract (a1 : Int).toNat (x6_7 : Int).toNat)] rfl mz ?_; (with_reducible refine (strings_Clone.calls (a0.extract (a1 : Int).toNat (x6_7 : Int).toNat) t149 _ A29.out).mono ?_); rintro e w30 ⟨rfl, hb⟩; refine ⟨_, rfl, ?_⟩; replace BK144 := bb BK144 hb; replace HB := am (below_step (YA HB) hb); (try clear hb); obtain ⟨hcz31_0,hcz31_1,hcz31_2,hcz31_3,hfz31_0,hfz31_1,hfz31_2,hfz31_3⟩ := cB4 BK144))
      refine bodyPost_ret (results_ct rfl _ _ gb144 42 #[.int .i64 x7_23, .int .i64 a1, .string t149, .int .i64 0] (0, 0) _ rfl (by refine pf ?_; refine blk_put (cs := #[.int .i64 x7_23, .int .i64 a1, .string t149, .int .i64 0]) ?_ 3 _ rfl; refine pf ?_; refine blk_put (cs := #[.int .i64 x7_23, .int .i64 a1, .string (⟨#[]⟩ : ByteArray), .int .i64 0]) ?_ 2 _ rfl; refine pf ?_; refine blk_put (cs := #[.int .i64 x7_23, .int .i64 0, .string (⟨#[]⟩ : ByteArray), .int .i64 0]) ?_ 1 _ rfl; refine pf ?_; refine blk_put (cs := #[.int .i64 0, .int .i64 0, .string (⟨#[]⟩ : ByteArray), .int .i64 0]) ?_ 0 _ rfl; exact Z BK144) Tryd.underlying42 rfl (by kernel_rfl)) rfl ?_
      exact ⟨ez, YA HB⟩
 replace c7 := Bool.eq_false_iff.mpr c7
 subst c7
 rw [if_neg (show ¬ (false = true) by decide)] at H
 replace H := Option.bind_eq_some_iff.mp H
 obtain ⟨t150, A330, H⟩ := H
 try dsimp only at H
 have A33 := am A330
 clear A330
 by_cases c34 : t150 = true
 rotate_left
 ·replace c34 := Bool.eq_false_iff.mpr c34
  subst c34
  rw [if_neg (show ¬ (false = true) by decide)] at H
  replace H := Option.bind_eq_some_iff.mp H
  obtain ⟨t155, A560, H⟩ := H
  try dsimp only at H
  have A56 := am A560
  clear A560
  by_cases c57 : t155.toList = ([] : List UInt8)
  rotate_left
  ·rw [if_neg c57] at H
   have c57b0 := eF c57
   have c57b1 := nT c57
   simp only [Option.some.injEq, Prod.mk.injEq] at H
   obtain ⟨rfl, rfl, rfl, rfl, rfl⟩ := H
   go_enter Tryd.func27, Tryd.ntmps27
   go_wp2_with (first | ((with_reducible refine gate_dst (N := 4) rfl ?_); refine bx 4 #[.int .i64 0, .int .i64 0, .string (⟨#[]⟩ : ByteArray), .int .i64 0] 42 ?_; intro gb144 hg w60 hbox hb; have BK144 := am (hbox); have GW144 := am (bs hg (YA HB)); have GE144 := GW144; replace HB := am (below_step (YA HB) hb); clear hb hbox hg; have p5 : 0 ≤ (a1 : Int) := oz; have q5 : a1 < (a0.size : Int) := oz; have hx5 := bt_at a0 a1; replace p5 := eq_true p5; replace q5 := eq_true q5) | ((with_reducible refine gate_callee (f := 44) rfl ?_); refine goesL_ (some 16) rfl rfl Tryd.func44 (by kernel_rfl) rfl #[.int .u8 (bt a0 a1)] rfl mz ?_; (with_reducible refine (impl_lexLetter.calls (bt a0 a1) false _ A6.out).mono ?_); rintro e w' ⟨rfl, ⟨nd, rfl⟩⟩; refine ⟨_, rfl, ?_⟩; (try (rw [drewN_self w60]; generalize hq_ : World.drewN w60 _ = w60; replace BK144 : Aside0 (w60.heap[gb144]? = some (.cells #[.int .i64 0, .int .i64 0, .string (⟨#[]⟩ : ByteArray), .int .i64 0] 42 (0, 0))) := ⟨by rw [← hq_]; exact (Z BK144)⟩; replace HB : Aside0 (Below w.heap.size w w60) := ⟨by rw [← hq_]; exact (YA HB)⟩; clear hq_)); have p32 : 0 ≤ (a1 : Int) := oz; have q32 : a1 < (a0.size : Int) := oz; have hx32 := bt_at a0 a1; replace p32 := eq_true p32; replace q32 := eq_true q32) | ((with_reducible refine gate_callee (f := 45) rfl ?_); refine goesL_ (some 57) rfl rfl Tryd.func45 (by kernel_rfl) rfl #[.int .u8 (bt a0 a1)] rfl mz ?_; (with_reducible refine (impl_lexDigit.calls (bt a0 a1) false _ A33.out).mono ?_); rintro e w' ⟨rfl, ⟨nd, rfl⟩⟩; refine ⟨_, rfl, ?_⟩; (try (rw [drewN_self w60]; generalize hq_ : World.drewN w60 _ = w60; replace BK144 : Aside0 (w60.heap[gb144]? = some (.cells #[.int .i64 0, .int .i64 0, .string (⟨#[]⟩ : ByteArray), .int .i64 0] 42 (0, 0))) := ⟨by rw [← hq_]; exact (Z BK144)⟩; replace HB : Aside0 (Below w.heap.size w w60) := ⟨by rw [← hq_]; exact (YA HB)⟩; clear hq_))) | ((with_reducible refine gate_callee (f := 9) rfl ?_); refine goesL_ (some 91) rfl rfl Tryd.func9 (by kernel_rfl) rfl #[.string a0, .int .i64 a1] rfl mz ?_; (with_reducible refine (impl_SignAt.calls a0 a1 t155 _ A56.out).mono ?_); rintro e w' ⟨rfl, ⟨nd, rfl⟩⟩; refine ⟨_, rfl, ?_⟩; (try (rw [drewN_self w60]; generalize hq_ : World.drewN w60 _ = w60; replace BK144 : Aside0 (w60.heap[gb144]? = some (.cells #[.int .i64 0, .int .i64 0, .string (⟨#[]⟩ : ByteArray), .int .i64 0] 42 (0, 0))) := ⟨by rw [← hq_]; exact (Z BK144)⟩; replace HB : Aside0 (Below w.heap.size w w60) := ⟨by rw [← hq_]; exact (YA HB)⟩; clear hq_)); obtain ⟨hcz61_0,hcz61_1,hcz61_2,hcz61_3,hfz61_0,hfz61_1,hfz61_2,hfz61_3⟩ := cB4 BK144))
   refine bodyPost_ret (results_ct rfl _ _ gb144 42 #[.int .i64 4, .int .i64 a1, .string t155, .int .i64 0] (0, 0) _ rfl (by refine pf ?_; refine blk_put (cs := #[.int .i64 4, .int .i64 a1, .string t155, .int .i64 0]) ?_ 3 _ rfl; refine pf ?_; refine blk_put (cs := #[.int .i64 4, .int .i64 a1, .string (⟨#[]⟩ : ByteArray), .int .i64 0]) ?_ 2 _ rfl; refine pf ?_; refine blk_put (cs := #[.int .i64 4, .int .i64 0, .string (⟨#[]⟩ : ByteArray), .int .i64 0]) ?_ 1 _ rfl; refine pf ?_; refine blk_put (cs := #[.int .i64 0, .int .i64 0, .string (⟨#[]⟩ : ByteArray), .int .i64 0]) ?_ 0 _ rfl; exact Z BK144) Tryd.underlying42 rfl (by kernel_rfl)) rfl ?_
   exact ⟨ez, YA HB⟩
  rw [if_pos c57] at H
  have c57b0 := eT c57
  have c57b1 := nF c57
  clear c57
  simp only [Option.some.injEq, Prod.mk.injEq] at H
  obtain ⟨rfl, rfl, rfl, rfl, rfl⟩ := H
  go_enter Tryd.func27, Tryd.ntmps27
  go_wp2_with (first | ((with_reducible refine gate_dst (N := 4) rfl ?_); refine bx 4 #[.int .i64 0, .int .i64 0, .string (⟨#[]⟩ : ByteArray), .int .i64 0] 42 ?_; intro gb144 hg w58 hbox hb; have BK144 := am (hbox); have GW144 := am (bs hg (YA HB)); have GE144 := GW144; replace HB := am (below_step (YA HB) hb); clear hb hbox hg; have p5 : 0 ≤ (a1 : Int) := oz; have q5 : a1 < (a0.size : Int) := oz; have hx5 := bt_at a0 a1; replace p5 := eq_true p5; replace q5 := eq_true q5) | ((with_reducible refine gate_callee (f := 44) rfl ?_); refine goesL_ (some 16) rfl rfl Tryd.func44 (by kernel_rfl) rfl #[.int .u8 (bt a0 a1)] rfl mz ?_; (with_reducible refine (impl_lexLetter.calls (bt a0 a1) false _ A6.out).mono ?_); rintro e w' ⟨rfl, ⟨nd, rfl⟩⟩; refine ⟨_, rfl, ?_⟩; (try (rw [drewN_self w58]; generalize hq_ : World.drewN w58 _ = w58; replace BK144 : Aside0 (w58.heap[gb144]? = some (.cells #[.int .i64 0, .int .i64 0, .string (⟨#[]⟩ : ByteArray), .int .i64 0] 42 (0, 0))) := ⟨by rw [← hq_]; exact (Z BK144)⟩; replace HB : Aside0 (Below w.heap.size w w58) := ⟨by rw [← hq_]; exact (YA HB)⟩; clear hq_)); have p32 : 0 ≤ (a1 : Int) := oz; have q32 : a1 < (a0.size : Int) := oz; have hx32 := bt_at a0 a1; replace p32 := eq_true p32; replace q32 := eq_true q32) | ((with_reducible refine gate_callee (f := 45) rfl ?_); refine goesL_ (some 57) rfl rfl Tryd.func45 (by kernel_rfl) rfl #[.int .u8 (bt a0 a1)] rfl mz ?_; (with_reducible refine (impl_lexDigit.calls (bt a0 a1) false _ A33.out).mono ?_); rintro e w' ⟨rfl, ⟨nd, rfl⟩⟩; refine ⟨_, rfl, ?_⟩; (try (rw [drewN_self w58]; generalize hq_ : World.drewN w58 _ = w58; replace BK144 : Aside0 (w58.heap[gb144]? = some (.cells #[.int .i64 0, .int .i64 0, .string (⟨#[]⟩ : ByteArray), .int .i64 0] 42 (0, 0))) := ⟨by rw [← hq_]; exact (Z BK144)⟩; replace HB : Aside0 (Below w.heap.size w w58) := ⟨by rw [← hq_]; exact (YA HB)⟩; clear hq_))) | ((with_reducible refine gate_callee (f := 9) rfl ?_); refine goesL_ (some 91) rfl rfl Tryd.func9 (by kernel_rfl) rfl #[.string a0, .int .i64 a1] rfl mz ?_; (with_reducible refine (impl_SignAt.calls a0 a1 t155 _ A56.out).mono ?_); rintro e w' ⟨rfl, ⟨nd, rfl⟩⟩; refine ⟨_, rfl, ?_⟩; (try (rw [drewN_self w58]; generalize hq_ : World.drewN w58 _ = w58; replace BK144 : Aside0 (w58.heap[gb144]? = some (.cells #[.int .i64 0, .int .i64 0, .string (⟨#[]⟩ : ByteArray), .int .i64 0] 42 (0, 0))) := ⟨by rw [← hq_]; exact (Z BK144)⟩; replace HB : Aside0 (Below w.heap.size w w58) := ⟨by rw [← hq_]; exact (YA HB)⟩; clear hq_)); obtain ⟨hcz59_0,hcz59_1,hcz59_2,hcz59_3,hfz59_0,hfz59_1,hfz59_2,hfz59_3⟩ := cB4 BK144))
  refine bodyPost_ret (results_ct rfl _ _ gb144 42 #[.int .i64 0, .int .i64 0, .string (⟨#[]⟩ : ByteArray), .int .i64 0] (0, 0) _ rfl (by refine pf ?_; refine blk_put (cs := #[.int .i64 0, .int .i64 0, .string (⟨#[]⟩ : ByteArray), .int .i64 0]) ?_ 3 _ rfl; refine pf ?_; refine blk_put (cs := #[.int .i64 0, .int .i64 0, .string (⟨#[]⟩ : ByteArray), .int .i64 0]) ?_ 2 _ rfl; refine pf ?_; refine blk_put (cs := #[.int .i64 0, .int .i64 0, .string (⟨#[]⟩ : ByteArray), .int .i64 0]) ?_ 1 _ rfl; refine pf ?_; refine blk_put (cs := #[.int .i64 0, .int .i64 0, .string (⟨#[]⟩ : ByteArray), .int .i64 0]) ?_ 0 _ rfl; exact Z BK144) Tryd.underlying42 rfl (by kernel_rfl)) rfl ?_
  exact ⟨ez, YA HB⟩
 subst c34
 rw [if_pos rfl] at H
 have HC35 := am H
 clear H
 go_enter Tryd.func27, Tryd.ntmps27
 go_upto_block 3 with (first | ((with_reducible refine gate_dst (N := 4) rfl ?_); refine bx 4 #[.int .i64 0, .int .i64 0, .string (⟨#[]⟩ : ByteArray), .int .i64 0] 42 ?_; intro gb144 hg w36 hbox hb; have BK144 := am (hbox); have GW144 := am (bs hg (YA HB)); have GE144 := GW144; replace HB := am (below_step (YA HB) hb); clear hb hbox hg; have p5 : 0 ≤ (a1 : Int) := oz; have q5 : a1 < (a0.size : Int) := oz; have hx5 := bt_at a0 a1; replace p5 := eq_true p5; replace q5 := eq_true q5) | ((with_reducible refine gate_callee (f := 44) rfl ?_); refine goesL_ (some 16) rfl rfl Tryd.func44 (by kernel_rfl) rfl #[.int .u8 (bt a0 a1)] rfl mz ?_; (with_reducible refine (impl_lexLetter.calls (bt a0 a1) false _ A6.out).mono ?_); rintro e w' ⟨rfl, ⟨nd, rfl⟩⟩; refine ⟨_, rfl, ?_⟩; have p32 : 0 ≤ (a1 : Int) := oz; have q32 : a1 < (a0.size : Int) := oz; have hx32 := bt_at a0 a1; replace p32 := eq_true p32; replace q32 := eq_true q32) | ((with_reducible refine gate_callee (f := 45) rfl ?_); refine goesL_ (some 57) rfl rfl Tryd.func45 (by kernel_rfl) rfl #[.int .u8 (bt a0 a1)] rfl mz ?_; (with_reducible refine (impl_lexDigit.calls (bt a0 a1) true _ A33.out).mono ?_); rintro e w' ⟨rfl, ⟨nd, rfl⟩⟩; refine ⟨_, rfl, ?_⟩))
 (try simp only [Act.put, List.setIfInBounds_toArray, List.set_cons_zero, List.set_cons_succ])
 go_cut [6] (fun v6 wc => ∃ (kq : Nat) (x6_34 : Int), v6 = .int .i64 x6_34 ∧ Aside0 (impl_lexToken.j4 kq a0 a1 x6_34 = some (r1, r2, r3, r4, r5)) ∧ Aside0 (kq ≤ k) ∧ Aside0 (wc.heap[gb144]? = some (.cells #[.int .i64 0, .int .i64 0, .string (⟨#[]⟩ : ByteArray), .int .i64 0] 42 (0, 0))) ∧ Aside0 (Below w.heap.size w wc))
 case first =>
  have H := HC35.out
  clear HC35
  have H' := am H
  clear H
  go_wp2
  go_loopg [6] k (fun kq v6 w' => ∃ (x6_1 : Int), v6 = .int .i64 x6_1 ∧ Aside0 (impl_lexToken.l1 kq a0 a1 x6_1 = some (r1, r2, r3, r4, r5)) ∧ Aside0 (kq ≤ k) ∧ Aside0 (w'.heap[gb144]? = some (.cells #[.int .i64 0, .int .i64 0, .string (⟨#[]⟩ : ByteArray), .int .i64 0] 42 (0, 0))) ∧ Aside0 (Below w.heap.size w w'))
  case atStart => exact ⟨(a1), ey, H', ⟨Nat.le_refl _⟩, ⟨Z BK144⟩, ⟨YA HB⟩⟩
  case round =>
   clear H'
   (try clear c3b0);(try clear c4b0);(try clear p5);(try clear q5);(try clear hx5);(try clear c7);(try clear p32);(try clear q32);(try clear hx32);(try clear c34)
   obtain ⟨x6_1, rfl, HA, HK1, BK144, HB⟩ := hrel
   cases gk with
   | zero => exact absurd HA.out (by simp [impl_lexToken.l1])
   | succ k1 =>
    have H := HA.out
    clear HA
    simp only [impl_lexToken.l1] at H
    by_cases c37 : x6_1 < (a0.size : Int)
    rotate_left
    ·rw [if_neg c37] at H
     have c37b0 := dF c37
     clear c37
     (first | rw [c37b0] | (simp only [i64_w, i32_w]; rw [c37b0]) | skip)
     have H' := am H
     clear H
     go_wp2
     go_meet
     case rel => exact ⟨_, (x6_1), ey, H', ⟨by have := HK1.out; first | omega | exact Nat.le_refl _⟩, ⟨Z BK144⟩, ⟨YA HB⟩⟩
    rw [if_pos c37] at H
    have c37b0 := dT c37
    clear c37
    (first | rw [c37b0] | (simp only [i64_w, i32_w]; rw [c37b0]) | skip)
    by_cases c38 : 0 ≤ x6_1
    rotate_left
    ·rw [if_neg c38] at H
     exact absurd H (by simp)
    rw [if_pos c38] at H
    have c38b0 := dT c38
    clear c38
    replace H := Option.bind_eq_some_iff.mp H
    obtain ⟨t151, A400, H⟩ := H
    try dsimp only at H
    have A40 := am A400
    clear A400
    by_cases c41 : t151 = true
    ·subst c41
     rw [if_pos rfl] at H
     have H' := am H
     clear H
     have p39 : 0 ≤ (x6_1 : Int) := oz
     have q39 : x6_1 < (a0.size : Int) := oz
     have hx39 := bt_at a0 x6_1
     replace p39 := eq_true p39
     replace q39 := eq_true q39
     go_wp2_with (first | (go_at_call 45; (with_reducible refine (impl_lexDigit.calls (bt a0 x6_1) true _ A40.out).mono ?_); rintro e w' ⟨rfl, ⟨nd, rfl⟩⟩))
     go_roundg k1
     case measure => have := HK1.out; omega
     case rel => exact ⟨(wrap64 (x6_1 + 1)), ey, H', ⟨by have := HK1.out; omega⟩, ⟨Z BK144⟩, ⟨YA HB⟩⟩
    replace c41 := Bool.eq_false_iff.mpr c41
    subst c41
    rw [if_neg (show ¬ (false = true) by decide)] at H
    have H' := am H
    clear H
    have p39 : 0 ≤ (x6_1 : Int) := oz
    have q39 : x6_1 < (a0.size : Int) := oz
    have hx39 := bt_at a0 x6_1
    replace p39 := eq_true p39
    replace q39 := eq_true q39
    go_wp2_with (first | (go_at_call 45; (with_reducible refine (impl_lexDigit.calls (bt a0 x6_1) false _ A40.out).mono ?_); rintro e w' ⟨rfl, ⟨nd, rfl⟩⟩))
    go_meet
    case rel => exact ⟨_, (x6_1), ey, H', ⟨by have := HK1.out; first | omega | exact Nat.le_refl _⟩, ⟨Z BK144⟩, ⟨YA HB⟩⟩
 case rest =>
  clear HC35
  (try clear c3b0);(try clear c4b0);(try clear p5);(try clear q5);(try clear hx5);(try clear c7);(try clear p32);(try clear q32);(try clear hx32);(try clear c34)
  obtain ⟨kq, x6_34, rfl, HA, HJ34, BK144, HB⟩ := hcut
  cases kq with
  | zero => exact absurd HA.out (by simp [impl_lexToken.j4])
  | succ kj34 =>
   have H := HA.out
   clear HA
   simp only [impl_lexToken.j4] at H
   by_cases c42 : 0 ≤ a1
   rotate_left
   ·rw [if_neg c42] at H
    exact absurd H (by simp)
   rw [if_pos c42] at H
   have c42b0 := eq_true c42
   have c42b1 := dT c42
   clear c42
   by_cases c43 : a1 ≤ x6_34
   rotate_left
   ·rw [if_neg c43] at H
    exact absurd H (by simp)
   rw [if_pos c43] at H
   have c43b0 := eq_true c43
   have c43b1 := dT c43
   clear c43
   by_cases c44 : x6_34 ≤ (a0.size : Int)
   rotate_left
   ·rw [if_neg c44] at H
    exact absurd H (by simp)
   rw [if_pos c44] at H
   have c44b0 := eq_true c44
   have c44b1 := dT c44
   clear c44
   replace H := Option.bind_eq_some_iff.mp H
   obtain ⟨⟨t152, t153⟩, A450, H⟩ := H
   try dsimp only at H
   have A45 := am A450
   clear A450
   by_cases c46 : t153 = true
   rotate_left
   ·replace c46 := Bool.eq_false_iff.mpr c46
    subst c46
    rw [if_neg (show ¬ (false = true) by decide)] at H
    simp only [Option.some.injEq, Prod.mk.injEq] at H
    obtain ⟨rfl, rfl, rfl, rfl, rfl⟩ := H
    go_wp2_with (first | ((with_reducible refine gate_callee (f := 47) rfl ?_); refine goesL_ (some 75) rfl rfl Tryd.func47 (by kernel_rfl) rfl #[.string (a0.extract (a1 : Int).toNat (x6_34 : Int).toNat)] rfl mz ?_; (with_reducible refine (impl_lexNumber.calls kj34 (a0.extract (a1 : Int).toNat (x6_34 : Int).toNat) t152 false _ A45.out).mono ?_); rintro e w54 ⟨rfl, hb⟩; refine ⟨_, rfl, ?_⟩; replace BK144 := bb BK144 hb; replace HB := am (below_step (YA HB) hb); (try clear hb); obtain ⟨hcz55_0,hcz55_1,hcz55_2,hcz55_3,hfz55_0,hfz55_1,hfz55_2,hfz55_3⟩ := cB4 BK144))
    refine bodyPost_ret (results_ct rfl _ _ gb144 42 #[.int .i64 0, .int .i64 0, .string (⟨#[]⟩ : ByteArray), .int .i64 0] (0, 0) _ rfl (by refine pf ?_; refine blk_put (cs := #[.int .i64 0, .int .i64 0, .string (⟨#[]⟩ : ByteArray), .int .i64 0]) ?_ 3 _ rfl; refine pf ?_; refine blk_put (cs := #[.int .i64 0, .int .i64 0, .string (⟨#[]⟩ : ByteArray), .int .i64 0]) ?_ 2 _ rfl; refine pf ?_; refine blk_put (cs := #[.int .i64 0, .int .i64 0, .string (⟨#[]⟩ : ByteArray), .int .i64 0]) ?_ 1 _ rfl; refine pf ?_; refine blk_put (cs := #[.int .i64 0, .int .i64 0, .string (⟨#[]⟩ : ByteArray), .int .i64 0]) ?_ 0 _ rfl; exact Z BK144) Tryd.underlying42 rfl (by kernel_rfl)) rfl ?_
    exact ⟨ez, YA HB⟩
   subst c46
   rw [if_pos rfl] at H
   have c47b0 := eq_true (oz : 0 ≤ a1)
   have c48b0 := eq_true (oz : a1 ≤ x6_34)
   have c49b0 := eq_true (oz : x6_34 ≤ (a0.size : Int))
   replace H := Option.bind_eq_some_iff.mp H
   obtain ⟨t154, A500, H⟩ := H
   try dsimp only at H
   have A50 := am A500
   clear A500
   simp only [Option.some.injEq, Prod.mk.injEq] at H
   obtain ⟨rfl, rfl, rfl, rfl, rfl⟩ := H
   go_wp2_with (first | ((with_reducible refine gate_callee (f := 47) rfl ?_); refine goesL_ (some 75) rfl rfl Tryd.func47 (by kernel_rfl) rfl #[.string (a0.extract (a1 : Int).toNat (x6_34 : Int).toNat)] rfl mz ?_; (with_reducible refine (impl_lexNumber.calls kj34 (a0.extract (a1 : Int).toNat (x6_34 : Int).toNat) t152 true _ A45.out).mono ?_); rintro e w51 ⟨rfl, hb⟩; refine ⟨_, rfl, ?_⟩; replace BK144 := bb BK144 hb; replace HB := am (below_step (YA HB) hb); (try clear hb)) | ((with_reducible refine gate_callee (f := 46) rfl ?_); refine goesL_ (some 86) rfl rfl Tryd.func46 (by kernel_rfl) rfl #[.string (a0.extract (a1 : Int).toNat (x6_34 : Int).toNat)] rfl mz ?_; (with_reducible refine (strings_Clone.calls (a0.extract (a1 : Int).toNat (x6_34 : Int).toNat) t154 _ A50.out).mono ?_); rintro e w52 ⟨rfl, hb⟩; refine ⟨_, rfl, ?_⟩; replace BK144 := bb BK144 hb; replace HB := am (below_step (YA HB) hb); (try clear hb); obtain ⟨hcz53_0,hcz53_1,hcz53_2,hcz53_3,hfz53_0,hfz53_1,hfz53_2,hfz53_3⟩ := cB4 BK144))
   refine bodyPost_ret (results_ct rfl _ _ gb144 42 #[.int .i64 2, .int .i64 a1, .string t154, .int .i64 t152] (0, 0) _ rfl (by refine pf ?_; refine blk_put (cs := #[.int .i64 2, .int .i64 a1, .string t154, .int .i64 0]) ?_ 3 _ rfl; refine pf ?_; refine blk_put (cs := #[.int .i64 2, .int .i64 a1, .string (⟨#[]⟩ : ByteArray), .int .i64 0]) ?_ 2 _ rfl; refine pf ?_; refine blk_put (cs := #[.int .i64 2, .int .i64 0, .string (⟨#[]⟩ : ByteArray), .int .i64 0]) ?_ 1 _ rfl; refine pf ?_; refine blk_put (cs := #[.int .i64 0, .int .i64 0, .string (⟨#[]⟩ : ByteArray), .int .i64 0]) ?_ 0 _ rfl; exact Z BK144) Tryd.underlying42 rfl (by kernel_rfl)) rfl ?_
   exact ⟨ez, YA HB⟩

end Go.Proofs.YtnbpgnkplahknaaDoor.PFnLexBack
