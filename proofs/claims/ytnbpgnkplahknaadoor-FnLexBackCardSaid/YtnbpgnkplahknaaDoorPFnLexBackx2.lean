/- Written by this session's own driver (wip/dprint.py): the functions that the law FnLexBack reaches, as Lean functions, each with its contract. -/
import Derived.Test.YtnbpgnkplahknaaDoorPFnLexBackx0
import Derived.Test.YtnbpgnkplahknaaDoorSq
namespace Go.Proofs.YtnbpgnkplahknaaDoor.PFnLexBack
open Go.RowKit Go.Proofs.YtnbpgnkplahknaaDoorW.PrintWords Go.Proofs.YtnbpgnkplahknaaDoorW.PrintLast Go.Proofs.YtnbpgnkplahknaaDoorW.PrintMore Go.Proofs.YtnbpgnkplahknaaDoorSq
attribute [local go_sem] max2_int min2_int max_two min_two max_three min_three max_four min_four   -- for this text's walks alone
set_option linter.unusedVariables false
set_option linter.unusedSimpArgs false

/-! ### spec_l2Skip: function 24 -/
attribute [local go_sem] Go.Proofs.YtnbpgnkplahknaaDoorSet.isSome_setCell
mutual
def spec_l2Skip.l0 : Nat → ByteArray → Int → Option (Int)
 | 0, _, _ => none
 | k + 1, x0, x1 => if x1 < (x0.size : Int) then (if 0 ≤ x1 then (if (bt x0 x1) = 32 then (spec_l2Skip.j1 k x0 x1 true) else (spec_l2Skip.j1 k x0 x1 ((bt x0 x1) == 10))) else (none)) else (some x1)
def spec_l2Skip.j1 : Nat → ByteArray → Int → Bool → Option (Int)
 | 0, _, _, _ => none
 | k + 1, x0, x1, x18 => if x18 = true then (spec_l2Skip.l0 k x0 (wrap64 (x1 + 1))) else (if 0 ≤ x1 then (if x1 < (x0.size : Int) then (if (bt x0 x1) = 35 then (spec_l2Skip.l1 k x0 x1) else (some x1)) else (none)) else (none))
def spec_l2Skip.l1 : Nat → ByteArray → Int → Option (Int)
 | 0, _, _ => none
 | k + 1, x0, x1 => if x1 < (x0.size : Int) then (if 0 ≤ x1 then (if (bt x0 x1) = 10 then (spec_l2Skip.l0 k x0 x1) else (spec_l2Skip.l1 k x0 (wrap64 (x1 + 1)))) else (none)) else (spec_l2Skip.l0 k x0 x1)
end
def spec_l2Skip.f (k : Nat) (a0 : ByteArray) (a1 : Int) : Option (Int) := spec_l2Skip.l0 k a0 a1
theorem spec_l2Skip.mono_l : ∀ k, (∀ y0 y1, LeO (spec_l2Skip.l0 k y0 y1) (spec_l2Skip.l0 (k + 1) y0 y1)) ∧ (∀ y0 y1 y2, LeO (spec_l2Skip.j1 k y0 y1 y2) (spec_l2Skip.j1 (k + 1) y0 y1 y2)) ∧ (∀ y0 y1, LeO (spec_l2Skip.l1 k y0 y1) (spec_l2Skip.l1 (k + 1) y0 y1))
 | 0 => ⟨fun _ _ r h => by simp [spec_l2Skip.l0] at h, fun _ _ _ r h => by simp [spec_l2Skip.j1] at h, fun _ _ r h => by simp [spec_l2Skip.l1] at h⟩
 | k + 1 => by
  obtain ⟨ih0, ih1, ih2⟩ := spec_l2Skip.mono_l k
  refine ⟨?_, ?_, ?_⟩ <;> (intros; (first | unfold spec_l2Skip.l0 | unfold spec_l2Skip.j1 | unfold spec_l2Skip.l1); repeat' first | (with_reducible first | apply ih0 | apply ih1 | apply ih2 | apply LeO.refl | apply LeO.none | refine LeO.ite ?_ ?_ | refine LeO.bind ?_ (fun _ => ?_)) | apply ih0 | apply ih1 | apply ih2 | apply LeO.none | refine LeO.ite ?_ ?_ | refine LeO.bind ?_ (fun _ => ?_))
theorem spec_l2Skip.mono : ∀ a0 a1 k, LeO (spec_l2Skip.f k a0 a1) (spec_l2Skip.f (k + 1) a0 a1) := by
 intro a0 a1 k
 obtain ⟨ih0, ih1, ih2⟩ := spec_l2Skip.mono_l k
 unfold spec_l2Skip.f
 repeat' first | (with_reducible first | apply ih0 | apply ih1 | apply ih2 | apply LeO.refl | apply LeO.none | refine LeO.ite ?_ ?_ | refine LeO.bind ?_ (fun _ => ?_)) | apply ih0 | apply ih1 | apply ih2 | apply LeO.none | refine LeO.ite ?_ ?_ | refine LeO.bind ?_ (fun _ => ?_)
set_option maxHeartbeats 8000000 in
set_option maxRecDepth 100000 in
theorem spec_l2Skip.calls (k : Nat) (a0 : ByteArray) (a1 : Int) (r : Int) (w : World) (h : spec_l2Skip.f k a0 a1 = some r) :
  Calls Tryd.prog 24 #[.string a0, .int .i64 a1] w fun e w' => e = .returned (.int .i64 r) ∧ Drawn0 w w' := by
 have H : (spec_l2Skip.l0 k a0 a1) = some r := h
 clear h
 have H' := am H
 clear H
 go_enter Tryd.func24, Tryd.ntmps24
 go_wp2
 go_loopg [1] k (fun kq v1 w' => ∃ (x1_1 : Int), v1 = .int .i64 x1_1 ∧ Aside0 (spec_l2Skip.l0 kq a0 x1_1 = some r) ∧ Aside0 (kq ≤ k) ∧ Drawn0 w w')
 case atStart => exact ⟨(a1), ey, H', ⟨Nat.le_refl _⟩, by repeat (first | exact Drawn0.refl _ | apply Drawn0.step)⟩
 case round =>
  clear H'
  obtain ⟨x1_1, rfl, HA, HK1, ⟨m1, rfl⟩⟩ := hrel
  cases gk with
  | zero => exact absurd HA.out (by simp [spec_l2Skip.l0])
  | succ k1 =>
   have H := HA.out
   clear HA
   simp only [spec_l2Skip.l0] at H
   by_cases c3 : x1_1 < (a0.size : Int)
   rotate_left
   ·rw [if_neg c3] at H
    have c3b0 := dF c3
    clear c3
    obtain rfl := Option.some.inj H
    go_wp2
    go_ret
    exact ⟨by first | rfl | (simp; done) | (simp [*]; done), by repeat (first | exact Drawn0.refl _ | apply Drawn0.step)⟩
   rw [if_pos c3] at H
   have c3b0 := dT c3
   clear c3
   have HC4 := am H
   clear H
   go_upto_region 2 with (fail)
   go_cut [18] (fun v18 wc => ∃ (kq : Nat) (x18_3 : Bool), v18 = .bool x18_3 ∧ Aside0 (spec_l2Skip.j1 kq a0 x1_1 x18_3 = some r) ∧ Aside0 (kq ≤ k1) ∧ Drawn0 w wc)
   case first =>
    have H := HC4.out
    clear HC4
    by_cases c5 : 0 ≤ x1_1
    rotate_left
    ·rw [if_neg c5] at H
     exact absurd H (by simp)
    rw [if_pos c5] at H
    have c5b0 := dT c5
    clear c5
    (first | rw [c5b0] | (simp only [i64_w, i32_w]; rw [c5b0]) | skip)
    by_cases c7 : (bt a0 x1_1) = 32
    ·rw [if_pos c7] at H
     have c7b0 := eT c7
     have c7b1 := nF c7
     clear c7
     have H' := am H
     clear H
     have p6 : 0 ≤ (x1_1 : Int) := oz
     have q6 : x1_1 < (a0.size : Int) := oz
     have hx6 := bt_at a0 x1_1
     replace p6 := eq_true p6
     replace q6 := eq_true q6
     go_wp2
     go_meet
     case rel => exact ⟨_, (true), ey, H', ⟨by have := HK1.out; first | omega | exact Nat.le_refl _⟩, by repeat (first | exact Drawn0.refl _ | apply Drawn0.step)⟩
    rw [if_neg c7] at H
    have c7b0 := eF c7
    have c7b1 := nT c7
    have H' := am H
    clear H
    have p6 : 0 ≤ (x1_1 : Int) := oz
    have q6 : x1_1 < (a0.size : Int) := oz
    have hx6 := bt_at a0 x1_1
    replace p6 := eq_true p6
    replace q6 := eq_true q6
    have p8 : 0 ≤ (x1_1 : Int) := oz
    have q8 : x1_1 < (a0.size : Int) := oz
    have hx8 := bt_at a0 x1_1
    replace p8 := eq_true p8
    replace q8 := eq_true q8
    go_wp2
    go_meet
    case rel => exact ⟨_, (((bt a0 x1_1) == 10)), ey, H', ⟨by have := HK1.out; first | omega | exact Nat.le_refl _⟩, by repeat (first | exact Drawn0.refl _ | apply Drawn0.step)⟩
   case rest =>
    clear HC4
    try clear c3b0
    obtain ⟨kq, x18_3, rfl, HA, HJ3, ⟨mc3, rfl⟩⟩ := hcut
    cases kq with
    | zero => exact absurd HA.out (by simp [spec_l2Skip.j1])
    | succ kj3 =>
     have H := HA.out
     clear HA
     simp only [spec_l2Skip.j1] at H
     by_cases c9 : x18_3 = true
     ·subst c9
      rw [if_pos rfl] at H
      have H' := am H
      clear H
      go_wp2
      go_roundg kj3
      case measure => have := HK1.out; have := HJ3.out; omega
      case rel => exact ⟨(wrap64 (x1_1 + 1)), ey, H', ⟨by have := HK1.out; have := HJ3.out; omega⟩, by repeat (first | exact Drawn0.refl _ | apply Drawn0.step)⟩
     replace c9 := Bool.eq_false_iff.mpr c9
     subst c9
     rw [if_neg (show ¬ (false = true) by decide)] at H
     by_cases c10 : 0 ≤ x1_1
     rotate_left
     ·rw [if_neg c10] at H
      exact absurd H (by simp)
     rw [if_pos c10] at H
     have c10b0 := dT c10
     clear c10
     by_cases c11 : x1_1 < (a0.size : Int)
     rotate_left
     ·rw [if_neg c11] at H
      exact absurd H (by simp)
     rw [if_pos c11] at H
     have c11b0 := dT c11
     clear c11
     by_cases c13 : (bt a0 x1_1) = 35
     rotate_left
     ·rw [if_neg c13] at H
      have c13b0 := eF c13
      have c13b1 := nT c13
      obtain rfl := Option.some.inj H
      have p12 : 0 ≤ (x1_1 : Int) := oz
      have q12 : x1_1 < (a0.size : Int) := oz
      have hx12 := bt_at a0 x1_1
      replace p12 := eq_true p12
      replace q12 := eq_true q12
      go_wp2
      go_ret
      exact ⟨by first | rfl | (simp; done) | (simp [*]; done), by repeat (first | exact Drawn0.refl _ | apply Drawn0.step)⟩
     rw [if_pos c13] at H
     have c13b0 := eT c13
     have c13b1 := nF c13
     clear c13
     have H' := am H
     clear H
     have p12 : 0 ≤ (x1_1 : Int) := oz
     have q12 : x1_1 < (a0.size : Int) := oz
     have hx12 := bt_at a0 x1_1
     replace p12 := eq_true p12
     replace q12 := eq_true q12
     go_wp2
     go_loopg [1] kj3 (fun kq v1 w' => ∃ (x1_3 : Int), v1 = .int .i64 x1_3 ∧ Aside0 (spec_l2Skip.l1 kq a0 x1_3 = some r) ∧ Aside0 (kq ≤ kj3) ∧ Drawn0 w w')
     case atStart => exact ⟨(x1_1), ey, H', ⟨Nat.le_refl _⟩, by repeat (first | exact Drawn0.refl _ | apply Drawn0.step)⟩
     case round =>
      clear H'
      (try clear c9);(try clear c10b0);(try clear c11b0);(try clear p12);(try clear q12);(try clear hx12);(try clear c13b0);(try clear c13b1)
      obtain ⟨x1_3, rfl, HA, HK3, ⟨m3, rfl⟩⟩ := hrel
      cases gk with
      | zero => exact absurd HA.out (by simp [spec_l2Skip.l1])
      | succ k3 =>
       have H := HA.out
       clear HA
       simp only [spec_l2Skip.l1] at H
       by_cases c14 : x1_3 < (a0.size : Int)
       rotate_left
       ·rw [if_neg c14] at H
        have c14b0 := dF c14
        clear c14
        have H' := am H
        clear H
        go_wp2
        go_roundg k3
        case measure => have := HK1.out; have := HJ3.out; have := HK3.out; omega
        case rel => exact ⟨(x1_3), ey, H', ⟨by have := HK1.out; have := HJ3.out; have := HK3.out; omega⟩, by repeat (first | exact Drawn0.refl _ | apply Drawn0.step)⟩
       rw [if_pos c14] at H
       have c14b0 := dT c14
       clear c14
       by_cases c15 : 0 ≤ x1_3
       rotate_left
       ·rw [if_neg c15] at H
        exact absurd H (by simp)
       rw [if_pos c15] at H
       have c15b0 := dT c15
       clear c15
       by_cases c17 : (bt a0 x1_3) = 10
       ·rw [if_pos c17] at H
        have c17b0 := eT c17
        have c17b1 := nF c17
        clear c17
        have H' := am H
        clear H
        have p16 : 0 ≤ (x1_3 : Int) := oz
        have q16 : x1_3 < (a0.size : Int) := oz
        have hx16 := bt_at a0 x1_3
        replace p16 := eq_true p16
        replace q16 := eq_true q16
        go_wp2
        go_roundg k3
        case measure => have := HK1.out; have := HJ3.out; have := HK3.out; omega
        case rel => exact ⟨(x1_3), ey, H', ⟨by have := HK1.out; have := HJ3.out; have := HK3.out; omega⟩, by repeat (first | exact Drawn0.refl _ | apply Drawn0.step)⟩
       rw [if_neg c17] at H
       have c17b0 := eF c17
       have c17b1 := nT c17
       have H' := am H
       clear H
       have p16 : 0 ≤ (x1_3 : Int) := oz
       have q16 : x1_3 < (a0.size : Int) := oz
       have hx16 := bt_at a0 x1_3
       replace p16 := eq_true p16
       replace q16 := eq_true q16
       go_wp2
       go_roundg k3
       case measure => have := HK1.out; have := HJ3.out; have := HK3.out; omega
       case rel => exact ⟨(wrap64 (x1_3 + 1)), ey, H', ⟨by have := HK1.out; have := HJ3.out; have := HK3.out; omega⟩, by repeat (first | exact Drawn0.refl _ | apply Drawn0.step)⟩

/-! ### spec_l2Signs: function 22 -/
attribute [local go_sem] Go.Proofs.YtnbpgnkplahknaaDoorSet.isSome_setCell
def spec_l2Signs.f  : Option (List ByteArray) := some (([(⟨#[43, 37]⟩ : ByteArray), (⟨#[45, 37]⟩ : ByteArray), (⟨#[42, 37]⟩ : ByteArray), (⟨#[60, 60]⟩ : ByteArray), (⟨#[62, 62]⟩ : ByteArray), (⟨#[61, 61]⟩ : ByteArray), (⟨#[33, 61]⟩ : ByteArray), (⟨#[60, 61]⟩ : ByteArray), (⟨#[62, 61]⟩ : ByteArray), (⟨#[46, 46]⟩ : ByteArray), (⟨#[43, 61]⟩ : ByteArray), (⟨#[43]⟩ : ByteArray), (⟨#[45]⟩ : ByteArray), (⟨#[42]⟩ : ByteArray), (⟨#[47]⟩ : ByteArray), (⟨#[37]⟩ : ByteArray), (⟨#[38]⟩ : ByteArray), (⟨#[124]⟩ : ByteArray), (⟨#[94]⟩ : ByteArray), (⟨#[60]⟩ : ByteArray), (⟨#[62]⟩ : ByteArray), (⟨#[61]⟩ : ByteArray), (⟨#[40]⟩ : ByteArray), (⟨#[41]⟩ : ByteArray), (⟨#[123]⟩ : ByteArray), (⟨#[125]⟩ : ByteArray), (⟨#[91]⟩ : ByteArray), (⟨#[93]⟩ : ByteArray), (⟨#[44]⟩ : ByteArray), (⟨#[59]⟩ : ByteArray)] : List ByteArray))
set_option maxHeartbeats 8000000 in
set_option maxRecDepth 100000 in
theorem spec_l2Signs.calls  (r : List ByteArray) (w : World) (h : spec_l2Signs.f  = some r) :
  Calls Tryd.prog 22 #[] w fun e w' => ∃ v0_ : Value, e = .returned (v0_) ∧ Kd.R Kd.string 9 w' w.heap.size (fun _ => True) v0_ r ∧ Below w.heap.size w w' := by
 have HB := am (Below.refl w.heap.size w)
 have H : (some (([(⟨#[43, 37]⟩ : ByteArray), (⟨#[45, 37]⟩ : ByteArray), (⟨#[42, 37]⟩ : ByteArray), (⟨#[60, 60]⟩ : ByteArray), (⟨#[62, 62]⟩ : ByteArray), (⟨#[61, 61]⟩ : ByteArray), (⟨#[33, 61]⟩ : ByteArray), (⟨#[60, 61]⟩ : ByteArray), (⟨#[62, 61]⟩ : ByteArray), (⟨#[46, 46]⟩ : ByteArray), (⟨#[43, 61]⟩ : ByteArray), (⟨#[43]⟩ : ByteArray), (⟨#[45]⟩ : ByteArray), (⟨#[42]⟩ : ByteArray), (⟨#[47]⟩ : ByteArray), (⟨#[37]⟩ : ByteArray), (⟨#[38]⟩ : ByteArray), (⟨#[124]⟩ : ByteArray), (⟨#[94]⟩ : ByteArray), (⟨#[60]⟩ : ByteArray), (⟨#[62]⟩ : ByteArray), (⟨#[61]⟩ : ByteArray), (⟨#[40]⟩ : ByteArray), (⟨#[41]⟩ : ByteArray), (⟨#[123]⟩ : ByteArray), (⟨#[125]⟩ : ByteArray), (⟨#[91]⟩ : ByteArray), (⟨#[93]⟩ : ByteArray), (⟨#[44]⟩ : ByteArray), (⟨#[59]⟩ : ByteArray)] : List ByteArray))) = some r := h
 clear h
 obtain ⟨y101, hy101⟩ : ∃ y_ : List ByteArray, y_ = (([(⟨#[43, 37]⟩ : ByteArray), (⟨#[45, 37]⟩ : ByteArray), (⟨#[42, 37]⟩ : ByteArray), (⟨#[60, 60]⟩ : ByteArray), (⟨#[62, 62]⟩ : ByteArray), (⟨#[61, 61]⟩ : ByteArray), (⟨#[33, 61]⟩ : ByteArray), (⟨#[60, 61]⟩ : ByteArray), (⟨#[62, 61]⟩ : ByteArray), (⟨#[46, 46]⟩ : ByteArray), (⟨#[43, 61]⟩ : ByteArray), (⟨#[43]⟩ : ByteArray), (⟨#[45]⟩ : ByteArray), (⟨#[42]⟩ : ByteArray), (⟨#[47]⟩ : ByteArray), (⟨#[37]⟩ : ByteArray), (⟨#[38]⟩ : ByteArray), (⟨#[124]⟩ : ByteArray), (⟨#[94]⟩ : ByteArray), (⟨#[60]⟩ : ByteArray), (⟨#[62]⟩ : ByteArray), (⟨#[61]⟩ : ByteArray), (⟨#[40]⟩ : ByteArray), (⟨#[41]⟩ : ByteArray), (⟨#[123]⟩ : ByteArray), (⟨#[125]⟩ : ByteArray), (⟨#[91]⟩ : ByteArray), (⟨#[93]⟩ : ByteArray), (⟨#[44]⟩ : ByteArray), (⟨#[59]⟩ : ByteArray)] : List ByteArray)) := ⟨_, rfl⟩
 replace H : (some y101) = some r := by first | (rw [hy101]; with_reducible exact H) | (have H2_ := (Option.bind_some _ _).symm.trans H; rw [hy101]; with_reducible exact H2_) | (have H2_ := (Option.bind_some _ _).symm.trans H; with_reducible exact H2_) | with_reducible exact H | (rw [hy101]; exact H) | exact H
 have Ny101 := am hy101
 clear hy101
 obtain rfl := Option.some.inj H
 go_enter Tryd.func22, Tryd.ntmps22
 go_wp2_with (first | ((with_reducible refine gate_dst (N := 1) rfl ?_); refine Kd.R_lit Kd.string _ 9 ?hg (N := 1) ?hd (xs := ([(⟨#[43, 37]⟩ : ByteArray), (⟨#[45, 37]⟩ : ByteArray), (⟨#[42, 37]⟩ : ByteArray), (⟨#[60, 60]⟩ : ByteArray), (⟨#[62, 62]⟩ : ByteArray), (⟨#[61, 61]⟩ : ByteArray), (⟨#[33, 61]⟩ : ByteArray), (⟨#[60, 61]⟩ : ByteArray), (⟨#[62, 61]⟩ : ByteArray), (⟨#[46, 46]⟩ : ByteArray), (⟨#[43, 61]⟩ : ByteArray), (⟨#[43]⟩ : ByteArray), (⟨#[45]⟩ : ByteArray), (⟨#[42]⟩ : ByteArray), (⟨#[47]⟩ : ByteArray), (⟨#[37]⟩ : ByteArray), (⟨#[38]⟩ : ByteArray), (⟨#[124]⟩ : ByteArray), (⟨#[94]⟩ : ByteArray), (⟨#[60]⟩ : ByteArray), (⟨#[62]⟩ : ByteArray), (⟨#[61]⟩ : ByteArray), (⟨#[40]⟩ : ByteArray), (⟨#[41]⟩ : ByteArray), (⟨#[123]⟩ : ByteArray), (⟨#[125]⟩ : ByteArray), (⟨#[91]⟩ : ByteArray), (⟨#[93]⟩ : ByteArray), (⟨#[44]⟩ : ByteArray), (⟨#[59]⟩ : ByteArray)] : List ByteArray)) (inner := [.string (⟨#[43, 37]⟩ : ByteArray), .string (⟨#[45, 37]⟩ : ByteArray), .string (⟨#[42, 37]⟩ : ByteArray), .string (⟨#[60, 60]⟩ : ByteArray), .string (⟨#[62, 62]⟩ : ByteArray), .string (⟨#[61, 61]⟩ : ByteArray), .string (⟨#[33, 61]⟩ : ByteArray), .string (⟨#[60, 61]⟩ : ByteArray), .string (⟨#[62, 61]⟩ : ByteArray), .string (⟨#[46, 46]⟩ : ByteArray), .string (⟨#[43, 61]⟩ : ByteArray), .string (⟨#[43]⟩ : ByteArray), .string (⟨#[45]⟩ : ByteArray), .string (⟨#[42]⟩ : ByteArray), .string (⟨#[47]⟩ : ByteArray), .string (⟨#[37]⟩ : ByteArray), .string (⟨#[38]⟩ : ByteArray), .string (⟨#[124]⟩ : ByteArray), .string (⟨#[94]⟩ : ByteArray), .string (⟨#[60]⟩ : ByteArray), .string (⟨#[62]⟩ : ByteArray), .string (⟨#[61]⟩ : ByteArray), .string (⟨#[40]⟩ : ByteArray), .string (⟨#[41]⟩ : ByteArray), .string (⟨#[123]⟩ : ByteArray), .string (⟨#[125]⟩ : ByteArray), .string (⟨#[91]⟩ : ByteArray), .string (⟨#[93]⟩ : ByteArray), .string (⟨#[44]⟩ : ByteArray), .string (⟨#[59]⟩ : ByteArray)]) (ok := fun _ => True) (okp := fun _ => True) ?hr ?hp (fun _ hk => hk) trivial (Below.refl _ _) (Nat.le_refl _) (by simp) ?_; (case hd => rfl); (case hg => rfl); (case hr => first | (go_simp; done) | (go_simp; rfl)); (case hp => exact (Reps.one (show Kd.M Kd.string _ _ _ (⟨#[43, 37]⟩ : ByteArray) [.string (⟨#[43, 37]⟩ : ByteArray)] from rfl) (Reps.one (show Kd.M Kd.string _ _ _ (⟨#[45, 37]⟩ : ByteArray) [.string (⟨#[45, 37]⟩ : ByteArray)] from rfl) (Reps.one (show Kd.M Kd.string _ _ _ (⟨#[42, 37]⟩ : ByteArray) [.string (⟨#[42, 37]⟩ : ByteArray)] from rfl) (Reps.one (show Kd.M Kd.string _ _ _ (⟨#[60, 60]⟩ : ByteArray) [.string (⟨#[60, 60]⟩ : ByteArray)] from rfl) (Reps.one (show Kd.M Kd.string _ _ _ (⟨#[62, 62]⟩ : ByteArray) [.string (⟨#[62, 62]⟩ : ByteArray)] from rfl) (Reps.one (show Kd.M Kd.string _ _ _ (⟨#[61, 61]⟩ : ByteArray) [.string (⟨#[61, 61]⟩ : ByteArray)] from rfl) (Reps.one (show Kd.M Kd.string _ _ _ (⟨#[33, 61]⟩ : ByteArray) [.string (⟨#[33, 61]⟩ : ByteArray)] from rfl) (Reps.one (show Kd.M Kd.string _ _ _ (⟨#[60, 61]⟩ : ByteArray) [.string (⟨#[60, 61]⟩ : ByteArray)] from rfl) (Reps.one (show Kd.M Kd.string _ _ _ (⟨#[62, 61]⟩ : ByteArray) [.string (⟨#[62, 61]⟩ : ByteArray)] from rfl) (Reps.one (show Kd.M Kd.string _ _ _ (⟨#[46, 46]⟩ : ByteArray) [.string (⟨#[46, 46]⟩ : ByteArray)] from rfl) (Reps.one (show Kd.M Kd.string _ _ _ (⟨#[43, 61]⟩ : ByteArray) [.string (⟨#[43, 61]⟩ : ByteArray)] from rfl) (Reps.one (show Kd.M Kd.string _ _ _ (⟨#[43]⟩ : ByteArray) [.string (⟨#[43]⟩ : ByteArray)] from rfl) (Reps.one (show Kd.M Kd.string _ _ _ (⟨#[45]⟩ : ByteArray) [.string (⟨#[45]⟩ : ByteArray)] from rfl) (Reps.one (show Kd.M Kd.string _ _ _ (⟨#[42]⟩ : ByteArray) [.string (⟨#[42]⟩ : ByteArray)] from rfl) (Reps.one (show Kd.M Kd.string _ _ _ (⟨#[47]⟩ : ByteArray) [.string (⟨#[47]⟩ : ByteArray)] from rfl) (Reps.one (show Kd.M Kd.string _ _ _ (⟨#[37]⟩ : ByteArray) [.string (⟨#[37]⟩ : ByteArray)] from rfl) (Reps.one (show Kd.M Kd.string _ _ _ (⟨#[38]⟩ : ByteArray) [.string (⟨#[38]⟩ : ByteArray)] from rfl) (Reps.one (show Kd.M Kd.string _ _ _ (⟨#[124]⟩ : ByteArray) [.string (⟨#[124]⟩ : ByteArray)] from rfl) (Reps.one (show Kd.M Kd.string _ _ _ (⟨#[94]⟩ : ByteArray) [.string (⟨#[94]⟩ : ByteArray)] from rfl) (Reps.one (show Kd.M Kd.string _ _ _ (⟨#[60]⟩ : ByteArray) [.string (⟨#[60]⟩ : ByteArray)] from rfl) (Reps.one (show Kd.M Kd.string _ _ _ (⟨#[62]⟩ : ByteArray) [.string (⟨#[62]⟩ : ByteArray)] from rfl) (Reps.one (show Kd.M Kd.string _ _ _ (⟨#[61]⟩ : ByteArray) [.string (⟨#[61]⟩ : ByteArray)] from rfl) (Reps.one (show Kd.M Kd.string _ _ _ (⟨#[40]⟩ : ByteArray) [.string (⟨#[40]⟩ : ByteArray)] from rfl) (Reps.one (show Kd.M Kd.string _ _ _ (⟨#[41]⟩ : ByteArray) [.string (⟨#[41]⟩ : ByteArray)] from rfl) (Reps.one (show Kd.M Kd.string _ _ _ (⟨#[123]⟩ : ByteArray) [.string (⟨#[123]⟩ : ByteArray)] from rfl) (Reps.one (show Kd.M Kd.string _ _ _ (⟨#[125]⟩ : ByteArray) [.string (⟨#[125]⟩ : ByteArray)] from rfl) (Reps.one (show Kd.M Kd.string _ _ _ (⟨#[91]⟩ : ByteArray) [.string (⟨#[91]⟩ : ByteArray)] from rfl) (Reps.one (show Kd.M Kd.string _ _ _ (⟨#[93]⟩ : ByteArray) [.string (⟨#[93]⟩ : ByteArray)] from rfl) (Reps.one (show Kd.M Kd.string _ _ _ (⟨#[44]⟩ : ByteArray) [.string (⟨#[44]⟩ : ByteArray)] from rfl) (Reps.one (show Kd.M Kd.string _ _ _ (⟨#[59]⟩ : ByteArray) [.string (⟨#[59]⟩ : ByteArray)] from rfl) (Reps.none _ _)))))))))))))))))))))))))))))))); intro v102 w1 ho2 hb hg_ hnew_; clear hg_ hnew_; (first | rw [← Ny101.out] at ho2 | (simp only [Int.reduceToNat] at ho2; rw [← Ny101.out] at ho2)); have HO103 := am (Kd.R_lower ho2 (below_size (YA HB))); replace HB := am (below_step (YA HB) hb); clear hb ho2))
 go_ret
 exact ⟨_, ez, by exact RZ HO103, YA HB⟩

/-! ### spec_SignAt: function 8 -/
attribute [local go_sem] Go.Proofs.YtnbpgnkplahknaaDoorSet.isSome_setCell
mutual
def spec_SignAt.j0 : Nat → ByteArray → Int → Bool → Option (ByteArray)
 | 0, _, _, _ => none
 | k + 1, x0, x1, x15 => if x15 = true then (some (⟨#[]⟩ : ByteArray)) else ((spec_l2Signs.f).bind fun t104 => (spec_SignAt.l0 k x0 x1 t104 0))
def spec_SignAt.l0 : Nat → ByteArray → Int → List ByteArray → Int → Option (ByteArray)
 | 0, _, _, _, _ => none
 | k + 1, x0, x1, x5, x6 => if x6 < (x5.length : Int) then (if 0 ≤ x6 then (if ((rdOf ByteArray.empty x5 x6).size : Int) ≤ (wrap64 ((x0.size : Int) - x1)) then (if 0 ≤ x1 then (if x1 ≤ (wrap64 (x1 + ((rdOf ByteArray.empty x5 x6).size : Int))) then (if (wrap64 (x1 + ((rdOf ByteArray.empty x5 x6).size : Int))) ≤ (x0.size : Int) then (if (x0.extract (x1 : Int).toNat ((wrap64 (x1 + ((rdOf ByteArray.empty x5 x6).size : Int))) : Int).toNat).toList = (rdOf ByteArray.empty x5 x6).toList then (some (rdOf ByteArray.empty x5 x6)) else (spec_SignAt.l0 k x0 x1 x5 (wrap64 (x6 + 1)))) else (none)) else (none)) else (none)) else (spec_SignAt.l0 k x0 x1 x5 (wrap64 (x6 + 1)))) else (none)) else (some (⟨#[]⟩ : ByteArray))
end
def spec_SignAt.f (k : Nat) (a0 : ByteArray) (a1 : Int) : Option (ByteArray) := if a1 < 0 then (spec_SignAt.j0 k a0 a1 true) else (spec_SignAt.j0 k a0 a1 (decide (a1 ≥ (a0.size : Int))))
theorem spec_SignAt.mono_l : ∀ k, (∀ y0 y1 y2, LeO (spec_SignAt.j0 k y0 y1 y2) (spec_SignAt.j0 (k + 1) y0 y1 y2)) ∧ (∀ y0 y1 y2 y3, LeO (spec_SignAt.l0 k y0 y1 y2 y3) (spec_SignAt.l0 (k + 1) y0 y1 y2 y3))
 | 0 => ⟨fun _ _ _ r h => by simp [spec_SignAt.j0] at h, fun _ _ _ _ r h => by simp [spec_SignAt.l0] at h⟩
 | k + 1 => by
  obtain ⟨ih0, ih1⟩ := spec_SignAt.mono_l k
  refine ⟨?_, ?_⟩ <;> (intros; (first | unfold spec_SignAt.j0 | unfold spec_SignAt.l0); repeat' first | (with_reducible first | apply ih0 | apply ih1 | apply LeO.refl | apply LeO.none | refine LeO.ite ?_ ?_ | refine LeO.bind ?_ (fun _ => ?_)) | apply ih0 | apply ih1 | apply LeO.none | refine LeO.ite ?_ ?_ | refine LeO.bind ?_ (fun _ => ?_))
theorem spec_SignAt.mono : ∀ a0 a1 k, LeO (spec_SignAt.f k a0 a1) (spec_SignAt.f (k + 1) a0 a1) := by
 intro a0 a1 k
 obtain ⟨ih0, ih1⟩ := spec_SignAt.mono_l k
 unfold spec_SignAt.f
 repeat' first | (with_reducible first | apply ih0 | apply ih1 | apply LeO.refl | apply LeO.none | refine LeO.ite ?_ ?_ | refine LeO.bind ?_ (fun _ => ?_)) | apply ih0 | apply ih1 | apply LeO.none | refine LeO.ite ?_ ?_ | refine LeO.bind ?_ (fun _ => ?_)
set_option maxHeartbeats 8000000 in
set_option maxRecDepth 100000 in
theorem spec_SignAt.calls (k : Nat) (a0 : ByteArray) (a1 : Int) (r : ByteArray) (w : World) (h : spec_SignAt.f k a0 a1 = some r) :
  Calls Tryd.prog 8 #[.string a0, .int .i64 a1] w fun e w' => e = .returned (.string r) ∧ Below w.heap.size w w' := by
 have HB := am (Below.refl w.heap.size w)
 have H : (if a1 < 0 then (spec_SignAt.j0 k a0 a1 true) else (spec_SignAt.j0 k a0 a1 (decide (a1 ≥ (a0.size : Int))))) = some r := h
 clear h
 have HC3 := am H
 clear H
 go_enter Tryd.func8, Tryd.ntmps8
 go_upto_region 1 with (fail)
 repeat (go_quiet (fail); go_upto_region 1 with (fail))
 go_cut [15] (fun v15 wc => ∃ (kq : Nat) (x15_2 : Bool), v15 = .bool x15_2 ∧ Aside0 (spec_SignAt.j0 kq a0 a1 x15_2 = some r) ∧ Aside0 (kq ≤ k) ∧ Aside0 (Below w.heap.size w wc))
 case first =>
  have H := HC3.out
  clear HC3
  by_cases c4 : a1 < 0
  ·rw [if_pos c4] at H
   have c4b0 := dT c4
   clear c4
   (first | rw [c4b0] | (simp only [i64_w, i32_w]; rw [c4b0]) | skip)
   have H' := am H
   clear H
   go_wp2
   repeat (go_quiet (fail); try go_wp2)
   go_meet
   case rel => exact ⟨_, (true), ey, H', ⟨by first | omega | exact Nat.le_refl _⟩, ⟨YA HB⟩⟩
  rw [if_neg c4] at H
  have c4b0 := dF c4
  clear c4
  (first | rw [c4b0] | (simp only [i64_w, i32_w]; rw [c4b0]) | skip)
  have H' := am H
  clear H
  go_wp2
  repeat (go_quiet (fail); try go_wp2)
  go_meet
  case rel => exact ⟨_, (decide (a1 ≥ (a0.size : Int))), ey, H', ⟨by first | omega | exact Nat.le_refl _⟩, ⟨YA HB⟩⟩
 case rest =>
  clear HC3
  obtain ⟨kq, x15_2, rfl, HA, HJ2, HB⟩ := hcut
  cases kq with
  | zero => exact absurd HA.out (by simp [spec_SignAt.j0])
  | succ kj2 =>
   have H := HA.out
   clear HA
   simp only [spec_SignAt.j0] at H
   by_cases c5 : x15_2 = true
   ·subst c5
    rw [if_pos rfl] at H
    obtain rfl := Option.some.inj H
    go_wp2
    repeat (go_quiet (fail); try go_wp2)
    go_ret
    exact ⟨ez, YA HB⟩
   replace c5 := Bool.eq_false_iff.mpr c5
   subst c5
   rw [if_neg (show ¬ (false = true) by decide)] at H
   replace H := Option.bind_eq_some_iff.mp H
   obtain ⟨t104, A60, H⟩ := H
   try dsimp only at H
   have A6 := am A60
   clear A60
   have H' := am H
   clear H
   go_wp2_with (first | (go_at_call 22; (with_reducible refine (spec_l2Signs.calls  t104 _ A6.out).mono ?_); rintro e w7 ⟨v105, rfl, ho0, hb⟩; have HO106 := am (Kd.R_lower ho0 (below_size (YA HB))); replace HB := am (below_step (YA HB) hb); (try clear hb); (try clear ho0)))
   repeat (go_quiet (first | (go_at_call 22; (with_reducible refine (spec_l2Signs.calls  t104 _ A6.out).mono ?_); rintro e w7 ⟨v105, rfl, ho0, hb⟩; have HO106 := am (Kd.R_lower ho0 (below_size (YA HB))); replace HB := am (below_step (YA HB) hb); (try clear hb); (try clear ho0))); try go_wp2_with (first | (go_at_call 22; (with_reducible refine (spec_l2Signs.calls  t104 _ A6.out).mono ?_); rintro e w7 ⟨v105, rfl, ho0, hb⟩; have HO106 := am (Kd.R_lower ho0 (below_size (YA HB))); replace HB := am (below_step (YA HB) hb); (try clear hb); (try clear ho0))))
   go_loopg [6] kj2 (fun kq v6 w' => ∃ (x6_2 : Int), v6 = .int .i64 x6_2 ∧ Aside0 (spec_SignAt.l0 kq a0 a1 t104 x6_2 = some r) ∧ Aside0 (kq ≤ kj2) ∧ Aside0 (Kd.R Kd.string 9 w' w.heap.size (fun _ => True) v105 t104) ∧ Aside0 (Below w.heap.size w w'))
   case atStart => exact ⟨(0), ey, H', ⟨Nat.le_refl _⟩, ⟨by exact RZ HO106⟩, ⟨YA HB⟩⟩
   case round =>
    clear H'
    try clear c5
    obtain ⟨x6_2, rfl, HA, HK2, HO_5, HB⟩ := hrel
    cases gk with
    | zero => exact absurd HA.out (by simp [spec_SignAt.l0])
    | succ k2 =>
     have H := HA.out
     clear HA
     simp only [spec_SignAt.l0] at H
     by_cases c8 : x6_2 < (t104.length : Int)
     rotate_left
     ·rw [if_neg c8] at H
      have c8b0 := dF c8
      clear c8
      obtain rfl := Option.some.inj H
      obtain ⟨Ao18, co18, eo18⟩ := Kd.R_slice HO_5.out
      subst eo18
      go_wp2
      repeat (go_quiet (fail); try go_wp2)
      go_ret
      exact ⟨ez, YA HB⟩
     rw [if_pos c8] at H
     have c8b0 := dT c8
     clear c8
     by_cases c9 : 0 ≤ x6_2
     rotate_left
     ·rw [if_neg c9] at H
      exact absurd H (by simp)
     rw [if_pos c9] at H
     have c9b0 := dT c9
     clear c9
     by_cases c10 : ((rdOf ByteArray.empty t104 x6_2).size : Int) ≤ (wrap64 ((a0.size : Int) - a1))
     rotate_left
     ·rw [if_neg c10] at H
      have c10b0 := dF c10
      clear c10
      have H' := am H
      clear H
      obtain ⟨Ao17, co17, eo17⟩ := Kd.R_slice HO_5.out
      subst eo17
      have p107 : 0 ≤ (x6_2 : Int) := oz
      have q107 : x6_2 < (t104.length : Int) := oz
      obtain ⟨ad107, e107, hx107_0⟩ := Kd.at_string (Kd.R_reads' HO_5.out).2.2 x6_2 p107 q107
      cases e107
      replace p107 := eq_true p107
      replace q107 := eq_true q107
      go_wp2
      repeat (go_quiet (fail); try go_wp2)
      go_roundg k2
      case measure => have := HJ2.out; have := HK2.out; omega
      case rel => exact ⟨(wrap64 (x6_2 + 1)), ey, H', ⟨by have := HJ2.out; have := HK2.out; omega⟩, ⟨by exact RZ HO_5⟩, ⟨YA HB⟩⟩
     rw [if_pos c10] at H
     have c10b0 := dT c10
     clear c10
     by_cases c11 : 0 ≤ a1
     rotate_left
     ·rw [if_neg c11] at H
      exact absurd H (by simp)
     rw [if_pos c11] at H
     have c11b0 := eq_true c11
     have c11b1 := dT c11
     clear c11
     by_cases c12 : a1 ≤ (wrap64 (a1 + ((rdOf ByteArray.empty t104 x6_2).size : Int)))
     rotate_left
     ·rw [if_neg c12] at H
      exact absurd H (by simp)
     rw [if_pos c12] at H
     have c12b0 := eq_true c12
     have c12b1 := dT c12
     by_cases c13 : (wrap64 (a1 + ((rdOf ByteArray.empty t104 x6_2).size : Int))) ≤ (a0.size : Int)
     rotate_left
     ·rw [if_neg c13] at H
      exact absurd H (by simp)
     rw [if_pos c13] at H
     have c13b0 := eq_true c13
     have c13b1 := dT c13
     by_cases c14 : (a0.extract (a1 : Int).toNat ((wrap64 (a1 + ((rdOf ByteArray.empty t104 x6_2).size : Int))) : Int).toNat).toList = (rdOf ByteArray.empty t104 x6_2).toList
     rotate_left
     ·rw [if_neg c14] at H
      have c14b0 := eF c14
      have c14b1 := nT c14
      have H' := am H
      clear H
      obtain ⟨Ao16, co16, eo16⟩ := Kd.R_slice HO_5.out
      subst eo16
      have p107 : 0 ≤ (x6_2 : Int) := oz
      have q107 : x6_2 < (t104.length : Int) := oz
      obtain ⟨ad107, e107, hx107_0⟩ := Kd.at_string (Kd.R_reads' HO_5.out).2.2 x6_2 p107 q107
      cases e107
      replace p107 := eq_true p107
      replace q107 := eq_true q107
      have p108 : 0 ≤ (x6_2 : Int) := oz
      have q108 : x6_2 < (t104.length : Int) := oz
      obtain ⟨ad108, e108, hx108_0⟩ := Kd.at_string (Kd.R_reads' HO_5.out).2.2 x6_2 p108 q108
      obtain rfl : ad107 = ad108 := (by injection e108)
      replace p108 := eq_true p108
      replace q108 := eq_true q108
      go_wp2
      repeat (go_quiet (fail); try go_wp2)
      go_roundg k2
      case measure => have := HJ2.out; have := HK2.out; omega
      case rel => exact ⟨(wrap64 (x6_2 + 1)), ey, H', ⟨by have := HJ2.out; have := HK2.out; omega⟩, ⟨by exact RZ HO_5⟩, ⟨YA HB⟩⟩
     rw [if_pos c14] at H
     have c14b0 := eT c14
     have c14b1 := nF c14
     clear c14
     obtain rfl := Option.some.inj H
     obtain ⟨Ao15, co15, eo15⟩ := Kd.R_slice HO_5.out
     subst eo15
     have p107 : 0 ≤ (x6_2 : Int) := oz
     have q107 : x6_2 < (t104.length : Int) := oz
     obtain ⟨ad107, e107, hx107_0⟩ := Kd.at_string (Kd.R_reads' HO_5.out).2.2 x6_2 p107 q107
     cases e107
     replace p107 := eq_true p107
     replace q107 := eq_true q107
     have p108 : 0 ≤ (x6_2 : Int) := oz
     have q108 : x6_2 < (t104.length : Int) := oz
     obtain ⟨ad108, e108, hx108_0⟩ := Kd.at_string (Kd.R_reads' HO_5.out).2.2 x6_2 p108 q108
     obtain rfl : ad107 = ad108 := (by injection e108)
     replace p108 := eq_true p108
     replace q108 := eq_true q108
     have p109 : 0 ≤ (x6_2 : Int) := oz
     have q109 : x6_2 < (t104.length : Int) := oz
     obtain ⟨ad109, e109, hx109_0⟩ := Kd.at_string (Kd.R_reads' HO_5.out).2.2 x6_2 p109 q109
     obtain rfl : ad107 = ad109 := (by injection e109)
     replace p109 := eq_true p109
     replace q109 := eq_true q109
     go_wp2
     repeat (go_quiet (fail); try go_wp2)
     go_ret
     exact ⟨ez, YA HB⟩

/-! ### spec_l2Letter: function 38 -/
attribute [local go_sem] Go.Proofs.YtnbpgnkplahknaaDoorSet.isSome_setCell
def spec_l2Letter.f (a0 : Int) : Option (Bool) := if a0 ≥ 97 then (some (decide (a0 ≤ 122))) else (some false)
set_option maxHeartbeats 8000000 in
set_option maxRecDepth 100000 in
theorem spec_l2Letter.calls (a0 : Int) (r : Bool) (w : World) (h : spec_l2Letter.f a0 = some r) :
  Calls Tryd.prog 38 #[.int .u8 a0] w fun e w' => e = .returned (.bool r) ∧ Drawn0 w w' := by
 have H : (if a0 ≥ 97 then (some (decide (a0 ≤ 122))) else (some false)) = some r := h
 clear h
 by_cases c2 : a0 ≥ 97
 ·rw [if_pos c2] at H
  have c2b0 := dT c2
  clear c2
  obtain rfl := Option.some.inj H
  go_enter Tryd.func38, Tryd.ntmps38
  go_wp2
  go_ret
  exact ⟨by first | rfl | (simp; done) | (simp [*]; done), by repeat (first | exact Drawn0.refl _ | apply Drawn0.step)⟩
 rw [if_neg c2] at H
 have c2b0 := dF c2
 clear c2
 obtain rfl := Option.some.inj H
 go_enter Tryd.func38, Tryd.ntmps38
 go_wp2
 go_ret
 exact ⟨by first | rfl | (simp; done) | (simp [*]; done), by repeat (first | exact Drawn0.refl _ | apply Drawn0.step)⟩

/-! ### spec_l2Digit: function 41 -/
attribute [local go_sem] Go.Proofs.YtnbpgnkplahknaaDoorSet.isSome_setCell
def spec_l2Digit.f (a0 : Int) : Option (Bool) := if a0 ≥ 48 then (some (decide (a0 ≤ 57))) else (some false)
set_option maxHeartbeats 8000000 in
set_option maxRecDepth 100000 in
theorem spec_l2Digit.calls (a0 : Int) (r : Bool) (w : World) (h : spec_l2Digit.f a0 = some r) :
  Calls Tryd.prog 41 #[.int .u8 a0] w fun e w' => e = .returned (.bool r) ∧ Drawn0 w w' := by
 have H : (if a0 ≥ 48 then (some (decide (a0 ≤ 57))) else (some false)) = some r := h
 clear h
 by_cases c2 : a0 ≥ 48
 ·rw [if_pos c2] at H
  have c2b0 := dT c2
  clear c2
  obtain rfl := Option.some.inj H
  go_enter Tryd.func41, Tryd.ntmps41
  go_wp2
  go_ret
  exact ⟨by first | rfl | (simp; done) | (simp [*]; done), by repeat (first | exact Drawn0.refl _ | apply Drawn0.step)⟩
 rw [if_neg c2] at H
 have c2b0 := dF c2
 clear c2
 obtain rfl := Option.some.inj H
 go_enter Tryd.func41, Tryd.ntmps41
 go_wp2
 go_ret
 exact ⟨by first | rfl | (simp; done) | (simp [*]; done), by repeat (first | exact Drawn0.refl _ | apply Drawn0.step)⟩

/-! ### spec_l2Run: function 39 -/
attribute [local go_sem] Go.Proofs.YtnbpgnkplahknaaDoorSet.isSome_setCell
def spec_l2Run.l0 : Nat → ByteArray → Int → Option (Int)
 | 0, _, _ => none
 | k + 1, x0, x1 => if x1 < (x0.size : Int) then (if 0 ≤ x1 then ((spec_l2Letter.f (bt x0 x1)).bind fun t110 => (if t110 = true then (spec_l2Run.l0 k x0 (wrap64 (x1 + 1))) else ((spec_l2Digit.f (bt x0 x1)).bind fun t111 => (if t111 = true then (spec_l2Run.l0 k x0 (wrap64 (x1 + 1))) else (some x1))))) else (none)) else (some x1)
def spec_l2Run.f (k : Nat) (a0 : ByteArray) (a1 : Int) : Option (Int) := spec_l2Run.l0 k a0 a1
theorem spec_l2Run.mono_l : ∀ k, (∀ y0 y1, LeO (spec_l2Run.l0 k y0 y1) (spec_l2Run.l0 (k + 1) y0 y1))
 | 0 => fun _ _ r h => by simp [spec_l2Run.l0] at h
 | k + 1 => by
  have ih0 := spec_l2Run.mono_l k
  ·intro y0 y1
   unfold spec_l2Run.l0
   repeat' first | (with_reducible first | apply ih0 | apply LeO.refl | apply LeO.none | refine LeO.ite ?_ ?_ | refine LeO.bind ?_ (fun _ => ?_)) | apply ih0 | apply LeO.none | refine LeO.ite ?_ ?_ | refine LeO.bind ?_ (fun _ => ?_)
theorem spec_l2Run.mono : ∀ a0 a1 k, LeO (spec_l2Run.f k a0 a1) (spec_l2Run.f (k + 1) a0 a1) := by
 intro a0 a1 k
 have ih0 := spec_l2Run.mono_l k
 unfold spec_l2Run.f
 repeat' first | (with_reducible first | apply ih0 | apply LeO.refl | apply LeO.none | refine LeO.ite ?_ ?_ | refine LeO.bind ?_ (fun _ => ?_)) | apply ih0 | apply LeO.none | refine LeO.ite ?_ ?_ | refine LeO.bind ?_ (fun _ => ?_)
set_option maxHeartbeats 8000000 in
set_option maxRecDepth 100000 in
theorem spec_l2Run.calls (k : Nat) (a0 : ByteArray) (a1 : Int) (r : Int) (w : World) (h : spec_l2Run.f k a0 a1 = some r) :
  Calls Tryd.prog 39 #[.string a0, .int .i64 a1] w fun e w' => e = .returned (.int .i64 r) ∧ Drawn0 w w' := by
 have H : (spec_l2Run.l0 k a0 a1) = some r := h
 clear h
 have H' := am H
 clear H
 go_enter Tryd.func39, Tryd.ntmps39
 go_wp2
 go_loopg [1] k (fun kq v1 w' => ∃ (x1_1 : Int), v1 = .int .i64 x1_1 ∧ Aside0 (spec_l2Run.l0 kq a0 x1_1 = some r) ∧ Aside0 (kq ≤ k) ∧ Drawn0 w w')
 case atStart => exact ⟨(a1), ey, H', ⟨Nat.le_refl _⟩, by repeat (first | exact Drawn0.refl _ | apply Drawn0.step)⟩
 case round =>
  clear H'
  obtain ⟨x1_1, rfl, HA, HK1, ⟨m1, rfl⟩⟩ := hrel
  cases gk with
  | zero => exact absurd HA.out (by simp [spec_l2Run.l0])
  | succ k1 =>
   have H := HA.out
   clear HA
   simp only [spec_l2Run.l0] at H
   by_cases c3 : x1_1 < (a0.size : Int)
   rotate_left
   ·rw [if_neg c3] at H
    have c3b0 := dF c3
    clear c3
    obtain rfl := Option.some.inj H
    go_wp2
    go_ret
    exact ⟨by first | rfl | (simp; done) | (simp [*]; done), by repeat (first | exact Drawn0.refl _ | apply Drawn0.step)⟩
   rw [if_pos c3] at H
   have c3b0 := dT c3
   clear c3
   by_cases c4 : 0 ≤ x1_1
   rotate_left
   ·rw [if_neg c4] at H
    exact absurd H (by simp)
   rw [if_pos c4] at H
   have c4b0 := dT c4
   clear c4
   replace H := Option.bind_eq_some_iff.mp H
   obtain ⟨t110, A60, H⟩ := H
   try dsimp only at H
   have A6 := am A60
   clear A60
   by_cases c7 : t110 = true
   ·subst c7
    rw [if_pos rfl] at H
    have H' := am H
    clear H
    have p5 : 0 ≤ (x1_1 : Int) := oz
    have q5 : x1_1 < (a0.size : Int) := oz
    have hx5 := bt_at a0 x1_1
    replace p5 := eq_true p5
    replace q5 := eq_true q5
    go_wp2_with (first | (go_at_call 38; (with_reducible refine (spec_l2Letter.calls (bt a0 x1_1) true _ A6.out).mono ?_); rintro e w' ⟨rfl, ⟨nd, rfl⟩⟩))
    go_roundg k1
    case measure => have := HK1.out; omega
    case rel => exact ⟨(wrap64 (x1_1 + 1)), ey, H', ⟨by have := HK1.out; omega⟩, by repeat (first | exact Drawn0.refl _ | apply Drawn0.step)⟩
   replace c7 := Bool.eq_false_iff.mpr c7
   subst c7
   rw [if_neg (show ¬ (false = true) by decide)] at H
   replace H := Option.bind_eq_some_iff.mp H
   obtain ⟨t111, A90, H⟩ := H
   try dsimp only at H
   have A9 := am A90
   clear A90
   by_cases c10 : t111 = true
   ·subst c10
    rw [if_pos rfl] at H
    have H' := am H
    clear H
    have p5 : 0 ≤ (x1_1 : Int) := oz
    have q5 : x1_1 < (a0.size : Int) := oz
    have hx5 := bt_at a0 x1_1
    replace p5 := eq_true p5
    replace q5 := eq_true q5
    go_wp2_with (first | (go_at_call 38; (with_reducible refine (spec_l2Letter.calls (bt a0 x1_1) false _ A6.out).mono ?_); rintro e w' ⟨rfl, ⟨nd, rfl⟩⟩; have p8 : 0 ≤ (x1_1 : Int) := oz; have q8 : x1_1 < (a0.size : Int) := oz; have hx8 := bt_at a0 x1_1; replace p8 := eq_true p8; replace q8 := eq_true q8) | (go_at_call 41; (with_reducible refine (spec_l2Digit.calls (bt a0 x1_1) true _ A9.out).mono ?_); rintro e w' ⟨rfl, ⟨nd, rfl⟩⟩))
    go_roundg k1
    case measure => have := HK1.out; omega
    case rel => exact ⟨(wrap64 (x1_1 + 1)), ey, H', ⟨by have := HK1.out; omega⟩, by repeat (first | exact Drawn0.refl _ | apply Drawn0.step)⟩
   replace c10 := Bool.eq_false_iff.mpr c10
   subst c10
   rw [if_neg (show ¬ (false = true) by decide)] at H
   obtain rfl := Option.some.inj H
   have p5 : 0 ≤ (x1_1 : Int) := oz
   have q5 : x1_1 < (a0.size : Int) := oz
   have hx5 := bt_at a0 x1_1
   replace p5 := eq_true p5
   replace q5 := eq_true q5
   go_wp2_with (first | (go_at_call 38; (with_reducible refine (spec_l2Letter.calls (bt a0 x1_1) false _ A6.out).mono ?_); rintro e w' ⟨rfl, ⟨nd, rfl⟩⟩; have p8 : 0 ≤ (x1_1 : Int) := oz; have q8 : x1_1 < (a0.size : Int) := oz; have hx8 := bt_at a0 x1_1; replace p8 := eq_true p8; replace q8 := eq_true q8) | (go_at_call 41; (with_reducible refine (spec_l2Digit.calls (bt a0 x1_1) false _ A9.out).mono ?_); rintro e w' ⟨rfl, ⟨nd, rfl⟩⟩))
   go_ret
   exact ⟨by first | rfl | (simp; done) | (simp [*]; done), by repeat (first | exact Drawn0.refl _ | apply Drawn0.step)⟩

end Go.Proofs.YtnbpgnkplahknaaDoor.PFnLexBack
