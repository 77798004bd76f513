/- Written by this session's own driver (wip/dprint.py): the functions that the law FnExactValWiden reaches, as Lean functions, each with its contract. -/
import Derived.Test.YtnmccgjdnceheaaPFnExactValWidenx0
import Derived.Test.YtnmccgjdnceheaaSv
namespace Go.Proofs.Ytnmccgjdnceheaa.PFnExactValWiden
open Go.RowKit Go.Proofs.YtnmccgjdnceheaaV.PrintWords Go.Proofs.YtnmccgjdnceheaaV.PrintLast Go.Proofs.YtnmccgjdnceheaaV.PrintMore Go.Proofs.YtnmccgjdnceheaaSv
attribute [local go_sem] max2_int min2_int max_two min_two max_three min_three max_four min_four   -- for this text's walks alone
set_option linter.unusedVariables false
set_option linter.unusedSimpArgs false

/-! ### spec_l8Down: function 138 -/
def spec_l8Down.l0 : Nat → List Int → Int → Int → Int → Option (Int)
 | 0, _, _, _, _ => none
 | k + 1, x0, x1, x5, x6 => if x6 < (x0.length : Int) then (if 0 ≤ x6 then (if (rd x0 x6) ≤ x1 then (if (rd x0 x6) > x5 then (spec_l8Down.l0 k x0 x1 (rd x0 x6) (wrap64 (x6 + 1))) else (spec_l8Down.l0 k x0 x1 x5 (wrap64 (x6 + 1)))) else (spec_l8Down.l0 k x0 x1 x5 (wrap64 (x6 + 1)))) else (none)) else (some x5)
def spec_l8Down.f (k : Nat) (l0 : List Int) (a1 : Int) : Option (Int) := spec_l8Down.l0 k l0 a1 (-2147483648) 0
theorem spec_l8Down.mono_l : ∀ k, (∀ y0 y1 y2 y3, LeO (spec_l8Down.l0 k y0 y1 y2 y3) (spec_l8Down.l0 (k + 1) y0 y1 y2 y3))
 | 0 => fun _ _ _ _ r h => by simp [spec_l8Down.l0] at h
 | k + 1 => by
  have ih0 := spec_l8Down.mono_l k
  ·intro y0 y1 y2 y3
   unfold spec_l8Down.l0
   repeat' first
   | (with_reducible exact ih0 _ _ _ _)
   | (with_reducible exact LeO.refl _)
   | (with_reducible exact LeO.none _)
   | (with_reducible refine LeO.ite ?_ ?_)
   | (with_reducible refine LeO.bind ?_ (fun _ => ?_))
   | exact ih0 _ _ _ _
   | exact LeO.none _
   | refine LeO.ite ?_ ?_
   | refine LeO.bind ?_ (fun _ => ?_)
theorem spec_l8Down.mono : ∀ a0 a1 k, LeO (spec_l8Down.f k a0 a1) (spec_l8Down.f (k + 1) a0 a1) := by
 intro a0 a1 k
 have ih0 := spec_l8Down.mono_l k
 unfold spec_l8Down.f
 repeat' first
   | (with_reducible exact ih0 _ _ _ _)
   | (with_reducible exact LeO.refl _)
   | (with_reducible exact LeO.none _)
   | (with_reducible refine LeO.ite ?_ ?_)
   | (with_reducible refine LeO.bind ?_ (fun _ => ?_))
   | exact ih0 _ _ _ _
   | exact LeO.none _
   | refine LeO.ite ?_ ?_
   | refine LeO.bind ?_ (fun _ => ?_)
set_option maxHeartbeats 8000000 in
set_option maxRecDepth 100000 in
theorem spec_l8Down.calls (k : Nat) (A0 : Option Addr) (c0 : Nat) (l0 : List Int) (a1 : Int) (r : Int) (w : World) (hr0 : Kd.C (Kd.int .i64) w A0 l0.length l0) (hc0 : l0.length ≤ c0) (h : spec_l8Down.f k l0 a1 = some r) :
  Calls Try.prog 138 #[.slice A0 l0.length c0, .int .i64 a1] w fun e w' => e = .returned (.int .i64 r) ∧ Drawn0 w w' := by
 have HR0 := am hr0
 have HC0 := am hc0
 clear hr0 hc0
 have H : (spec_l8Down.l0 k l0 a1 (-2147483648) 0) = some r := h
 clear h
 have H' := am H
 clear H
 go_enter Try.func138, Try.ntmps138
 go_wp2
 go_loopg [5, 6] k (fun kq v5 v6 w' => ∃ (x5_1 : Int) (x6_1 : Int), v5 = .int .i64 x5_1 ∧ v6 = .int .i64 x6_1 ∧ Aside0 (spec_l8Down.l0 kq l0 a1 x5_1 x6_1 = some r) ∧ Aside0 (kq ≤ k) ∧ Drawn0 w w')
 case atStart => exact ⟨((-2147483648)), (0), (by first | rfl | (simp; done) | (simp [*]; done)), (by first | rfl | (simp; done) | (simp [*]; done)), H', ⟨Nat.le_refl _⟩, by repeat (first | exact Drawn0.refl _ | apply Drawn0.step)⟩
 case round =>
  clear H'
  try clear c1
  try clear p2
  obtain ⟨x5_1, x6_1, rfl, rfl, HA, HK1, ⟨m1, rfl⟩⟩ := hrel
  cases gk with
  | zero => exact absurd HA.out (by simp [spec_l8Down.l0])
  | succ k1 =>
   have H := HA.out
   clear HA
   simp only [spec_l8Down.l0] at H
   by_cases c3 : x6_1 < (l0.length : Int)
   ·rw [if_pos c3] at H
    have c3b0 : decide (x6_1 < (l0.length : Int)) = true := decide_eq_true c3
    clear c3
    by_cases c4 : 0 ≤ x6_1
    ·rw [if_pos c4] at H
     have c4b0 : decide (0 ≤ x6_1) = true := decide_eq_true c4
     clear c4
     by_cases c5 : (rd l0 x6_1) ≤ a1
     ·rw [if_pos c5] at H
      have c5b0 : decide ((rd l0 x6_1) ≤ a1) = true := decide_eq_true c5
      clear c5
      by_cases c6 : (rd l0 x6_1) > x5_1
      ·rw [if_pos c6] at H
       have c6b0 : decide (x5_1 < (rd l0 x6_1)) = true := decide_eq_true c6
       clear c6
       have H' := am H
       clear H
       have p237 : 0 ≤ (x6_1 : Int) := oz
       have q237 : x6_1 < (l0.length : Int) := oz
       obtain ⟨ad237, e237, hx237_0⟩ := Kd.at_int HR0.out x6_1 p237 q237
       cases e237
       replace p237 := eq_true p237
       replace q237 := eq_true q237
       have p238 : 0 ≤ (x6_1 : Int) := oz
       have q238 : x6_1 < (l0.length : Int) := oz
       obtain ⟨ad238, e238, hx238_0⟩ := Kd.at_int HR0.out x6_1 p238 q238
       obtain rfl : ad237 = ad238 := (by injection e238)
       replace p238 := eq_true p238
       replace q238 := eq_true q238
       have p239 : 0 ≤ (x6_1 : Int) := oz
       have q239 : x6_1 < (l0.length : Int) := oz
       obtain ⟨ad239, e239, hx239_0⟩ := Kd.at_int HR0.out x6_1 p239 q239
       obtain rfl : ad237 = ad239 := (by injection e239)
       replace p239 := eq_true p239
       replace q239 := eq_true q239
       go_wp2
       go_roundg k1
       case measure => have := HK1.out; omega
       case rel => exact ⟨(rd l0 x6_1), (wrap64 (x6_1 + 1)), (by first | rfl | (simp; done) | (simp [*]; done)), (by first | rfl | (simp; done) | (simp [*]; done)), H', ⟨by have := HK1.out; omega⟩, by repeat (first | exact Drawn0.refl _ | apply Drawn0.step)⟩
      ·rw [if_neg c6] at H
       have c6b0 : decide (x5_1 < (rd l0 x6_1)) = false := decide_eq_false c6
       clear c6
       have H' := am H
       clear H
       have p237 : 0 ≤ (x6_1 : Int) := oz
       have q237 : x6_1 < (l0.length : Int) := oz
       obtain ⟨ad237, e237, hx237_0⟩ := Kd.at_int HR0.out x6_1 p237 q237
       cases e237
       replace p237 := eq_true p237
       replace q237 := eq_true q237
       have p238 : 0 ≤ (x6_1 : Int) := oz
       have q238 : x6_1 < (l0.length : Int) := oz
       obtain ⟨ad238, e238, hx238_0⟩ := Kd.at_int HR0.out x6_1 p238 q238
       obtain rfl : ad237 = ad238 := (by injection e238)
       replace p238 := eq_true p238
       replace q238 := eq_true q238
       go_wp2
       go_roundg k1
       case measure => have := HK1.out; omega
       case rel => exact ⟨(x5_1), (wrap64 (x6_1 + 1)), (by first | rfl | (simp; done) | (simp [*]; done)), (by first | rfl | (simp; done) | (simp [*]; done)), H', ⟨by have := HK1.out; omega⟩, by repeat (first | exact Drawn0.refl _ | apply Drawn0.step)⟩
     ·rw [if_neg c5] at H
      have c5b0 : decide ((rd l0 x6_1) ≤ a1) = false := decide_eq_false c5
      clear c5
      have H' := am H
      clear H
      have p237 : 0 ≤ (x6_1 : Int) := oz
      have q237 : x6_1 < (l0.length : Int) := oz
      obtain ⟨ad237, e237, hx237_0⟩ := Kd.at_int HR0.out x6_1 p237 q237
      cases e237
      replace p237 := eq_true p237
      replace q237 := eq_true q237
      go_wp2
      go_roundg k1
      case measure => have := HK1.out; omega
      case rel => exact ⟨(x5_1), (wrap64 (x6_1 + 1)), (by first | rfl | (simp; done) | (simp [*]; done)), (by first | rfl | (simp; done) | (simp [*]; done)), H', ⟨by have := HK1.out; omega⟩, by repeat (first | exact Drawn0.refl _ | apply Drawn0.step)⟩
    ·rw [if_neg c4] at H
     exact absurd H (by simp)
   ·rw [if_neg c3] at H
    have c3b0 : decide (x6_1 < (l0.length : Int)) = false := decide_eq_false c3
    clear c3
    obtain rfl := Option.some.inj H
    go_wp2
    go_ret
    exact ⟨by first | rfl | (simp; done) | (simp [*]; done), by repeat (first | exact Drawn0.refl _ | apply Drawn0.step)⟩

/-! ### spec_l8Up: function 139 -/
def spec_l8Up.l0 : Nat → List Int → Int → Int → Int → Option (Int)
 | 0, _, _, _, _ => none
 | k + 1, x0, x1, x5, x6 => if x6 < (x0.length : Int) then (if 0 ≤ x6 then (if (rd x0 x6) ≥ x1 then (if (rd x0 x6) < x5 then (spec_l8Up.l0 k x0 x1 (rd x0 x6) (wrap64 (x6 + 1))) else (spec_l8Up.l0 k x0 x1 x5 (wrap64 (x6 + 1)))) else (spec_l8Up.l0 k x0 x1 x5 (wrap64 (x6 + 1)))) else (none)) else (some x5)
def spec_l8Up.f (k : Nat) (l0 : List Int) (a1 : Int) : Option (Int) := spec_l8Up.l0 k l0 a1 2147483647 0
theorem spec_l8Up.mono_l : ∀ k, (∀ y0 y1 y2 y3, LeO (spec_l8Up.l0 k y0 y1 y2 y3) (spec_l8Up.l0 (k + 1) y0 y1 y2 y3))
 | 0 => fun _ _ _ _ r h => by simp [spec_l8Up.l0] at h
 | k + 1 => by
  have ih0 := spec_l8Up.mono_l k
  ·intro y0 y1 y2 y3
   unfold spec_l8Up.l0
   repeat' first
   | (with_reducible exact ih0 _ _ _ _)
   | (with_reducible exact LeO.refl _)
   | (with_reducible exact LeO.none _)
   | (with_reducible refine LeO.ite ?_ ?_)
   | (with_reducible refine LeO.bind ?_ (fun _ => ?_))
   | exact ih0 _ _ _ _
   | exact LeO.none _
   | refine LeO.ite ?_ ?_
   | refine LeO.bind ?_ (fun _ => ?_)
theorem spec_l8Up.mono : ∀ a0 a1 k, LeO (spec_l8Up.f k a0 a1) (spec_l8Up.f (k + 1) a0 a1) := by
 intro a0 a1 k
 have ih0 := spec_l8Up.mono_l k
 unfold spec_l8Up.f
 repeat' first
   | (with_reducible exact ih0 _ _ _ _)
   | (with_reducible exact LeO.refl _)
   | (with_reducible exact LeO.none _)
   | (with_reducible refine LeO.ite ?_ ?_)
   | (with_reducible refine LeO.bind ?_ (fun _ => ?_))
   | exact ih0 _ _ _ _
   | exact LeO.none _
   | refine LeO.ite ?_ ?_
   | refine LeO.bind ?_ (fun _ => ?_)
set_option maxHeartbeats 8000000 in
set_option maxRecDepth 100000 in
theorem spec_l8Up.calls (k : Nat) (A0 : Option Addr) (c0 : Nat) (l0 : List Int) (a1 : Int) (r : Int) (w : World) (hr0 : Kd.C (Kd.int .i64) w A0 l0.length l0) (hc0 : l0.length ≤ c0) (h : spec_l8Up.f k l0 a1 = some r) :
  Calls Try.prog 139 #[.slice A0 l0.length c0, .int .i64 a1] w fun e w' => e = .returned (.int .i64 r) ∧ Drawn0 w w' := by
 have HR0 := am hr0
 have HC0 := am hc0
 clear hr0 hc0
 have H : (spec_l8Up.l0 k l0 a1 2147483647 0) = some r := h
 clear h
 have H' := am H
 clear H
 go_enter Try.func139, Try.ntmps139
 go_wp2
 go_loopg [5, 6] k (fun kq v5 v6 w' => ∃ (x5_1 : Int) (x6_1 : Int), v5 = .int .i64 x5_1 ∧ v6 = .int .i64 x6_1 ∧ Aside0 (spec_l8Up.l0 kq l0 a1 x5_1 x6_1 = some r) ∧ Aside0 (kq ≤ k) ∧ Drawn0 w w')
 case atStart => exact ⟨(2147483647), (0), (by first | rfl | (simp; done) | (simp [*]; done)), (by first | rfl | (simp; done) | (simp [*]; done)), H', ⟨Nat.le_refl _⟩, by repeat (first | exact Drawn0.refl _ | apply Drawn0.step)⟩
 case round =>
  clear H'
  try clear c1
  try clear p2
  obtain ⟨x5_1, x6_1, rfl, rfl, HA, HK1, ⟨m1, rfl⟩⟩ := hrel
  cases gk with
  | zero => exact absurd HA.out (by simp [spec_l8Up.l0])
  | succ k1 =>
   have H := HA.out
   clear HA
   simp only [spec_l8Up.l0] at H
   by_cases c3 : x6_1 < (l0.length : Int)
   ·rw [if_pos c3] at H
    have c3b0 : decide (x6_1 < (l0.length : Int)) = true := decide_eq_true c3
    clear c3
    by_cases c4 : 0 ≤ x6_1
    ·rw [if_pos c4] at H
     have c4b0 : decide (0 ≤ x6_1) = true := decide_eq_true c4
     clear c4
     by_cases c5 : (rd l0 x6_1) ≥ a1
     ·rw [if_pos c5] at H
      have c5b0 : decide (a1 ≤ (rd l0 x6_1)) = true := decide_eq_true c5
      clear c5
      by_cases c6 : (rd l0 x6_1) < x5_1
      ·rw [if_pos c6] at H
       have c6b0 : decide ((rd l0 x6_1) < x5_1) = true := decide_eq_true c6
       clear c6
       have H' := am H
       clear H
       have p240 : 0 ≤ (x6_1 : Int) := oz
       have q240 : x6_1 < (l0.length : Int) := oz
       obtain ⟨ad240, e240, hx240_0⟩ := Kd.at_int HR0.out x6_1 p240 q240
       cases e240
       replace p240 := eq_true p240
       replace q240 := eq_true q240
       have p241 : 0 ≤ (x6_1 : Int) := oz
       have q241 : x6_1 < (l0.length : Int) := oz
       obtain ⟨ad241, e241, hx241_0⟩ := Kd.at_int HR0.out x6_1 p241 q241
       obtain rfl : ad240 = ad241 := (by injection e241)
       replace p241 := eq_true p241
       replace q241 := eq_true q241
       have p242 : 0 ≤ (x6_1 : Int) := oz
       have q242 : x6_1 < (l0.length : Int) := oz
       obtain ⟨ad242, e242, hx242_0⟩ := Kd.at_int HR0.out x6_1 p242 q242
       obtain rfl : ad240 = ad242 := (by injection e242)
       replace p242 := eq_true p242
       replace q242 := eq_true q242
       go_wp2
       go_roundg k1
       case measure => have := HK1.out; omega
       case rel => exact ⟨(rd l0 x6_1), (wrap64 (x6_1 + 1)), (by first | rfl | (simp; done) | (simp [*]; done)), (by first | rfl | (simp; done) | (simp [*]; done)), H', ⟨by have := HK1.out; omega⟩, by repeat (first | exact Drawn0.refl _ | apply Drawn0.step)⟩
      ·rw [if_neg c6] at H
       have c6b0 : decide ((rd l0 x6_1) < x5_1) = false := decide_eq_false c6
       clear c6
       have H' := am H
       clear H
       have p240 : 0 ≤ (x6_1 : Int) := oz
       have q240 : x6_1 < (l0.length : Int) := oz
       obtain ⟨ad240, e240, hx240_0⟩ := Kd.at_int HR0.out x6_1 p240 q240
       cases e240
       replace p240 := eq_true p240
       replace q240 := eq_true q240
       have p241 : 0 ≤ (x6_1 : Int) := oz
       have q241 : x6_1 < (l0.length : Int) := oz
       obtain ⟨ad241, e241, hx241_0⟩ := Kd.at_int HR0.out x6_1 p241 q241
       obtain rfl : ad240 = ad241 := (by injection e241)
       replace p241 := eq_true p241
       replace q241 := eq_true q241
       go_wp2
       go_roundg k1
       case measure => have := HK1.out; omega
       case rel => exact ⟨(x5_1), (wrap64 (x6_1 + 1)), (by first | rfl | (simp; done) | (simp [*]; done)), (by first | rfl | (simp; done) | (simp [*]; done)), H', ⟨by have := HK1.out; omega⟩, by repeat (first | exact Drawn0.refl _ | apply Drawn0.step)⟩
     ·rw [if_neg c5] at H
      have c5b0 : decide (a1 ≤ (rd l0 x6_1)) = false := decide_eq_false c5
      clear c5
      have H' := am H
      clear H
      have p240 : 0 ≤ (x6_1 : Int) := oz
      have q240 : x6_1 < (l0.length : Int) := oz
      obtain ⟨ad240, e240, hx240_0⟩ := Kd.at_int HR0.out x6_1 p240 q240
      cases e240
      replace p240 := eq_true p240
      replace q240 := eq_true q240
      go_wp2
      go_roundg k1
      case measure => have := HK1.out; omega
      case rel => exact ⟨(x5_1), (wrap64 (x6_1 + 1)), (by first | rfl | (simp; done) | (simp [*]; done)), (by first | rfl | (simp; done) | (simp [*]; done)), H', ⟨by have := HK1.out; omega⟩, by repeat (first | exact Drawn0.refl _ | apply Drawn0.step)⟩
    ·rw [if_neg c4] at H
     exact absurd H (by simp)
   ·rw [if_neg c3] at H
    have c3b0 : decide (x6_1 < (l0.length : Int)) = false := decide_eq_false c3
    clear c3
    obtain rfl := Option.some.inj H
    go_wp2
    go_ret
    exact ⟨by first | rfl | (simp; done) | (simp [*]; done), by repeat (first | exact Drawn0.refl _ | apply Drawn0.step)⟩

end Go.Proofs.Ytnmccgjdnceheaa.PFnExactValWiden
