/- Written by this session's own driver (wip/dprint.py): the functions that the law FnLexBack reaches, as Lean functions, each with its contract. -/
import Derived.Test.YtnbpgnkplahknaaDoorPFnLexBackx0
import Derived.Test.YtnbpgnkplahknaaDoorSq
namespace Go.Proofs.YtnbpgnkplahknaaDoor.PFnLexBack
open Go.RowKit Go.Proofs.YtnbpgnkplahknaaDoorW.PrintWords Go.Proofs.YtnbpgnkplahknaaDoorW.PrintLast Go.Proofs.YtnbpgnkplahknaaDoorW.PrintMore Go.Proofs.YtnbpgnkplahknaaDoorSq
attribute [local go_sem] max2_int min2_int max_two min_two max_three min_three max_four min_four   -- for this text's walks alone
set_option linter.unusedVariables false
set_option linter.unusedSimpArgs false

/-! ### impl_WordOk: function 21 -/
attribute [local go_sem] Go.Proofs.YtnbpgnkplahknaaDoorSet.isSome_setCell
def impl_WordOk.f (a0 : ByteArray) : Option (Bool) := if a0.toList = ([97, 114, 114, 97, 121] : List UInt8) then (some true) else (if a0.toList = ([118, 97, 114] : List UInt8) then (some true) else (if a0.toList = ([114, 101, 102] : List UInt8) then (some true) else (if a0.toList = ([102, 117, 110, 99] : List UInt8) then (some true) else (if a0.toList = ([105, 102] : List UInt8) then (some true) else (if a0.toList = ([101, 108, 115, 101] : List UInt8) then (some true) else (if a0.toList = ([119, 104, 105, 108, 101] : List UInt8) then (some true) else (if a0.toList = ([102, 111, 114] : List UInt8) then (some true) else (if a0.toList = ([114, 101, 97, 100] : List UInt8) then (some true) else (if a0.toList = ([112, 114, 105, 110, 116] : List UInt8) then (some true) else (if a0.toList = ([97, 115, 115, 101, 114, 116] : List UInt8) then (some true) else (if a0.toList = ([115, 116, 111, 112] : List UInt8) then (some true) else (if a0.toList = ([114, 101, 116, 117, 114, 110] : List UInt8) then (some true) else (if a0.toList = ([97, 110, 100] : List UInt8) then (some true) else (if a0.toList = ([111, 114] : List UInt8) then (some true) else (if a0.toList = ([110, 111, 116] : List UInt8) then (some true) else (if a0.toList = ([110, 117, 108, 108] : List UInt8) then (some true) else (some false)))))))))))))))))
set_option maxHeartbeats 8000000 in
set_option maxRecDepth 100000 in
theorem impl_WordOk.calls (a0 : ByteArray) (r : Bool) (w : World) (h : impl_WordOk.f a0 = some r) :
  Calls Tryd.prog 21 #[.string a0] w fun e w' => e = .returned (.bool r) ∧ Drawn0 w w' := by
 have H : (if a0.toList = ([97, 114, 114, 97, 121] : List UInt8) then (some true) else (if a0.toList = ([118, 97, 114] : List UInt8) then (some true) else (if a0.toList = ([114, 101, 102] : List UInt8) then (some true) else (if a0.toList = ([102, 117, 110, 99] : List UInt8) then (some true) else (if a0.toList = ([105, 102] : List UInt8) then (some true) else (if a0.toList = ([101, 108, 115, 101] : List UInt8) then (some true) else (if a0.toList = ([119, 104, 105, 108, 101] : List UInt8) then (some true) else (if a0.toList = ([102, 111, 114] : List UInt8) then (some true) else (if a0.toList = ([114, 101, 97, 100] : List UInt8) then (some true) else (if a0.toList = ([112, 114, 105, 110, 116] : List UInt8) then (some true) else (if a0.toList = ([97, 115, 115, 101, 114, 116] : List UInt8) then (some true) else (if a0.toList = ([115, 116, 111, 112] : List UInt8) then (some true) else (if a0.toList = ([114, 101, 116, 117, 114, 110] : List UInt8) then (some true) else (if a0.toList = ([97, 110, 100] : List UInt8) then (some true) else (if a0.toList = ([111, 114] : List UInt8) then (some true) else (if a0.toList = ([110, 111, 116] : List UInt8) then (some true) else (if a0.toList = ([110, 117, 108, 108] : List UInt8) then (some true) else (some false)))))))))))))))))) = some r := h
 clear h
 by_cases c2 : a0.toList = ([97, 114, 114, 97, 121] : List UInt8)
 ·rw [if_pos c2] at H
  have c2b0 := eT c2
  have c2b1 := nF c2
  clear c2
  obtain rfl := Option.some.inj H
  go_enter Tryd.func21, Tryd.ntmps21
  go_wp2
  go_ret
  exact ⟨by first | rfl | (simp; done) | (simp [*]; done), by repeat (first | exact Drawn0.refl _ | apply Drawn0.step)⟩
 rw [if_neg c2] at H
 have c2b0 := eF c2
 have c2b1 := nT c2
 by_cases c3 : a0.toList = ([118, 97, 114] : List UInt8)
 ·rw [if_pos c3] at H
  have c3b0 := eT c3
  have c3b1 := nF c3
  clear c3
  obtain rfl := Option.some.inj H
  go_enter Tryd.func21, Tryd.ntmps21
  go_wp2
  go_ret
  exact ⟨by first | rfl | (simp; done) | (simp [*]; done), by repeat (first | exact Drawn0.refl _ | apply Drawn0.step)⟩
 rw [if_neg c3] at H
 have c3b0 := eF c3
 have c3b1 := nT c3
 by_cases c4 : a0.toList = ([114, 101, 102] : List UInt8)
 ·rw [if_pos c4] at H
  have c4b0 := eT c4
  have c4b1 := nF c4
  clear c4
  obtain rfl := Option.some.inj H
  go_enter Tryd.func21, Tryd.ntmps21
  go_wp2
  go_ret
  exact ⟨by first | rfl | (simp; done) | (simp [*]; done), by repeat (first | exact Drawn0.refl _ | apply Drawn0.step)⟩
 rw [if_neg c4] at H
 have c4b0 := eF c4
 have c4b1 := nT c4
 by_cases c5 : a0.toList = ([102, 117, 110, 99] : List UInt8)
 ·rw [if_pos c5] at H
  have c5b0 := eT c5
  have c5b1 := nF c5
  clear c5
  obtain rfl := Option.some.inj H
  go_enter Tryd.func21, Tryd.ntmps21
  go_wp2
  go_ret
  exact ⟨by first | rfl | (simp; done) | (simp [*]; done), by repeat (first | exact Drawn0.refl _ | apply Drawn0.step)⟩
 rw [if_neg c5] at H
 have c5b0 := eF c5
 have c5b1 := nT c5
 by_cases c6 : a0.toList = ([105, 102] : List UInt8)
 ·rw [if_pos c6] at H
  have c6b0 := eT c6
  have c6b1 := nF c6
  clear c6
  obtain rfl := Option.some.inj H
  go_enter Tryd.func21, Tryd.ntmps21
  go_wp2
  go_ret
  exact ⟨by first | rfl | (simp; done) | (simp [*]; done), by repeat (first | exact Drawn0.refl _ | apply Drawn0.step)⟩
 rw [if_neg c6] at H
 have c6b0 := eF c6
 have c6b1 := nT c6
 by_cases c7 : a0.toList = ([101, 108, 115, 101] : List UInt8)
 ·rw [if_pos c7] at H
  have c7b0 := eT c7
  have c7b1 := nF c7
  clear c7
  obtain rfl := Option.some.inj H
  go_enter Tryd.func21, Tryd.ntmps21
  go_wp2
  go_ret
  exact ⟨by first | rfl | (simp; done) | (simp [*]; done), by repeat (first | exact Drawn0.refl _ | apply Drawn0.step)⟩
 rw [if_neg c7] at H
 have c7b0 := eF c7
 have c7b1 := nT c7
 by_cases c8 : a0.toList = ([119, 104, 105, 108, 101] : List UInt8)
 ·rw [if_pos c8] at H
  have c8b0 := eT c8
  have c8b1 := nF c8
  clear c8
  obtain rfl := Option.some.inj H
  go_enter Tryd.func21, Tryd.ntmps21
  go_wp2
  go_ret
  exact ⟨by first | rfl | (simp; done) | (simp [*]; done), by repeat (first | exact Drawn0.refl _ | apply Drawn0.step)⟩
 rw [if_neg c8] at H
 have c8b0 := eF c8
 have c8b1 := nT c8
 by_cases c9 : a0.toList = ([102, 111, 114] : List UInt8)
 ·rw [if_pos c9] at H
  have c9b0 := eT c9
  have c9b1 := nF c9
  clear c9
  obtain rfl := Option.some.inj H
  go_enter Tryd.func21, Tryd.ntmps21
  go_wp2
  go_ret
  exact ⟨by first | rfl | (simp; done) | (simp [*]; done), by repeat (first | exact Drawn0.refl _ | apply Drawn0.step)⟩
 rw [if_neg c9] at H
 have c9b0 := eF c9
 have c9b1 := nT c9
 by_cases c10 : a0.toList = ([114, 101, 97, 100] : List UInt8)
 ·rw [if_pos c10] at H
  have c10b0 := eT c10
  have c10b1 := nF c10
  clear c10
  obtain rfl := Option.some.inj H
  go_enter Tryd.func21, Tryd.ntmps21
  go_wp2
  go_ret
  exact ⟨by first | rfl | (simp; done) | (simp [*]; done), by repeat (first | exact Drawn0.refl _ | apply Drawn0.step)⟩
 rw [if_neg c10] at H
 have c10b0 := eF c10
 have c10b1 := nT c10
 by_cases c11 : a0.toList = ([112, 114, 105, 110, 116] : List UInt8)
 ·rw [if_pos c11] at H
  have c11b0 := eT c11
  have c11b1 := nF c11
  clear c11
  obtain rfl := Option.some.inj H
  go_enter Tryd.func21, Tryd.ntmps21
  go_wp2
  go_ret
  exact ⟨by first | rfl | (simp; done) | (simp [*]; done), by repeat (first | exact Drawn0.refl _ | apply Drawn0.step)⟩
 rw [if_neg c11] at H
 have c11b0 := eF c11
 have c11b1 := nT c11
 by_cases c12 : a0.toList = ([97, 115, 115, 101, 114, 116] : List UInt8)
 ·rw [if_pos c12] at H
  have c12b0 := eT c12
  have c12b1 := nF c12
  clear c12
  obtain rfl := Option.some.inj H
  go_enter Tryd.func21, Tryd.ntmps21
  go_wp2
  go_ret
  exact ⟨by first | rfl | (simp; done) | (simp [*]; done), by repeat (first | exact Drawn0.refl _ | apply Drawn0.step)⟩
 rw [if_neg c12] at H
 have c12b0 := eF c12
 have c12b1 := nT c12
 by_cases c13 : a0.toList = ([115, 116, 111, 112] : List UInt8)
 ·rw [if_pos c13] at H
  have c13b0 := eT c13
  have c13b1 := nF c13
  clear c13
  obtain rfl := Option.some.inj H
  go_enter Tryd.func21, Tryd.ntmps21
  go_wp2
  go_ret
  exact ⟨by first | rfl | (simp; done) | (simp [*]; done), by repeat (first | exact Drawn0.refl _ | apply Drawn0.step)⟩
 rw [if_neg c13] at H
 have c13b0 := eF c13
 have c13b1 := nT c13
 by_cases c14 : a0.toList = ([114, 101, 116, 117, 114, 110] : List UInt8)
 ·rw [if_pos c14] at H
  have c14b0 := eT c14
  have c14b1 := nF c14
  clear c14
  obtain rfl := Option.some.inj H
  go_enter Tryd.func21, Tryd.ntmps21
  go_wp2
  go_ret
  exact ⟨by first | rfl | (simp; done) | (simp [*]; done), by repeat (first | exact Drawn0.refl _ | apply Drawn0.step)⟩
 rw [if_neg c14] at H
 have c14b0 := eF c14
 have c14b1 := nT c14
 by_cases c15 : a0.toList = ([97, 110, 100] : List UInt8)
 ·rw [if_pos c15] at H
  have c15b0 := eT c15
  have c15b1 := nF c15
  clear c15
  obtain rfl := Option.some.inj H
  go_enter Tryd.func21, Tryd.ntmps21
  go_wp2
  go_ret
  exact ⟨by first | rfl | (simp; done) | (simp [*]; done), by repeat (first | exact Drawn0.refl _ | apply Drawn0.step)⟩
 rw [if_neg c15] at H
 have c15b0 := eF c15
 have c15b1 := nT c15
 by_cases c16 : a0.toList = ([111, 114] : List UInt8)
 ·rw [if_pos c16] at H
  have c16b0 := eT c16
  have c16b1 := nF c16
  clear c16
  obtain rfl := Option.some.inj H
  go_enter Tryd.func21, Tryd.ntmps21
  go_wp2
  go_ret
  exact ⟨by first | rfl | (simp; done) | (simp [*]; done), by repeat (first | exact Drawn0.refl _ | apply Drawn0.step)⟩
 rw [if_neg c16] at H
 have c16b0 := eF c16
 have c16b1 := nT c16
 by_cases c17 : a0.toList = ([110, 111, 116] : List UInt8)
 ·rw [if_pos c17] at H
  have c17b0 := eT c17
  have c17b1 := nF c17
  clear c17
  obtain rfl := Option.some.inj H
  go_enter Tryd.func21, Tryd.ntmps21
  go_wp2
  go_ret
  exact ⟨by first | rfl | (simp; done) | (simp [*]; done), by repeat (first | exact Drawn0.refl _ | apply Drawn0.step)⟩
 rw [if_neg c17] at H
 have c17b0 := eF c17
 have c17b1 := nT c17
 by_cases c18 : a0.toList = ([110, 117, 108, 108] : List UInt8)
 rotate_left
 ·rw [if_neg c18] at H
  have c18b0 := eF c18
  have c18b1 := nT c18
  obtain rfl := Option.some.inj H
  go_enter Tryd.func21, Tryd.ntmps21
  go_wp2
  go_ret
  exact ⟨by first | rfl | (simp; done) | (simp [*]; done), by repeat (first | exact Drawn0.refl _ | apply Drawn0.step)⟩
 rw [if_pos c18] at H
 have c18b0 := eT c18
 have c18b1 := nF c18
 clear c18
 obtain rfl := Option.some.inj H
 go_enter Tryd.func21, Tryd.ntmps21
 go_wp2
 go_ret
 exact ⟨by first | rfl | (simp; done) | (simp [*]; done), by repeat (first | exact Drawn0.refl _ | apply Drawn0.step)⟩

/-! ### impl_lexLetter: function 44 -/
attribute [local go_sem] Go.Proofs.YtnbpgnkplahknaaDoorSet.isSome_setCell
def impl_lexLetter.f (a0 : Int) : Option (Bool) := if a0 ≥ 97 then (some (decide (a0 ≤ 122))) else (some false)
set_option maxHeartbeats 8000000 in
set_option maxRecDepth 100000 in
theorem impl_lexLetter.calls (a0 : Int) (r : Bool) (w : World) (h : impl_lexLetter.f a0 = some r) :
  Calls Tryd.prog 44 #[.int .u8 a0] w fun e w' => e = .returned (.bool r) ∧ Drawn0 w w' := by
 have H : (if a0 ≥ 97 then (some (decide (a0 ≤ 122))) else (some false)) = some r := h
 clear h
 by_cases c2 : a0 ≥ 97
 ·rw [if_pos c2] at H
  have c2b0 := dT c2
  clear c2
  obtain rfl := Option.some.inj H
  go_enter Tryd.func44, Tryd.ntmps44
  go_wp2
  go_ret
  exact ⟨by first | rfl | (simp; done) | (simp [*]; done), by repeat (first | exact Drawn0.refl _ | apply Drawn0.step)⟩
 rw [if_neg c2] at H
 have c2b0 := dF c2
 clear c2
 obtain rfl := Option.some.inj H
 go_enter Tryd.func44, Tryd.ntmps44
 go_wp2
 go_ret
 exact ⟨by first | rfl | (simp; done) | (simp [*]; done), by repeat (first | exact Drawn0.refl _ | apply Drawn0.step)⟩

/-! ### impl_lexDigit: function 45 -/
attribute [local go_sem] Go.Proofs.YtnbpgnkplahknaaDoorSet.isSome_setCell
def impl_lexDigit.f (a0 : Int) : Option (Bool) := if a0 ≥ 48 then (some (decide (a0 ≤ 57))) else (some false)
set_option maxHeartbeats 8000000 in
set_option maxRecDepth 100000 in
theorem impl_lexDigit.calls (a0 : Int) (r : Bool) (w : World) (h : impl_lexDigit.f a0 = some r) :
  Calls Tryd.prog 45 #[.int .u8 a0] w fun e w' => e = .returned (.bool r) ∧ Drawn0 w w' := by
 have H : (if a0 ≥ 48 then (some (decide (a0 ≤ 57))) else (some false)) = some r := h
 clear h
 by_cases c2 : a0 ≥ 48
 ·rw [if_pos c2] at H
  have c2b0 := dT c2
  clear c2
  obtain rfl := Option.some.inj H
  go_enter Tryd.func45, Tryd.ntmps45
  go_wp2
  go_ret
  exact ⟨by first | rfl | (simp; done) | (simp [*]; done), by repeat (first | exact Drawn0.refl _ | apply Drawn0.step)⟩
 rw [if_neg c2] at H
 have c2b0 := dF c2
 clear c2
 obtain rfl := Option.some.inj H
 go_enter Tryd.func45, Tryd.ntmps45
 go_wp2
 go_ret
 exact ⟨by first | rfl | (simp; done) | (simp [*]; done), by repeat (first | exact Drawn0.refl _ | apply Drawn0.step)⟩

/-! ### strings_Clone: function 46, by hand -/
def strings_Clone.f (a0 : ByteArray) : Option ByteArray := if a0.size ≤ 281474976710656 then some a0 else none
theorem strings_Clone.calls (a0 : ByteArray) (r : ByteArray) (w : World) (h : strings_Clone.f a0 = some r) : Calls Tryd.prog 46 #[.string a0] w fun e w' => e = .returned (.string r) ∧ Below w.heap.size w w' := by
 unfold strings_Clone.f at h
 by_cases c : a0.size ≤ 281474976710656
 rotate_left
 ·rw [if_neg c] at h
  cases h
 rw [if_pos c] at h
 obtain rfl := Option.some.inj h
 exact Base.clone_calls a0 w c

/-! ### strconv_Atoi: function 54, by hand -/
def strconv_Atoi.f (a0 : ByteArray) : Option (Int × Option Int) := if a0.size ≤ 18 then (Go.Lib.atoi a0.data.toList).bind fun n => some (n, none) else none
theorem strconv_Atoi.calls (a0 : ByteArray) (r1 : Int) (r2 : Option Int) (w : World) (h : strconv_Atoi.f a0 = some (r1, r2)) : Calls Tryd.prog 54 #[.string a0] w fun e w' => e = .returned (.tuple #[.int .i64 r1, errW r2]) ∧ Below w.heap.size w w' := by
 unfold strconv_Atoi.f at h
 by_cases c : a0.size ≤ 18
 rotate_left
 ·rw [if_neg c] at h
  cases h
 rw [if_pos c] at h
 obtain ⟨n, h1, h2⟩ := Option.bind_eq_some_iff.mp h
 obtain ⟨rfl, rfl⟩ := Prod.mk.inj (Option.some.inj h2)
 exact Base.atoi_calls a0 n w c h1

/-! ### impl_lexNumber: function 47 -/
attribute [local go_sem] Go.Proofs.YtnbpgnkplahknaaDoorSet.isSome_setCell
def impl_lexNumber.j0 : Nat → ByteArray → Bool → Option (Int × Bool)
 | 0, _, _ => none
 | k + 1, x0, x18 => if x18 = true then (some (0, false)) else ((strconv_Atoi.f x0).bind fun bt141 => (if bt141.2.isNone = true then (if bt141.1 > 2147483647 then (some (0, false)) else (some (bt141.1, true))) else (some (0, false))))
def impl_lexNumber.f (k : Nat) (a0 : ByteArray) : Option (Int × Bool) := if (a0.size : Int) > 1 then (if 0 < (a0.size : Int) then (if (bt a0 0) = 48 then (impl_lexNumber.j0 k a0 true) else (impl_lexNumber.j0 k a0 (decide ((a0.size : Int) > 10)))) else (none)) else (impl_lexNumber.j0 k a0 (decide ((a0.size : Int) > 10)))
theorem impl_lexNumber.mono_l : ∀ k, (∀ y0 y1, LeO (impl_lexNumber.j0 k y0 y1) (impl_lexNumber.j0 (k + 1) y0 y1))
 | 0 => fun _ _ r h => by simp [impl_lexNumber.j0] at h
 | k + 1 => by
  have ih0 := impl_lexNumber.mono_l k
  ·intro y0 y1
   unfold impl_lexNumber.j0
   repeat' first | (with_reducible first | apply ih0 | apply LeO.refl | apply LeO.none | refine LeO.ite ?_ ?_ | refine LeO.bind ?_ (fun _ => ?_)) | apply ih0 | apply LeO.none | refine LeO.ite ?_ ?_ | refine LeO.bind ?_ (fun _ => ?_)
theorem impl_lexNumber.mono : ∀ a0 k, LeO (impl_lexNumber.f k a0) (impl_lexNumber.f (k + 1) a0) := by
 intro a0 k
 have ih0 := impl_lexNumber.mono_l k
 unfold impl_lexNumber.f
 repeat' first | (with_reducible first | apply ih0 | apply LeO.refl | apply LeO.none | refine LeO.ite ?_ ?_ | refine LeO.bind ?_ (fun _ => ?_)) | apply ih0 | apply LeO.none | refine LeO.ite ?_ ?_ | refine LeO.bind ?_ (fun _ => ?_)
set_option maxHeartbeats 8000000 in
set_option maxRecDepth 100000 in
theorem impl_lexNumber.calls (k : Nat) (a0 : ByteArray) (r1 : Int) (r2 : Bool) (w : World) (h : impl_lexNumber.f k a0 = some (r1, r2)) :
  Calls Tryd.prog 47 #[.string a0] w fun e w' => e = .returned (.tuple #[.int .i64 r1, .bool r2]) ∧ Below w.heap.size w w' := by
 have hu73 := Tryd.underlying73
 have HB := am (Below.refl w.heap.size w)
 have H : (if (a0.size : Int) > 1 then (if 0 < (a0.size : Int) then (if (bt a0 0) = 48 then (impl_lexNumber.j0 k a0 true) else (impl_lexNumber.j0 k a0 (decide ((a0.size : Int) > 10)))) else (none)) else (impl_lexNumber.j0 k a0 (decide ((a0.size : Int) > 10)))) = some (r1, r2) := h
 clear h
 have HC2 := am H
 clear H
 go_enter Tryd.func47, Tryd.ntmps47
 go_upto_region 1 with (fail)
 go_cut [18] (fun v18 wc => ∃ (kq : Nat) (x18_1 : Bool), v18 = .bool x18_1 ∧ Aside0 (impl_lexNumber.j0 kq a0 x18_1 = some (r1, r2)) ∧ Aside0 (kq ≤ k) ∧ Aside0 (Below w.heap.size w wc))
 case first =>
  have H := HC2.out
  clear HC2
  by_cases c3 : (a0.size : Int) > 1
  rotate_left
  ·rw [if_neg c3] at H
   have c3b0 := dF c3
   have c3b1 : decide (1 < a0.size) = false := decide_eq_false (by omega)
   clear c3
   (first | rw [c3b0] | (simp only [i64_w, i32_w]; rw [c3b0]) | skip)
   have H' := am H
   clear H
   go_wp2
   go_meet
   case rel => exact ⟨_, (decide ((a0.size : Int) > 10)), ey, H', ⟨by first | omega | exact Nat.le_refl _⟩, ⟨YA HB⟩⟩
  rw [if_pos c3] at H
  have c3b0 := dT c3
  have c3b1 : decide (1 < a0.size) = true := decide_eq_true (by omega)
  clear c3
  (first | rw [c3b0] | (simp only [i64_w, i32_w]; rw [c3b0]) | skip)
  by_cases c4 : 0 < (a0.size : Int)
  rotate_left
  ·rw [if_neg c4] at H
   exact absurd H (by simp)
  rw [if_pos c4] at H
  have c4b0 := dT c4
  have c4b1 : decide (0 < a0.size) = true := decide_eq_true (by omega)
  clear c4
  by_cases c6 : (bt a0 0) = 48
  ·rw [if_pos c6] at H
   have c6b0 := eT c6
   have c6b1 := nF c6
   clear c6
   have H' := am H
   clear H
   have p5 : 0 ≤ (0 : Int) := (by omega)
   have q5 : 0 < a0.size := (by have : (0 : Int) < (a0.size : Int) := oz; omega)
   have hx5 : ∀ h : 0 < a0.size, ((a0[0]'h).toNat : Int) = bt a0 0 := bt_at a0 0
   clear p5
   have qi5 : (0 < (a0.size : Int)) = True := eq_true (oz)
   replace q5 := eq_true q5
   go_wp2
   go_meet
   case rel => exact ⟨_, (true), ey, H', ⟨by first | omega | exact Nat.le_refl _⟩, ⟨YA HB⟩⟩
  rw [if_neg c6] at H
  have c6b0 := eF c6
  have c6b1 := nT c6
  have H' := am H
  clear H
  have p5 : 0 ≤ (0 : Int) := (by omega)
  have q5 : 0 < a0.size := (by have : (0 : Int) < (a0.size : Int) := oz; omega)
  have hx5 : ∀ h : 0 < a0.size, ((a0[0]'h).toNat : Int) = bt a0 0 := bt_at a0 0
  clear p5
  have qi5 : (0 < (a0.size : Int)) = True := eq_true (oz)
  replace q5 := eq_true q5
  go_wp2
  go_meet
  case rel => exact ⟨_, (decide ((a0.size : Int) > 10)), ey, H', ⟨by first | omega | exact Nat.le_refl _⟩, ⟨YA HB⟩⟩
 case rest =>
  clear HC2
  obtain ⟨kq, x18_1, rfl, HA, HJ1, HB⟩ := hcut
  cases kq with
  | zero => exact absurd HA.out (by simp [impl_lexNumber.j0])
  | succ kj1 =>
   have H := HA.out
   clear HA
   simp only [impl_lexNumber.j0] at H
   by_cases c7 : x18_1 = true
   ·subst c7
    rw [if_pos rfl] at H
    simp only [Option.some.injEq, Prod.mk.injEq] at H
    obtain ⟨rfl, rfl⟩ := H
    go_wp2
    go_ret2
    exact ⟨ez, YA HB⟩
   replace c7 := Bool.eq_false_iff.mpr c7
   subst c7
   rw [if_neg (show ¬ (false = true) by decide)] at H
   replace H := Option.bind_eq_some_iff.mp H
   obtain ⟨⟨t141, t142⟩, A80, H⟩ := H
   try dsimp only at H
   have A8 := am A80
   clear A80
   rcases t142 with _ | q143
   rotate_left
   ·have H1 : (some (0, false)) = some (r1, r2) := by rw [if_neg (show ¬ (some q143).isNone = true by simp)] at H; exact H
    clear H
    have H := H1
    clear H1
    try simp only [errW_none, errW_some]
    simp only [Option.some.injEq, Prod.mk.injEq] at H
    obtain ⟨rfl, rfl⟩ := H
    go_wp2_with (first | ((with_reducible refine gate_callee (f := 54) rfl ?_); refine goesL_ (some 21) rfl rfl Tryd.func54 (by kernel_rfl) rfl #[.string a0] rfl mz ?_; (with_reducible refine (strconv_Atoi.calls a0 t141 (some q143) _ A8.out).mono ?_); rintro e w12 ⟨rfl, hb⟩; refine ⟨_, rfl, ?_⟩; replace HB := am (below_step (YA HB) hb); (try clear hb); (try simp only [errW_none, errW_some])))
    go_ret2
    exact ⟨ez, YA HB⟩
   have H1 : (if t141 > 2147483647 then (some (0, false)) else (some (t141, true))) = some (r1, r2) := by rw [if_pos (show (none : Option Int).isNone = true by rfl)] at H; exact H
   clear H
   have H := H1
   clear H1
   try simp only [errW_none, errW_some]
   by_cases c9 : t141 > 2147483647
   ·rw [if_pos c9] at H
    have c9b0 := dT c9
    clear c9
    simp only [Option.some.injEq, Prod.mk.injEq] at H
    obtain ⟨rfl, rfl⟩ := H
    go_wp2_with (first | ((with_reducible refine gate_callee (f := 54) rfl ?_); refine goesL_ (some 21) rfl rfl Tryd.func54 (by kernel_rfl) rfl #[.string a0] rfl mz ?_; (with_reducible refine (strconv_Atoi.calls a0 t141 none _ A8.out).mono ?_); rintro e w10 ⟨rfl, hb⟩; refine ⟨_, rfl, ?_⟩; replace HB := am (below_step (YA HB) hb); (try clear hb); (try simp only [errW_none, errW_some])))
    go_ret2
    exact ⟨ez, YA HB⟩
   rw [if_neg c9] at H
   have c9b0 := dF c9
   clear c9
   simp only [Option.some.injEq, Prod.mk.injEq] at H
   obtain ⟨rfl, rfl⟩ := H
   go_wp2_with (first | ((with_reducible refine gate_callee (f := 54) rfl ?_); refine goesL_ (some 21) rfl rfl Tryd.func54 (by kernel_rfl) rfl #[.string a0] rfl mz ?_; (with_reducible refine (strconv_Atoi.calls a0 t141 none _ A8.out).mono ?_); rintro e w11 ⟨rfl, hb⟩; refine ⟨_, rfl, ?_⟩; replace HB := am (below_step (YA HB) hb); (try clear hb); (try simp only [errW_none, errW_some])))
   go_ret2
   exact ⟨ez, YA HB⟩

end Go.Proofs.YtnbpgnkplahknaaDoor.PFnLexBack
