/- Written by this session's own driver (wip/dprint.py): the functions that the law FnLexBack reaches, as Lean functions, each with its contract. -/
import Derived.Test.YtnbpgnkplahknaaDoorPFnLexBackx0
import Derived.Test.YtnbpgnkplahknaaDoorPFnLexBackx4
import Derived.Test.YtnbpgnkplahknaaDoorSq
namespace Go.Proofs.YtnbpgnkplahknaaDoor.PFnLexBack
open Go.RowKit Go.Proofs.YtnbpgnkplahknaaDoorW.PrintWords Go.Proofs.YtnbpgnkplahknaaDoorW.PrintLast Go.Proofs.YtnbpgnkplahknaaDoorW.PrintMore Go.Proofs.YtnbpgnkplahknaaDoorSq
attribute [local go_sem] max2_int min2_int max_two min_two max_three min_three max_four min_four   -- for this text's walks alone
set_option linter.unusedVariables false
set_option linter.unusedSimpArgs false

/-! ### spec_LexJoin: function 17 -/
attribute [local go_sem] Go.Proofs.YtnbpgnkplahknaaDoorSet.isSome_setCell
mutual
def spec_LexJoin.l0 : Nat → List (S42) → ByteArray → Int → Option (ByteArray × Bool)
 | 0, _, _, _ => none
 | k + 1, x0, x4, x5 => if x5 < (x0.length : Int) then (if 0 ≤ x5 then (if (((rd_T42 x0 x5).f2).size : Int) > 3000 then (some ((⟨#[]⟩ : ByteArray), false)) else (if x5 > 0 then (if x4.size + 1 ≤ 9223372036854775807 then (if (x4 ++ (⟨#[32]⟩ : ByteArray)).size + ((rd_T42 x0 x5).f2).size ≤ 9223372036854775807 then (if (((x4 ++ (⟨#[32]⟩ : ByteArray)) ++ ((rd_T42 x0 x5).f2)).size : Int) > 3000 then (some ((⟨#[]⟩ : ByteArray), false)) else (spec_LexJoin.l0 k x0 ((x4 ++ (⟨#[32]⟩ : ByteArray)) ++ ((rd_T42 x0 x5).f2)) (wrap64 (x5 + 1)))) else (none)) else (none)) else (if x4.size + ((rd_T42 x0 x5).f2).size ≤ 9223372036854775807 then (if ((x4 ++ ((rd_T42 x0 x5).f2)).size : Int) > 3000 then (some ((⟨#[]⟩ : ByteArray), false)) else (spec_LexJoin.l0 k x0 (x4 ++ ((rd_T42 x0 x5).f2)) (wrap64 (x5 + 1)))) else (none)))) else (none)) else ((spec_LexTokens.f k x4).bind fun bt171 => (if bt171.2.1 = 0 then (spec_LexJoin.j1 k x0 x4 bt171.1 ((bt171.1.length : Int) != (x0.length : Int))) else (spec_LexJoin.j1 k x0 x4 bt171.1 true)))
def spec_LexJoin.j1 : Nat → List (S42) → ByteArray → List (S42) → Bool → Option (ByteArray × Bool)
 | 0, _, _, _, _ => none
 | k + 1, x0, x4, x6, x53 => if x53 = true then (some ((⟨#[]⟩ : ByteArray), false)) else (spec_LexJoin.l1 k x0 x4 x6 0)
def spec_LexJoin.l1 : Nat → List (S42) → ByteArray → List (S42) → Int → Option (ByteArray × Bool)
 | 0, _, _, _, _ => none
 | k + 1, x0, x4, x6, x8 => if x8 < (x6.length : Int) then (if 0 ≤ x8 then (if x8 < (x0.length : Int) then (if ((rd_T42 x6 x8).f2).toList = ((rd_T42 x0 x8).f2).toList then (if ((rd_T42 x6 x8).f0) = ((rd_T42 x0 x8).f0) then (if ((rd_T42 x6 x8).f3) = ((rd_T42 x0 x8).f3) then (spec_LexJoin.l1 k x0 x4 x6 (wrap64 (x8 + 1))) else (some ((⟨#[]⟩ : ByteArray), false))) else (some ((⟨#[]⟩ : ByteArray), false))) else (some ((⟨#[]⟩ : ByteArray), false))) else (none)) else (none)) else (some (x4, true))
end
def spec_LexJoin.f (k : Nat) (l0 : List (S42)) : Option (ByteArray × Bool) := if (l0.length : Int) > 700 then (some ((⟨#[]⟩ : ByteArray), false)) else (spec_LexJoin.l0 k l0 (⟨#[]⟩ : ByteArray) 0)
theorem spec_LexJoin.mono_l : ∀ k, (∀ y0 y1 y2, LeO (spec_LexJoin.l0 k y0 y1 y2) (spec_LexJoin.l0 (k + 1) y0 y1 y2)) ∧ (∀ y0 y1 y2 y3, LeO (spec_LexJoin.j1 k y0 y1 y2 y3) (spec_LexJoin.j1 (k + 1) y0 y1 y2 y3)) ∧ (∀ y0 y1 y2 y3, LeO (spec_LexJoin.l1 k y0 y1 y2 y3) (spec_LexJoin.l1 (k + 1) y0 y1 y2 y3))
 | 0 => ⟨fun _ _ _ r h => by simp [spec_LexJoin.l0] at h, fun _ _ _ _ r h => by simp [spec_LexJoin.j1] at h, fun _ _ _ _ r h => by simp [spec_LexJoin.l1] at h⟩
 | k + 1 => by
  obtain ⟨ih0, ih1, ih2⟩ := spec_LexJoin.mono_l k
  refine ⟨?_, ?_, ?_⟩ <;> (intros; (first | unfold spec_LexJoin.l0 | unfold spec_LexJoin.j1 | unfold spec_LexJoin.l1); repeat' first | (with_reducible first | apply ih0 | apply ih1 | apply ih2 | apply spec_LexTokens.mono | apply LeO.refl | apply LeO.none | refine LeO.ite ?_ ?_ | refine LeO.bind ?_ (fun _ => ?_)) | apply ih0 | apply ih1 | apply ih2 | apply spec_LexTokens.mono | apply LeO.none | refine LeO.ite ?_ ?_ | refine LeO.bind ?_ (fun _ => ?_))
theorem spec_LexJoin.mono : ∀ a0 k, LeO (spec_LexJoin.f k a0) (spec_LexJoin.f (k + 1) a0) := by
 intro a0 k
 obtain ⟨ih0, ih1, ih2⟩ := spec_LexJoin.mono_l k
 unfold spec_LexJoin.f
 repeat' first | (with_reducible first | apply ih0 | apply ih1 | apply ih2 | apply spec_LexTokens.mono | apply LeO.refl | apply LeO.none | refine LeO.ite ?_ ?_ | refine LeO.bind ?_ (fun _ => ?_)) | apply ih0 | apply ih1 | apply ih2 | apply spec_LexTokens.mono | apply LeO.none | refine LeO.ite ?_ ?_ | refine LeO.bind ?_ (fun _ => ?_)
set_option maxHeartbeats 8000000 in
set_option maxRecDepth 100000 in
theorem spec_LexJoin.calls (k : Nat) (A0 : Option Addr) (c0 : Nat) (l0 : List (S42)) (r1 : ByteArray) (r2 : Bool) (w : World) (hr0 : Kd.C k42 w A0 l0.length l0) (hc0 : l0.length ≤ c0) (h : spec_LexJoin.f k l0 = some (r1, r2)) :
  Calls Tryd.prog 17 #[.slice A0 l0.length c0] w fun e w' => e = .returned (.tuple #[.string r1, .bool r2]) ∧ Below w.heap.size w w' := by
 have hu26 := Tryd.underlying26
 have HR0 := am hr0
 have HC0 := am hc0
 clear hr0 hc0
 have HB := am (Below.refl w.heap.size w)
 have H : (if (l0.length : Int) > 700 then (some ((⟨#[]⟩ : ByteArray), false)) else (spec_LexJoin.l0 k l0 (⟨#[]⟩ : ByteArray) 0)) = some (r1, r2) := h
 clear h
 by_cases c2 : (l0.length : Int) > 700
 ·rw [if_pos c2] at H
  have c2b0 := dT c2
  have c2b1 : decide (700 < l0.length) = true := decide_eq_true (by omega)
  clear c2
  simp only [Option.some.injEq, Prod.mk.injEq] at H
  obtain ⟨rfl, rfl⟩ := H
  go_enter Tryd.func17, Tryd.ntmps17
  go_wp2
  repeat (go_quiet (fail); try go_wp2)
  go_ret2
  exact ⟨ez, YA HB⟩
 rw [if_neg c2] at H
 have c2b0 := dF c2
 have c2b1 : decide (700 < l0.length) = false := decide_eq_false (by omega)
 clear c2
 have H' := am H
 clear H
 go_enter Tryd.func17, Tryd.ntmps17
 go_wp2
 repeat (go_quiet (fail); try go_wp2)
 go_loopg [4, 5] k (fun kq v4 v5 w' => ∃ (x4_1 : ByteArray) (x5_1 : Int), v4 = .string x4_1 ∧ v5 = .int .i64 x5_1 ∧ Aside0 (spec_LexJoin.l0 kq l0 x4_1 x5_1 = some (r1, r2)) ∧ Aside0 (kq ≤ k) ∧ Aside0 (Below w.heap.size w w'))
 case atStart => exact ⟨((⟨#[]⟩ : ByteArray)), (0), ey, ey, H', ⟨Nat.le_refl _⟩, ⟨YA HB⟩⟩
 case round =>
  clear H'
  (try clear c2b0);(try clear c2b1)
  obtain ⟨x4_1, x5_1, rfl, rfl, HA, HK1, HB⟩ := hrel
  cases gk with
  | zero => exact absurd HA.out (by simp [spec_LexJoin.l0])
  | succ k1 =>
   have H := HA.out
   clear HA
   simp only [spec_LexJoin.l0] at H
   by_cases c3 : x5_1 < (l0.length : Int)
   ·rw [if_pos c3] at H
    have c3b0 := dT c3
    clear c3
    by_cases c4 : 0 ≤ x5_1
    rotate_left
    ·rw [if_neg c4] at H
     exact absurd H (by simp)
    rw [if_pos c4] at H
    have c4b0 := dT c4
    clear c4
    by_cases c5 : (((rd_T42 l0 x5_1).f2).size : Int) > 3000
    ·rw [if_pos c5] at H
     have c5b0 := dT c5
     have c5b1 : decide (3000 < ((rd_T42 l0 x5_1).f2).size) = true := decide_eq_true (by omega)
     clear c5
     simp only [Option.some.injEq, Prod.mk.injEq] at H
     obtain ⟨rfl, rfl⟩ := H
     have p168 : 0 ≤ (x5_1 : Int) := oz
     have q168 : x5_1 < (l0.length : Int) := oz
     obtain ⟨ad168, e168, hx168_0, hx168_1, hx168_2, hx168_3⟩ := at_T42 HR0.out x5_1 p168 q168
     cases e168
     replace hx168_0 := (HB.out.cell (World.block_lt_of_cell? w _ hx168_0)).trans hx168_0
     replace hx168_1 := (HB.out.cell (World.block_lt_of_cell? w _ hx168_1)).trans hx168_1
     replace hx168_2 := (HB.out.cell (World.block_lt_of_cell? w _ hx168_2)).trans hx168_2
     replace hx168_3 := (HB.out.cell (World.block_lt_of_cell? w _ hx168_3)).trans hx168_3
     replace p168 := eq_true p168
     replace q168 := eq_true q168
     go_wp2
     repeat (go_quiet (fail); try go_wp2)
     go_ret2
     exact ⟨ez, YA HB⟩
    rw [if_neg c5] at H
    have c5b0 := dF c5
    have c5b1 : decide (3000 < ((rd_T42 l0 x5_1).f2).size) = false := decide_eq_false (by omega)
    clear c5
    by_cases c6 : x5_1 > 0
    rotate_left
    ·rw [if_neg c6] at H
     have c6b0 := dF c6
     clear c6
     by_cases c10 : x4_1.size + ((rd_T42 l0 x5_1).f2).size ≤ 9223372036854775807
     rotate_left
     ·rw [if_neg c10] at H
      exact absurd H (by simp)
     rw [if_pos c10] at H
     have c10b0 := eq_true c10
     have c10b1 := dT c10
     try have c10b2 : (9223372036854775807 < x4_1.size + ((rd_T42 l0 x5_1).f2).size) = False := eq_false (Nat.not_lt.2 c10)
     by_cases c11 : ((x4_1 ++ ((rd_T42 l0 x5_1).f2)).size : Int) > 3000
     ·rw [if_pos c11] at H
      have c11b0 := dT c11
      try (have c11b0e : decide (3000 < (((x4_1).size : Int) + (((rd_T42 l0 x5_1).f2).size : Int))) = true := (by have z_ : (((x4_1 ++ ((rd_T42 l0 x5_1).f2))).size : Int) = ((x4_1).size : Int) + (((rd_T42 l0 x5_1).f2).size : Int) := (by simp only [ByteArray.size_append]; omega); rw [← z_]; exact c11b0))
      have c11b1 : decide (3000 < (x4_1 ++ ((rd_T42 l0 x5_1).f2)).size) = true := decide_eq_true (by omega)
      clear c11
      simp only [Option.some.injEq, Prod.mk.injEq] at H
      obtain ⟨rfl, rfl⟩ := H
      have p168 : 0 ≤ (x5_1 : Int) := oz
      have q168 : x5_1 < (l0.length : Int) := oz
      obtain ⟨ad168, e168, hx168_0, hx168_1, hx168_2, hx168_3⟩ := at_T42 HR0.out x5_1 p168 q168
      cases e168
      replace hx168_0 := (HB.out.cell (World.block_lt_of_cell? w _ hx168_0)).trans hx168_0
      replace hx168_1 := (HB.out.cell (World.block_lt_of_cell? w _ hx168_1)).trans hx168_1
      replace hx168_2 := (HB.out.cell (World.block_lt_of_cell? w _ hx168_2)).trans hx168_2
      replace hx168_3 := (HB.out.cell (World.block_lt_of_cell? w _ hx168_3)).trans hx168_3
      replace p168 := eq_true p168
      replace q168 := eq_true q168
      have p170 : 0 ≤ (x5_1 : Int) := oz
      have q170 : x5_1 < (l0.length : Int) := oz
      obtain ⟨ad170, e170, hx170_0, hx170_1, hx170_2, hx170_3⟩ := at_T42 HR0.out x5_1 p170 q170
      obtain rfl : ad168 = ad170 := (by injection e170)
      replace hx170_0 := (HB.out.cell (World.block_lt_of_cell? w _ hx170_0)).trans hx170_0
      replace hx170_1 := (HB.out.cell (World.block_lt_of_cell? w _ hx170_1)).trans hx170_1
      replace hx170_2 := (HB.out.cell (World.block_lt_of_cell? w _ hx170_2)).trans hx170_2
      replace hx170_3 := (HB.out.cell (World.block_lt_of_cell? w _ hx170_3)).trans hx170_3
      replace p170 := eq_true p170
      replace q170 := eq_true q170
      go_wp2
      repeat (go_quiet (fail); try go_wp2)
      go_ret2
      exact ⟨ez, YA HB⟩
     rw [if_neg c11] at H
     have c11b0 := dF c11
     try (have c11b0e : decide (3000 < (((x4_1).size : Int) + (((rd_T42 l0 x5_1).f2).size : Int))) = false := (by have z_ : (((x4_1 ++ ((rd_T42 l0 x5_1).f2))).size : Int) = ((x4_1).size : Int) + (((rd_T42 l0 x5_1).f2).size : Int) := (by simp only [ByteArray.size_append]; omega); rw [← z_]; exact c11b0))
     have c11b1 : decide (3000 < (x4_1 ++ ((rd_T42 l0 x5_1).f2)).size) = false := decide_eq_false (by omega)
     clear c11
     have H' := am H
     clear H
     have p168 : 0 ≤ (x5_1 : Int) := oz
     have q168 : x5_1 < (l0.length : Int) := oz
     obtain ⟨ad168, e168, hx168_0, hx168_1, hx168_2, hx168_3⟩ := at_T42 HR0.out x5_1 p168 q168
     cases e168
     replace hx168_0 := (HB.out.cell (World.block_lt_of_cell? w _ hx168_0)).trans hx168_0
     replace hx168_1 := (HB.out.cell (World.block_lt_of_cell? w _ hx168_1)).trans hx168_1
     replace hx168_2 := (HB.out.cell (World.block_lt_of_cell? w _ hx168_2)).trans hx168_2
     replace hx168_3 := (HB.out.cell (World.block_lt_of_cell? w _ hx168_3)).trans hx168_3
     replace p168 := eq_true p168
     replace q168 := eq_true q168
     have p170 : 0 ≤ (x5_1 : Int) := oz
     have q170 : x5_1 < (l0.length : Int) := oz
     obtain ⟨ad170, e170, hx170_0, hx170_1, hx170_2, hx170_3⟩ := at_T42 HR0.out x5_1 p170 q170
     obtain rfl : ad168 = ad170 := (by injection e170)
     replace hx170_0 := (HB.out.cell (World.block_lt_of_cell? w _ hx170_0)).trans hx170_0
     replace hx170_1 := (HB.out.cell (World.block_lt_of_cell? w _ hx170_1)).trans hx170_1
     replace hx170_2 := (HB.out.cell (World.block_lt_of_cell? w _ hx170_2)).trans hx170_2
     replace hx170_3 := (HB.out.cell (World.block_lt_of_cell? w _ hx170_3)).trans hx170_3
     replace p170 := eq_true p170
     replace q170 := eq_true q170
     go_wp2
     repeat (go_quiet (fail); try go_wp2)
     go_roundg k1
     case measure => have := HK1.out; omega
     case rel => exact ⟨(x4_1 ++ ((rd_T42 l0 x5_1).f2)), (wrap64 (x5_1 + 1)), ey, ey, H', ⟨by have := HK1.out; omega⟩, ⟨YA HB⟩⟩
    rw [if_pos c6] at H
    have c6b0 := dT c6
    clear c6
    by_cases c7 : x4_1.size + 1 ≤ 9223372036854775807
    rotate_left
    ·rw [if_neg c7] at H
     exact absurd H (by simp)
    rw [if_pos c7] at H
    have c7b0 := eq_true c7
    have c7b1 := dT c7
    try have c7b2 : (9223372036854775807 < x4_1.size + 1) = False := eq_false (Nat.not_lt.2 c7)
    by_cases c8 : (x4_1 ++ (⟨#[32]⟩ : ByteArray)).size + ((rd_T42 l0 x5_1).f2).size ≤ 9223372036854775807
    rotate_left
    ·rw [if_neg c8] at H
     exact absurd H (by simp)
    rw [if_pos c8] at H
    have c8b0 := eq_true c8
    have c8b1 := dT c8
    try (have c8b1e := c8b1; simp only [ByteArray.size_append] at c8b1e)
    try have c8b2 : (9223372036854775807 < (x4_1 ++ (⟨#[32]⟩ : ByteArray)).size + ((rd_T42 l0 x5_1).f2).size) = False := eq_false (Nat.not_lt.2 c8)
    try (have c8b2e := c8b2; simp only [ByteArray.size_append] at c8b2e)
    by_cases c9 : (((x4_1 ++ (⟨#[32]⟩ : ByteArray)) ++ ((rd_T42 l0 x5_1).f2)).size : Int) > 3000
    ·rw [if_pos c9] at H
     have c9b0 := dT c9
     try (have c9b0e : decide (3000 < (((x4_1).size : Int) + 1 + (((rd_T42 l0 x5_1).f2).size : Int))) = true := (by have z_ : ((((x4_1 ++ (⟨#[32]⟩ : ByteArray)) ++ ((rd_T42 l0 x5_1).f2))).size : Int) = ((x4_1).size : Int) + 1 + (((rd_T42 l0 x5_1).f2).size : Int) := (by simp only [ByteArray.size_append]; have l0_ : ((⟨#[32]⟩ : ByteArray)).size = 1 := rfl; omega); rw [← z_]; exact c9b0))
     have c9b1 : decide (3000 < ((x4_1 ++ (⟨#[32]⟩ : ByteArray)) ++ ((rd_T42 l0 x5_1).f2)).size) = true := decide_eq_true (by omega)
     clear c9
     simp only [Option.some.injEq, Prod.mk.injEq] at H
     obtain ⟨rfl, rfl⟩ := H
     have p168 : 0 ≤ (x5_1 : Int) := oz
     have q168 : x5_1 < (l0.length : Int) := oz
     obtain ⟨ad168, e168, hx168_0, hx168_1, hx168_2, hx168_3⟩ := at_T42 HR0.out x5_1 p168 q168
     cases e168
     replace hx168_0 := (HB.out.cell (World.block_lt_of_cell? w _ hx168_0)).trans hx168_0
     replace hx168_1 := (HB.out.cell (World.block_lt_of_cell? w _ hx168_1)).trans hx168_1
     replace hx168_2 := (HB.out.cell (World.block_lt_of_cell? w _ hx168_2)).trans hx168_2
     replace hx168_3 := (HB.out.cell (World.block_lt_of_cell? w _ hx168_3)).trans hx168_3
     replace p168 := eq_true p168
     replace q168 := eq_true q168
     have p169 : 0 ≤ (x5_1 : Int) := oz
     have q169 : x5_1 < (l0.length : Int) := oz
     obtain ⟨ad169, e169, hx169_0, hx169_1, hx169_2, hx169_3⟩ := at_T42 HR0.out x5_1 p169 q169
     obtain rfl : ad168 = ad169 := (by injection e169)
     replace hx169_0 := (HB.out.cell (World.block_lt_of_cell? w _ hx169_0)).trans hx169_0
     replace hx169_1 := (HB.out.cell (World.block_lt_of_cell? w _ hx169_1)).trans hx169_1
     replace hx169_2 := (HB.out.cell (World.block_lt_of_cell? w _ hx169_2)).trans hx169_2
     replace hx169_3 := (HB.out.cell (World.block_lt_of_cell? w _ hx169_3)).trans hx169_3
     replace p169 := eq_true p169
     replace q169 := eq_true q169
     go_wp2
     repeat (go_quiet (fail); try go_wp2)
     go_ret2
     exact ⟨ez, YA HB⟩
    rw [if_neg c9] at H
    have c9b0 := dF c9
    try (have c9b0e : decide (3000 < (((x4_1).size : Int) + 1 + (((rd_T42 l0 x5_1).f2).size : Int))) = false := (by have z_ : ((((x4_1 ++ (⟨#[32]⟩ : ByteArray)) ++ ((rd_T42 l0 x5_1).f2))).size : Int) = ((x4_1).size : Int) + 1 + (((rd_T42 l0 x5_1).f2).size : Int) := (by simp only [ByteArray.size_append]; have l0_ : ((⟨#[32]⟩ : ByteArray)).size = 1 := rfl; omega); rw [← z_]; exact c9b0))
    have c9b1 : decide (3000 < ((x4_1 ++ (⟨#[32]⟩ : ByteArray)) ++ ((rd_T42 l0 x5_1).f2)).size) = false := decide_eq_false (by omega)
    clear c9
    have H' := am H
    clear H
    have p168 : 0 ≤ (x5_1 : Int) := oz
    have q168 : x5_1 < (l0.length : Int) := oz
    obtain ⟨ad168, e168, hx168_0, hx168_1, hx168_2, hx168_3⟩ := at_T42 HR0.out x5_1 p168 q168
    cases e168
    replace hx168_0 := (HB.out.cell (World.block_lt_of_cell? w _ hx168_0)).trans hx168_0
    replace hx168_1 := (HB.out.cell (World.block_lt_of_cell? w _ hx168_1)).trans hx168_1
    replace hx168_2 := (HB.out.cell (World.block_lt_of_cell? w _ hx168_2)).trans hx168_2
    replace hx168_3 := (HB.out.cell (World.block_lt_of_cell? w _ hx168_3)).trans hx168_3
    replace p168 := eq_true p168
    replace q168 := eq_true q168
    have p169 : 0 ≤ (x5_1 : Int) := oz
    have q169 : x5_1 < (l0.length : Int) := oz
    obtain ⟨ad169, e169, hx169_0, hx169_1, hx169_2, hx169_3⟩ := at_T42 HR0.out x5_1 p169 q169
    obtain rfl : ad168 = ad169 := (by injection e169)
    replace hx169_0 := (HB.out.cell (World.block_lt_of_cell? w _ hx169_0)).trans hx169_0
    replace hx169_1 := (HB.out.cell (World.block_lt_of_cell? w _ hx169_1)).trans hx169_1
    replace hx169_2 := (HB.out.cell (World.block_lt_of_cell? w _ hx169_2)).trans hx169_2
    replace hx169_3 := (HB.out.cell (World.block_lt_of_cell? w _ hx169_3)).trans hx169_3
    replace p169 := eq_true p169
    replace q169 := eq_true q169
    go_wp2
    repeat (go_quiet (fail); try go_wp2)
    go_roundg k1
    case measure => have := HK1.out; omega
    case rel => exact ⟨((x4_1 ++ (⟨#[32]⟩ : ByteArray)) ++ ((rd_T42 l0 x5_1).f2)), (wrap64 (x5_1 + 1)), ey, ey, H', ⟨by have := HK1.out; omega⟩, ⟨YA HB⟩⟩
   rw [if_neg c3] at H
   have c3b0 := dF c3
   clear c3
   replace H := Option.bind_eq_some_iff.mp H
   obtain ⟨⟨t171, t174, t175⟩, A120, H⟩ := H
   try dsimp only at H
   have A12 := am A120
   clear A120
   have HC13 := am H
   clear H
   go_upto_region 15 with (first | (go_at_call 10; (with_reducible refine (spec_LexTokens.calls k1 x4_1 t171 t174 t175 _ A12.out).mono ?_); rintro e w14 ⟨v172, rfl, ho0, hb⟩; have HO173 := am (Kd.R_lower ho0 (below_size (YA HB))); replace HB := am (below_step (YA HB) hb); (try clear hb); (try clear ho0)) | ((with_reducible refine gate_dst (N := 7) rfl ?_); (try (refine gate_guard (by rfl) ?_; dsimp only)); refine bx 7 #[.int .i64 0, .int .i64 0] 26 ?_; intro gb176 hg w15 hbox hb; have BK176 := am (hbox); have GW176 := am (bs hg (YA HB)); have GE176 := GW176; replace HO173 := am (Kd.R_below (RZ HO173) hb); replace HB := am (below_step (YA HB) hb); clear hb hbox hg; obtain ⟨hcz16_0,hcz16_1,hfz16_0,hfz16_1⟩ := cB2 BK176))
   try have hcz16_0 := bc BK176 0
   try have hcz16_1 := bc BK176 1
   try have hfz16_0 := blk_frozen BK176.out 0
   try have hfz16_1 := blk_frozen BK176.out 1
   repeat (go_quiet (first | (go_at_call 10; (with_reducible refine (spec_LexTokens.calls k1 x4_1 t171 t174 t175 _ A12.out).mono ?_); rintro e w14 ⟨v172, rfl, ho0, hb⟩; have HO173 := am (Kd.R_lower ho0 (below_size (YA HB))); replace HB := am (below_step (YA HB) hb); (try clear hb); (try clear ho0)) | ((with_reducible refine gate_dst (N := 7) rfl ?_); (try (refine gate_guard (by rfl) ?_; dsimp only)); refine bx 7 #[.int .i64 0, .int .i64 0] 26 ?_; intro gb176 hg w15 hbox hb; have BK176 := am (hbox); have GW176 := am (bs hg (YA HB)); have GE176 := GW176; replace HO173 := am (Kd.R_below (RZ HO173) hb); replace HB := am (below_step (YA HB) hb); clear hb hbox hg; (try (obtain ⟨hcz16_0,hcz16_1,hfz16_0,hfz16_1⟩ := cB2 BK176)))); go_upto_region 15 with (first | (go_at_call 10; (with_reducible refine (spec_LexTokens.calls k1 x4_1 t171 t174 t175 _ A12.out).mono ?_); rintro e w14 ⟨v172, rfl, ho0, hb⟩; have HO173 := am (Kd.R_lower ho0 (below_size (YA HB))); replace HB := am (below_step (YA HB) hb); (try clear hb); (try clear ho0)) | ((with_reducible refine gate_dst (N := 7) rfl ?_); (try (refine gate_guard (by rfl) ?_; dsimp only)); refine bx 7 #[.int .i64 0, .int .i64 0] 26 ?_; intro gb176 hg w15 hbox hb; have BK176 := am (hbox); have GW176 := am (bs hg (YA HB)); have GE176 := GW176; replace HO173 := am (Kd.R_below (RZ HO173) hb); replace HB := am (below_step (YA HB) hb); clear hb hbox hg; (try (obtain ⟨hcz16_0,hcz16_1,hfz16_0,hfz16_1⟩ := cB2 BK176)))))
   (try simp only [Act.put, List.setIfInBounds_toArray, List.set_cons_zero, List.set_cons_succ])
   go_cut [53] (fun v53 wc => ∃ (kq : Nat) (x53_12 : Bool), v53 = .bool x53_12 ∧ Aside0 (spec_LexJoin.j1 kq l0 x4_1 t171 x53_12 = some (r1, r2)) ∧ Aside0 (kq ≤ k1) ∧ Aside0 (Kd.R k42 42 wc w.heap.size (fun _ => True) v172 t171) ∧ Aside0 (wc.heap[gb176]? = some (.cells #[.int .i64 t174, .int .i64 t175] 26 (0, 0))) ∧ Aside0 (Below w.heap.size w wc))
   case first =>
    have H := HC13.out
    clear HC13
    by_cases c17 : t174 = 0
    rotate_left
    ·rw [if_neg c17] at H
     have c17b0 := eF c17
     have c17b1 := nT c17
     (first | rw [c17b0] | (simp only [i64_w, i32_w]; rw [c17b0]) | skip)
     have H' := am H
     clear H
     obtain ⟨hcz20_0,hcz20_1,hfz20_0,hfz20_1⟩ := cB2 BK176
     go_wp2
     repeat (go_quiet (fail); try go_wp2)
     go_meet
     case rel => exact ⟨_, (true), ey, H', ⟨by have := HK1.out; first | omega | exact Nat.le_refl _⟩, ⟨by (with_reducible repeat (first | apply Kd.R_alloc | apply Kd.R_drewN | apply Kd.R_drew)); exact Kd.R_mono (Kd.R_far (p := ⟨gb176, 1, none⟩) (Kd.R_far (p := ⟨gb176, 0, none⟩) (Kd.R_types HO173.out BK176.out (by decide)) (fun _ hk => hk.2) (.int .i64 t174)) (fun _ hk => hk.2) (.int .i64 t175)) (fun _ hk => trivial)⟩, ⟨by refine pf ?_; refine blk_put (cs := #[.int .i64 t174, .int .i64 0]) ?_ 1 _ rfl; refine pf ?_; refine blk_put (cs := #[.int .i64 0, .int .i64 0]) ?_ 0 _ rfl; exact Z BK176⟩, ⟨YA HB⟩⟩
    rw [if_pos c17] at H
    have c17b0 := eT c17
    have c17b1 := nF c17
    clear c17
    (first | rw [c17b0] | (simp only [i64_w, i32_w]; rw [c17b0]) | skip)
    have H' := am H
    clear H
    obtain ⟨hcz18_0,hcz18_1,hfz18_0,hfz18_1⟩ := cB2 BK176
    obtain ⟨Ao19, co19, eo19⟩ := Kd.R_slice HO173.out
    subst eo19
    go_wp2
    repeat (go_quiet (fail); try go_wp2)
    go_meet
    case rel => exact ⟨_, (((t171.length : Int) != (l0.length : Int))), ey, H', ⟨by have := HK1.out; first | omega | exact Nat.le_refl _⟩, ⟨by (with_reducible repeat (first | apply Kd.R_alloc | apply Kd.R_drewN | apply Kd.R_drew)); exact Kd.R_mono (Kd.R_far (p := ⟨gb176, 1, none⟩) (Kd.R_far (p := ⟨gb176, 0, none⟩) (Kd.R_types HO173.out BK176.out (by decide)) (fun _ hk => hk.2) (.int .i64 t174)) (fun _ hk => hk.2) (.int .i64 t175)) (fun _ hk => trivial)⟩, ⟨by refine pf ?_; refine blk_put (cs := #[.int .i64 t174, .int .i64 0]) ?_ 1 _ rfl; refine pf ?_; refine blk_put (cs := #[.int .i64 0, .int .i64 0]) ?_ 0 _ rfl; exact Z BK176⟩, ⟨YA HB⟩⟩
   case rest =>
    clear HC13
    (try clear c3b0);(try clear hcz16_0);(try clear hcz16_1);(try clear hfz16_0);(try clear hfz16_1)
    obtain ⟨kq, x53_12, rfl, HA, HJ12, HO_6, BK176, HB⟩ := hcut
    cases kq with
    | zero => exact absurd HA.out (by simp [spec_LexJoin.j1])
    | succ kj12 =>
     have H := HA.out
     clear HA
     simp only [spec_LexJoin.j1] at H
     by_cases c21 : x53_12 = true
     ·subst c21
      rw [if_pos rfl] at H
      simp only [Option.some.injEq, Prod.mk.injEq] at H
      obtain ⟨rfl, rfl⟩ := H
      go_wp2
      repeat (go_quiet (fail); try go_wp2)
      go_ret2
      exact ⟨ez, YA HB⟩
     replace c21 := Bool.eq_false_iff.mpr c21
     subst c21
     rw [if_neg (show ¬ (false = true) by decide)] at H
     have H' := am H
     clear H
     go_wp2
     repeat (go_quiet (fail); try go_wp2)
     go_loopg [8] kj12 (fun kq v8 w' => ∃ (x8_3 : Int), v8 = .int .i64 x8_3 ∧ Aside0 (spec_LexJoin.l1 kq l0 x4_1 t171 x8_3 = some (r1, r2)) ∧ Aside0 (kq ≤ kj12) ∧ Aside0 (Kd.R k42 42 w' w.heap.size (fun _ => True) v172 t171) ∧ Aside0 (w'.heap[gb176]? = some (.cells #[.int .i64 t174, .int .i64 t175] 26 (0, 0))) ∧ Aside0 (Below w.heap.size w w'))
     case atStart => exact ⟨(0), ey, H', ⟨Nat.le_refl _⟩, ⟨by exact RZ HO_6⟩, ⟨Z BK176⟩, ⟨YA HB⟩⟩
     case round =>
      clear H'
      try clear c21
      obtain ⟨x8_3, rfl, HA, HK3, HO_6, BK176, HB⟩ := hrel
      cases gk with
      | zero => exact absurd HA.out (by simp [spec_LexJoin.l1])
      | succ k3 =>
       have H := HA.out
       clear HA
       simp only [spec_LexJoin.l1] at H
       by_cases c22 : x8_3 < (t171.length : Int)
       rotate_left
       ·rw [if_neg c22] at H
        have c22b0 := dF c22
        clear c22
        simp only [Option.some.injEq, Prod.mk.injEq] at H
        obtain ⟨rfl, rfl⟩ := H
        obtain ⟨Ao32, co32, eo32⟩ := Kd.R_slice HO_6.out
        subst eo32
        go_wp2
        repeat (go_quiet (fail); try go_wp2)
        go_ret2
        exact ⟨ez, YA HB⟩
       rw [if_pos c22] at H
       have c22b0 := dT c22
       clear c22
       by_cases c23 : 0 ≤ x8_3
       rotate_left
       ·rw [if_neg c23] at H
        exact absurd H (by simp)
       rw [if_pos c23] at H
       have c23b0 := dT c23
       clear c23
       by_cases c24 : x8_3 < (l0.length : Int)
       rotate_left
       ·rw [if_neg c24] at H
        exact absurd H (by simp)
       rw [if_pos c24] at H
       have c24b0 := dT c24
       clear c24
       by_cases c25 : ((rd_T42 t171 x8_3).f2).toList = ((rd_T42 l0 x8_3).f2).toList
       rotate_left
       ·rw [if_neg c25] at H
        have c25b0 := eF c25
        have c25b1 := nT c25
        simp only [Option.some.injEq, Prod.mk.injEq] at H
        obtain ⟨rfl, rfl⟩ := H
        obtain ⟨Ao31, co31, eo31⟩ := Kd.R_slice HO_6.out
        subst eo31
        have p177 : 0 ≤ (x8_3 : Int) := oz
        have q177 : x8_3 < (t171.length : Int) := oz
        obtain ⟨ad177, e177, hx177_0, hx177_1, hx177_2, hx177_3⟩ := at_T42 (Kd.R_reads' HO_6.out).2.2 x8_3 p177 q177
        cases e177
        replace p177 := eq_true p177
        replace q177 := eq_true q177
        have p178 : 0 ≤ (x8_3 : Int) := oz
        have q178 : x8_3 < (l0.length : Int) := oz
        obtain ⟨ad178, e178, hx178_0, hx178_1, hx178_2, hx178_3⟩ := at_T42 HR0.out x8_3 p178 q178
        cases e178
        replace hx178_0 := (HB.out.cell (World.block_lt_of_cell? w _ hx178_0)).trans hx178_0
        replace hx178_1 := (HB.out.cell (World.block_lt_of_cell? w _ hx178_1)).trans hx178_1
        replace hx178_2 := (HB.out.cell (World.block_lt_of_cell? w _ hx178_2)).trans hx178_2
        replace hx178_3 := (HB.out.cell (World.block_lt_of_cell? w _ hx178_3)).trans hx178_3
        replace p178 := eq_true p178
        replace q178 := eq_true q178
        go_wp2
        repeat (go_quiet (fail); try go_wp2)
        go_ret2
        exact ⟨ez, YA HB⟩
       rw [if_pos c25] at H
       have c25b0 := eT c25
       have c25b1 := nF c25
       clear c25
       by_cases c26 : ((rd_T42 t171 x8_3).f0) = ((rd_T42 l0 x8_3).f0)
       rotate_left
       ·rw [if_neg c26] at H
        have c26b0 := eF c26
        have c26b1 := nT c26
        simp only [Option.some.injEq, Prod.mk.injEq] at H
        obtain ⟨rfl, rfl⟩ := H
        obtain ⟨Ao30, co30, eo30⟩ := Kd.R_slice HO_6.out
        subst eo30
        have p177 : 0 ≤ (x8_3 : Int) := oz
        have q177 : x8_3 < (t171.length : Int) := oz
        obtain ⟨ad177, e177, hx177_0, hx177_1, hx177_2, hx177_3⟩ := at_T42 (Kd.R_reads' HO_6.out).2.2 x8_3 p177 q177
        cases e177
        replace p177 := eq_true p177
        replace q177 := eq_true q177
        have p178 : 0 ≤ (x8_3 : Int) := oz
        have q178 : x8_3 < (l0.length : Int) := oz
        obtain ⟨ad178, e178, hx178_0, hx178_1, hx178_2, hx178_3⟩ := at_T42 HR0.out x8_3 p178 q178
        cases e178
        replace hx178_0 := (HB.out.cell (World.block_lt_of_cell? w _ hx178_0)).trans hx178_0
        replace hx178_1 := (HB.out.cell (World.block_lt_of_cell? w _ hx178_1)).trans hx178_1
        replace hx178_2 := (HB.out.cell (World.block_lt_of_cell? w _ hx178_2)).trans hx178_2
        replace hx178_3 := (HB.out.cell (World.block_lt_of_cell? w _ hx178_3)).trans hx178_3
        replace p178 := eq_true p178
        replace q178 := eq_true q178
        have p179 : 0 ≤ (x8_3 : Int) := oz
        have q179 : x8_3 < (t171.length : Int) := oz
        obtain ⟨ad179, e179, hx179_0, hx179_1, hx179_2, hx179_3⟩ := at_T42 (Kd.R_reads' HO_6.out).2.2 x8_3 p179 q179
        obtain rfl : ad177 = ad179 := (by injection e179)
        replace p179 := eq_true p179
        replace q179 := eq_true q179
        have p180 : 0 ≤ (x8_3 : Int) := oz
        have q180 : x8_3 < (l0.length : Int) := oz
        obtain ⟨ad180, e180, hx180_0, hx180_1, hx180_2, hx180_3⟩ := at_T42 HR0.out x8_3 p180 q180
        obtain rfl : ad178 = ad180 := (by injection e180)
        replace hx180_0 := (HB.out.cell (World.block_lt_of_cell? w _ hx180_0)).trans hx180_0
        replace hx180_1 := (HB.out.cell (World.block_lt_of_cell? w _ hx180_1)).trans hx180_1
        replace hx180_2 := (HB.out.cell (World.block_lt_of_cell? w _ hx180_2)).trans hx180_2
        replace hx180_3 := (HB.out.cell (World.block_lt_of_cell? w _ hx180_3)).trans hx180_3
        replace p180 := eq_true p180
        replace q180 := eq_true q180
        go_wp2
        repeat (go_quiet (fail); try go_wp2)
        go_ret2
        exact ⟨ez, YA HB⟩
       rw [if_pos c26] at H
       have c26b0 := eT c26
       have c26b1 := nF c26
       clear c26
       by_cases c27 : ((rd_T42 t171 x8_3).f3) = ((rd_T42 l0 x8_3).f3)
       rotate_left
       ·rw [if_neg c27] at H
        have c27b0 := eF c27
        have c27b1 := nT c27
        simp only [Option.some.injEq, Prod.mk.injEq] at H
        obtain ⟨rfl, rfl⟩ := H
        obtain ⟨Ao29, co29, eo29⟩ := Kd.R_slice HO_6.out
        subst eo29
        have p177 : 0 ≤ (x8_3 : Int) := oz
        have q177 : x8_3 < (t171.length : Int) := oz
        obtain ⟨ad177, e177, hx177_0, hx177_1, hx177_2, hx177_3⟩ := at_T42 (Kd.R_reads' HO_6.out).2.2 x8_3 p177 q177
        cases e177
        replace p177 := eq_true p177
        replace q177 := eq_true q177
        have p178 : 0 ≤ (x8_3 : Int) := oz
        have q178 : x8_3 < (l0.length : Int) := oz
        obtain ⟨ad178, e178, hx178_0, hx178_1, hx178_2, hx178_3⟩ := at_T42 HR0.out x8_3 p178 q178
        cases e178
        replace hx178_0 := (HB.out.cell (World.block_lt_of_cell? w _ hx178_0)).trans hx178_0
        replace hx178_1 := (HB.out.cell (World.block_lt_of_cell? w _ hx178_1)).trans hx178_1
        replace hx178_2 := (HB.out.cell (World.block_lt_of_cell? w _ hx178_2)).trans hx178_2
        replace hx178_3 := (HB.out.cell (World.block_lt_of_cell? w _ hx178_3)).trans hx178_3
        replace p178 := eq_true p178
        replace q178 := eq_true q178
        have p179 : 0 ≤ (x8_3 : Int) := oz
        have q179 : x8_3 < (t171.length : Int) := oz
        obtain ⟨ad179, e179, hx179_0, hx179_1, hx179_2, hx179_3⟩ := at_T42 (Kd.R_reads' HO_6.out).2.2 x8_3 p179 q179
        obtain rfl : ad177 = ad179 := (by injection e179)
        replace p179 := eq_true p179
        replace q179 := eq_true q179
        have p180 : 0 ≤ (x8_3 : Int) := oz
        have q180 : x8_3 < (l0.length : Int) := oz
        obtain ⟨ad180, e180, hx180_0, hx180_1, hx180_2, hx180_3⟩ := at_T42 HR0.out x8_3 p180 q180
        obtain rfl : ad178 = ad180 := (by injection e180)
        replace hx180_0 := (HB.out.cell (World.block_lt_of_cell? w _ hx180_0)).trans hx180_0
        replace hx180_1 := (HB.out.cell (World.block_lt_of_cell? w _ hx180_1)).trans hx180_1
        replace hx180_2 := (HB.out.cell (World.block_lt_of_cell? w _ hx180_2)).trans hx180_2
        replace hx180_3 := (HB.out.cell (World.block_lt_of_cell? w _ hx180_3)).trans hx180_3
        replace p180 := eq_true p180
        replace q180 := eq_true q180
        have p181 : 0 ≤ (x8_3 : Int) := oz
        have q181 : x8_3 < (t171.length : Int) := oz
        obtain ⟨ad181, e181, hx181_0, hx181_1, hx181_2, hx181_3⟩ := at_T42 (Kd.R_reads' HO_6.out).2.2 x8_3 p181 q181
        obtain rfl : ad177 = ad181 := (by injection e181)
        replace p181 := eq_true p181
        replace q181 := eq_true q181
        have p182 : 0 ≤ (x8_3 : Int) := oz
        have q182 : x8_3 < (l0.length : Int) := oz
        obtain ⟨ad182, e182, hx182_0, hx182_1, hx182_2, hx182_3⟩ := at_T42 HR0.out x8_3 p182 q182
        obtain rfl : ad178 = ad182 := (by injection e182)
        replace hx182_0 := (HB.out.cell (World.block_lt_of_cell? w _ hx182_0)).trans hx182_0
        replace hx182_1 := (HB.out.cell (World.block_lt_of_cell? w _ hx182_1)).trans hx182_1
        replace hx182_2 := (HB.out.cell (World.block_lt_of_cell? w _ hx182_2)).trans hx182_2
        replace hx182_3 := (HB.out.cell (World.block_lt_of_cell? w _ hx182_3)).trans hx182_3
        replace p182 := eq_true p182
        replace q182 := eq_true q182
        go_wp2
        repeat (go_quiet (fail); try go_wp2)
        go_ret2
        exact ⟨ez, YA HB⟩
       rw [if_pos c27] at H
       have c27b0 := eT c27
       have c27b1 := nF c27
       clear c27
       have H' := am H
       clear H
       obtain ⟨Ao28, co28, eo28⟩ := Kd.R_slice HO_6.out
       subst eo28
       have p177 : 0 ≤ (x8_3 : Int) := oz
       have q177 : x8_3 < (t171.length : Int) := oz
       obtain ⟨ad177, e177, hx177_0, hx177_1, hx177_2, hx177_3⟩ := at_T42 (Kd.R_reads' HO_6.out).2.2 x8_3 p177 q177
       cases e177
       replace p177 := eq_true p177
       replace q177 := eq_true q177
       have p178 : 0 ≤ (x8_3 : Int) := oz
       have q178 : x8_3 < (l0.length : Int) := oz
       obtain ⟨ad178, e178, hx178_0, hx178_1, hx178_2, hx178_3⟩ := at_T42 HR0.out x8_3 p178 q178
       cases e178
       replace hx178_0 := (HB.out.cell (World.block_lt_of_cell? w _ hx178_0)).trans hx178_0
       replace hx178_1 := (HB.out.cell (World.block_lt_of_cell? w _ hx178_1)).trans hx178_1
       replace hx178_2 := (HB.out.cell (World.block_lt_of_cell? w _ hx178_2)).trans hx178_2
       replace hx178_3 := (HB.out.cell (World.block_lt_of_cell? w _ hx178_3)).trans hx178_3
       replace p178 := eq_true p178
       replace q178 := eq_true q178
       have p179 : 0 ≤ (x8_3 : Int) := oz
       have q179 : x8_3 < (t171.length : Int) := oz
       obtain ⟨ad179, e179, hx179_0, hx179_1, hx179_2, hx179_3⟩ := at_T42 (Kd.R_reads' HO_6.out).2.2 x8_3 p179 q179
       obtain rfl : ad177 = ad179 := (by injection e179)
       replace p179 := eq_true p179
       replace q179 := eq_true q179
       have p180 : 0 ≤ (x8_3 : Int) := oz
       have q180 : x8_3 < (l0.length : Int) := oz
       obtain ⟨ad180, e180, hx180_0, hx180_1, hx180_2, hx180_3⟩ := at_T42 HR0.out x8_3 p180 q180
       obtain rfl : ad178 = ad180 := (by injection e180)
       replace hx180_0 := (HB.out.cell (World.block_lt_of_cell? w _ hx180_0)).trans hx180_0
       replace hx180_1 := (HB.out.cell (World.block_lt_of_cell? w _ hx180_1)).trans hx180_1
       replace hx180_2 := (HB.out.cell (World.block_lt_of_cell? w _ hx180_2)).trans hx180_2
       replace hx180_3 := (HB.out.cell (World.block_lt_of_cell? w _ hx180_3)).trans hx180_3
       replace p180 := eq_true p180
       replace q180 := eq_true q180
       have p181 : 0 ≤ (x8_3 : Int) := oz
       have q181 : x8_3 < (t171.length : Int) := oz
       obtain ⟨ad181, e181, hx181_0, hx181_1, hx181_2, hx181_3⟩ := at_T42 (Kd.R_reads' HO_6.out).2.2 x8_3 p181 q181
       obtain rfl : ad177 = ad181 := (by injection e181)
       replace p181 := eq_true p181
       replace q181 := eq_true q181
       have p182 : 0 ≤ (x8_3 : Int) := oz
       have q182 : x8_3 < (l0.length : Int) := oz
       obtain ⟨ad182, e182, hx182_0, hx182_1, hx182_2, hx182_3⟩ := at_T42 HR0.out x8_3 p182 q182
       obtain rfl : ad178 = ad182 := (by injection e182)
       replace hx182_0 := (HB.out.cell (World.block_lt_of_cell? w _ hx182_0)).trans hx182_0
       replace hx182_1 := (HB.out.cell (World.block_lt_of_cell? w _ hx182_1)).trans hx182_1
       replace hx182_2 := (HB.out.cell (World.block_lt_of_cell? w _ hx182_2)).trans hx182_2
       replace hx182_3 := (HB.out.cell (World.block_lt_of_cell? w _ hx182_3)).trans hx182_3
       replace p182 := eq_true p182
       replace q182 := eq_true q182
       go_wp2
       repeat (go_quiet (fail); try go_wp2)
       go_roundg k3
       case measure => have := HK1.out; have := HJ12.out; have := HK3.out; omega
       case rel => exact ⟨(wrap64 (x8_3 + 1)), ey, H', ⟨by have := HK1.out; have := HJ12.out; have := HK3.out; omega⟩, ⟨by exact RZ HO_6⟩, ⟨Z BK176⟩, ⟨YA HB⟩⟩

/-! ### strings_Join: function 32, by hand -/
def strings_Join.f (l0 : List ByteArray) (a1 : ByteArray) : Option ByteArray := if l0.length ≤ 140737488355328 ∧ (Base.joined l0 a1).size ≤ 140737488355328 then some (Base.joined l0 a1) else none
theorem strings_Join.calls (A0 : Option Addr) (c0 : Nat) (l0 : List ByteArray) (a1 : ByteArray) (r : ByteArray) (w : World) (hr0 : Kd.C Kd.string w A0 l0.length l0) (hc0 : l0.length ≤ c0) (h : strings_Join.f l0 a1 = some r) : Calls Tryd.prog 32 #[.slice A0 l0.length c0, .string a1] w fun e w' => e = .returned (.string r) ∧ Below w.heap.size w w' := by
 unfold strings_Join.f at h
 by_cases c : l0.length ≤ 140737488355328 ∧ (Base.joined l0 a1).size ≤ 140737488355328
 rotate_left
 ·rw [if_neg c] at h
  cases h
 rw [if_pos c] at h
 obtain rfl := Option.some.inj h
 exact Base.join_calls A0 c0 l0 a1 w hr0 hc0 c.1 c.2

end Go.Proofs.YtnbpgnkplahknaaDoor.PFnLexBack
