/- Written by this session's own driver (wip/dprint.py): the functions that the law FnExactLexJoin reaches, as Lean functions, each with its contract. -/
import Derived.Test.YtnbpgnkplahknaaDoorPFnExactLexJoinx0
import Derived.Test.YtnbpgnkplahknaaDoorPFnExactLexJoinx4
import Derived.Test.YtnbpgnkplahknaaDoorSq
namespace Go.Proofs.YtnbpgnkplahknaaDoor.PFnExactLexJoin
open Go.RowKit Go.Proofs.YtnbpgnkplahknaaDoorW.PrintWords Go.Proofs.YtnbpgnkplahknaaDoorW.PrintLast Go.Proofs.YtnbpgnkplahknaaDoorW.PrintMore Go.Proofs.YtnbpgnkplahknaaDoorSq
attribute [local go_sem] max2_int min2_int max_two min_two max_three min_three max_four min_four   -- for this text's walks alone
set_option linter.unusedVariables false
set_option linter.unusedSimpArgs false

/-! ### spec_LexJoin: function 17 -/
attribute [local go_sem] Go.Proofs.YtnbpgnkplahknaaDoorSet.isSome_setCell
mutual
def spec_LexJoin.l0 : Nat → List (S42) → ByteArray → Int → Option (ByteArray × Bool)
 | 0, _, _, _ => none
 | k + 1, x0, x4, x5 => if x5 < (x0.length : Int) then (if 0 ≤ x5 then (if (((rd_T42 x0 x5).f2).size : Int) > 3000 then (some ((⟨#[]⟩ : ByteArray), false)) else (if x5 > 0 then (if x4.size + 1 ≤ 9223372036854775807 then (if (x4 ++ (⟨#[32]⟩ : ByteArray)).size + ((rd_T42 x0 x5).f2).size ≤ 9223372036854775807 then (if (((x4 ++ (⟨#[32]⟩ : ByteArray)) ++ ((rd_T42 x0 x5).f2)).size : Int) > 3000 then (some ((⟨#[]⟩ : ByteArray), false)) else (spec_LexJoin.l0 k x0 ((x4 ++ (⟨#[32]⟩ : ByteArray)) ++ ((rd_T42 x0 x5).f2)) (wrap64 (x5 + 1)))) else (none)) else (none)) else (if x4.size + ((rd_T42 x0 x5).f2).size ≤ 9223372036854775807 then (if ((x4 ++ ((rd_T42 x0 x5).f2)).size : Int) > 3000 then (some ((⟨#[]⟩ : ByteArray), false)) else (spec_LexJoin.l0 k x0 (x4 ++ ((rd_T42 x0 x5).f2)) (wrap64 (x5 + 1)))) else (none)))) else (none)) else ((spec_LexTokens.f k x4).bind fun bt152 => (if bt152.2.1 = 0 then (spec_LexJoin.j1 k x0 x4 bt152.1 ((bt152.1.length : Int) != (x0.length : Int))) else (spec_LexJoin.j1 k x0 x4 bt152.1 true)))
def spec_LexJoin.j1 : Nat → List (S42) → ByteArray → List (S42) → Bool → Option (ByteArray × Bool)
 | 0, _, _, _, _ => none
 | k + 1, x0, x4, x6, x53 => if x53 = true then (some ((⟨#[]⟩ : ByteArray), false)) else (spec_LexJoin.l1 k x0 x4 x6 0)
def spec_LexJoin.l1 : Nat → List (S42) → ByteArray → List (S42) → Int → Option (ByteArray × Bool)
 | 0, _, _, _, _ => none
 | k + 1, x0, x4, x6, x8 => if x8 < (x6.length : Int) then (if 0 ≤ x8 then (if x8 < (x0.length : Int) then (if ((rd_T42 x6 x8).f2).toList = ((rd_T42 x0 x8).f2).toList then (if ((rd_T42 x6 x8).f0) = ((rd_T42 x0 x8).f0) then (if ((rd_T42 x6 x8).f3) = ((rd_T42 x0 x8).f3) then (spec_LexJoin.l1 k x0 x4 x6 (wrap64 (x8 + 1))) else (some ((⟨#[]⟩ : ByteArray), false))) else (some ((⟨#[]⟩ : ByteArray), false))) else (some ((⟨#[]⟩ : ByteArray), false))) else (none)) else (none)) else (some (x4, true))
end
def spec_LexJoin.f (k : Nat) (l0 : List (S42)) : Option (ByteArray × Bool) := if (l0.length : Int) > 700 then (some ((⟨#[]⟩ : ByteArray), false)) else (spec_LexJoin.l0 k l0 (⟨#[]⟩ : ByteArray) 0)
theorem spec_LexJoin.mono_l : ∀ k, (∀ y0 y1 y2, LeO (spec_LexJoin.l0 k y0 y1 y2) (spec_LexJoin.l0 (k + 1) y0 y1 y2)) ∧ (∀ y0 y1 y2 y3, LeO (spec_LexJoin.j1 k y0 y1 y2 y3) (spec_LexJoin.j1 (k + 1) y0 y1 y2 y3)) ∧ (∀ y0 y1 y2 y3, LeO (spec_LexJoin.l1 k y0 y1 y2 y3) (spec_LexJoin.l1 (k + 1) y0 y1 y2 y3))
 | 0 => ⟨fun _ _ _ r h => by simp [spec_LexJoin.l0] at h, fun _ _ _ _ r h => by simp [spec_LexJoin.j1] at h, fun _ _ _ _ r h => by simp [spec_LexJoin.l1] at h⟩
 | k + 1 => by
  obtain ⟨ih0, ih1, ih2⟩ := spec_LexJoin.mono_l k
  refine ⟨?_, ?_, ?_⟩
  ·intro y0 y1 y2
   unfold spec_LexJoin.l0
   repeat' first
   | (with_reducible exact ih0 _ _ _)
   | (with_reducible exact ih1 _ _ _ _)
   | (with_reducible exact ih2 _ _ _ _)
   | (with_reducible exact spec_LexTokens.mono _ _)
   | (with_reducible exact LeO.refl _)
   | (with_reducible exact LeO.none _)
   | (with_reducible refine LeO.ite ?_ ?_)
   | (with_reducible refine LeO.bind ?_ (fun _ => ?_))
   | exact ih0 _ _ _
   | exact ih1 _ _ _ _
   | exact ih2 _ _ _ _
   | exact spec_LexTokens.mono _ _
   | exact LeO.none _
   | refine LeO.ite ?_ ?_
   | refine LeO.bind ?_ (fun _ => ?_)
  ·intro y0 y1 y2 y3
   unfold spec_LexJoin.j1
   repeat' first
   | (with_reducible exact ih0 _ _ _)
   | (with_reducible exact ih1 _ _ _ _)
   | (with_reducible exact ih2 _ _ _ _)
   | (with_reducible exact spec_LexTokens.mono _ _)
   | (with_reducible exact LeO.refl _)
   | (with_reducible exact LeO.none _)
   | (with_reducible refine LeO.ite ?_ ?_)
   | (with_reducible refine LeO.bind ?_ (fun _ => ?_))
   | exact ih0 _ _ _
   | exact ih1 _ _ _ _
   | exact ih2 _ _ _ _
   | exact spec_LexTokens.mono _ _
   | exact LeO.none _
   | refine LeO.ite ?_ ?_
   | refine LeO.bind ?_ (fun _ => ?_)
  ·intro y0 y1 y2 y3
   unfold spec_LexJoin.l1
   repeat' first
   | (with_reducible exact ih0 _ _ _)
   | (with_reducible exact ih1 _ _ _ _)
   | (with_reducible exact ih2 _ _ _ _)
   | (with_reducible exact spec_LexTokens.mono _ _)
   | (with_reducible exact LeO.refl _)
   | (with_reducible exact LeO.none _)
   | (with_reducible refine LeO.ite ?_ ?_)
   | (with_reducible refine LeO.bind ?_ (fun _ => ?_))
   | exact ih0 _ _ _
   | exact ih1 _ _ _ _
   | exact ih2 _ _ _ _
   | exact spec_LexTokens.mono _ _
   | exact LeO.none _
   | refine LeO.ite ?_ ?_
   | refine LeO.bind ?_ (fun _ => ?_)
theorem spec_LexJoin.mono : ∀ a0 k, LeO (spec_LexJoin.f k a0) (spec_LexJoin.f (k + 1) a0) := by
 intro a0 k
 obtain ⟨ih0, ih1, ih2⟩ := spec_LexJoin.mono_l k
 unfold spec_LexJoin.f
 repeat' first
   | (with_reducible exact ih0 _ _ _)
   | (with_reducible exact ih1 _ _ _ _)
   | (with_reducible exact ih2 _ _ _ _)
   | (with_reducible exact spec_LexTokens.mono _ _)
   | (with_reducible exact LeO.refl _)
   | (with_reducible exact LeO.none _)
   | (with_reducible refine LeO.ite ?_ ?_)
   | (with_reducible refine LeO.bind ?_ (fun _ => ?_))
   | exact ih0 _ _ _
   | exact ih1 _ _ _ _
   | exact ih2 _ _ _ _
   | exact spec_LexTokens.mono _ _
   | exact LeO.none _
   | refine LeO.ite ?_ ?_
   | refine LeO.bind ?_ (fun _ => ?_)
set_option maxHeartbeats 8000000 in
set_option maxRecDepth 100000 in
theorem spec_LexJoin.calls (k : Nat) (A0 : Option Addr) (c0 : Nat) (l0 : List (S42)) (r1 : ByteArray) (r2 : Bool) (w : World) (hr0 : Kd.C k42 w A0 l0.length l0) (hc0 : l0.length ≤ c0) (h : spec_LexJoin.f k l0 = some (r1, r2)) :
  Calls Tryd.prog 17 #[.slice A0 l0.length c0] w fun e w' => e = .returned (.tuple #[.string r1, .bool r2]) ∧ Below w.heap.size w w' := by
 have hu26 := Tryd.underlying26
 have HR0 := am hr0
 have HC0 := am hc0
 clear hr0 hc0
 have HB := am (Below.refl w.heap.size w)
 have H : (if (l0.length : Int) > 700 then (some ((⟨#[]⟩ : ByteArray), false)) else (spec_LexJoin.l0 k l0 (⟨#[]⟩ : ByteArray) 0)) = some (r1, r2) := h
 clear h
 by_cases c2 : (l0.length : Int) > 700
 ·rw [if_pos c2] at H
  have c2b0 : decide (700 < (l0.length : Int)) = true := decide_eq_true c2
  have c2b1 : decide (700 < l0.length) = true := decide_eq_true (by omega)
  clear c2
  simp only [Option.some.injEq, Prod.mk.injEq] at H
  obtain ⟨rfl, rfl⟩ := H
  go_enter Tryd.func17, Tryd.ntmps17
  go_wp2
  repeat (go_quiet (fail); try go_wp2)
  go_ret2
  exact ⟨ez, Y0 HB⟩
 rw [if_neg c2] at H
 have c2b0 : decide (700 < (l0.length : Int)) = false := decide_eq_false c2
 have c2b1 : decide (700 < l0.length) = false := decide_eq_false (by omega)
 clear c2
 have H' := am H
 clear H
 go_enter Tryd.func17, Tryd.ntmps17
 go_wp2
 repeat (go_quiet (fail); try go_wp2)
 go_loopg [4, 5] k (fun kq v4 v5 w' => ∃ (x4_1 : ByteArray) (x5_1 : Int), v4 = .string x4_1 ∧ v5 = .int .i64 x5_1 ∧ Aside0 (spec_LexJoin.l0 kq l0 x4_1 x5_1 = some (r1, r2)) ∧ Aside0 (kq ≤ k) ∧ Aside0 (Below w.heap.size w w'))
 case atStart => exact ⟨((⟨#[]⟩ : ByteArray)), (0), ey, ey, H', ⟨Nat.le_refl _⟩, ⟨Y0 HB⟩⟩
 case round =>
  clear H'
  (try clear c2b0);(try clear c2b1)
  obtain ⟨x4_1, x5_1, rfl, rfl, HA, HK1, HB⟩ := hrel
  cases gk with
  | zero => exact absurd HA.out (by simp [spec_LexJoin.l0])
  | succ k1 =>
   have H := HA.out
   clear HA
   simp only [spec_LexJoin.l0] at H
   by_cases c3 : x5_1 < (l0.length : Int)
   ·rw [if_pos c3] at H
    have c3b0 : decide (x5_1 < (l0.length : Int)) = true := decide_eq_true c3
    clear c3
    by_cases c4 : 0 ≤ x5_1
    rotate_left
    ·rw [if_neg c4] at H
     exact absurd H (by simp)
    rw [if_pos c4] at H
    have c4b0 : decide (0 ≤ x5_1) = true := decide_eq_true c4
    clear c4
    by_cases c5 : (((rd_T42 l0 x5_1).f2).size : Int) > 3000
    ·rw [if_pos c5] at H
     have c5b0 : decide (3000 < (((rd_T42 l0 x5_1).f2).size : Int)) = true := decide_eq_true c5
     have c5b1 : decide (3000 < ((rd_T42 l0 x5_1).f2).size) = true := decide_eq_true (by omega)
     clear c5
     simp only [Option.some.injEq, Prod.mk.injEq] at H
     obtain ⟨rfl, rfl⟩ := H
     have p149 : 0 ≤ (x5_1 : Int) := oz
     have q149 : x5_1 < (l0.length : Int) := oz
     obtain ⟨ad149, e149, hx149_0, hx149_1, hx149_2, hx149_3⟩ := at_T42 HR0.out x5_1 p149 q149
     cases e149
     replace hx149_0 := (HB.out.cell (World.block_lt_of_cell? w _ hx149_0)).trans hx149_0
     replace hx149_1 := (HB.out.cell (World.block_lt_of_cell? w _ hx149_1)).trans hx149_1
     replace hx149_2 := (HB.out.cell (World.block_lt_of_cell? w _ hx149_2)).trans hx149_2
     replace hx149_3 := (HB.out.cell (World.block_lt_of_cell? w _ hx149_3)).trans hx149_3
     replace p149 := eq_true p149
     replace q149 := eq_true q149
     go_wp2
     repeat (go_quiet (fail); try go_wp2)
     go_ret2
     exact ⟨ez, Y0 HB⟩
    rw [if_neg c5] at H
    have c5b0 : decide (3000 < (((rd_T42 l0 x5_1).f2).size : Int)) = false := decide_eq_false c5
    have c5b1 : decide (3000 < ((rd_T42 l0 x5_1).f2).size) = false := decide_eq_false (by omega)
    clear c5
    by_cases c6 : x5_1 > 0
    rotate_left
    ·rw [if_neg c6] at H
     have c6b0 : decide (0 < x5_1) = false := decide_eq_false c6
     clear c6
     by_cases c10 : x4_1.size + ((rd_T42 l0 x5_1).f2).size ≤ 9223372036854775807
     rotate_left
     ·rw [if_neg c10] at H
      exact absurd H (by simp)
     rw [if_pos c10] at H
     have c10b0 := eq_true c10
     have c10b1 : decide (x4_1.size + ((rd_T42 l0 x5_1).f2).size ≤ 9223372036854775807) = true := decide_eq_true c10
     try have c10b2 : (9223372036854775807 < x4_1.size + ((rd_T42 l0 x5_1).f2).size) = False := eq_false (Nat.not_lt.2 c10)
     by_cases c11 : ((x4_1 ++ ((rd_T42 l0 x5_1).f2)).size : Int) > 3000
     ·rw [if_pos c11] at H
      have c11b0 : decide (3000 < ((x4_1 ++ ((rd_T42 l0 x5_1).f2)).size : Int)) = true := decide_eq_true c11
      try (have c11b0e : decide (3000 < (((x4_1).size : Int) + (((rd_T42 l0 x5_1).f2).size : Int))) = true := (by have z_ : (((x4_1 ++ ((rd_T42 l0 x5_1).f2))).size : Int) = ((x4_1).size : Int) + (((rd_T42 l0 x5_1).f2).size : Int) := (by simp only [ByteArray.size_append]; omega); rw [← z_]; exact c11b0))
      have c11b1 : decide (3000 < (x4_1 ++ ((rd_T42 l0 x5_1).f2)).size) = true := decide_eq_true (by omega)
      clear c11
      simp only [Option.some.injEq, Prod.mk.injEq] at H
      obtain ⟨rfl, rfl⟩ := H
      have p149 : 0 ≤ (x5_1 : Int) := oz
      have q149 : x5_1 < (l0.length : Int) := oz
      obtain ⟨ad149, e149, hx149_0, hx149_1, hx149_2, hx149_3⟩ := at_T42 HR0.out x5_1 p149 q149
      cases e149
      replace hx149_0 := (HB.out.cell (World.block_lt_of_cell? w _ hx149_0)).trans hx149_0
      replace hx149_1 := (HB.out.cell (World.block_lt_of_cell? w _ hx149_1)).trans hx149_1
      replace hx149_2 := (HB.out.cell (World.block_lt_of_cell? w _ hx149_2)).trans hx149_2
      replace hx149_3 := (HB.out.cell (World.block_lt_of_cell? w _ hx149_3)).trans hx149_3
      replace p149 := eq_true p149
      replace q149 := eq_true q149
      have p151 : 0 ≤ (x5_1 : Int) := oz
      have q151 : x5_1 < (l0.length : Int) := oz
      obtain ⟨ad151, e151, hx151_0, hx151_1, hx151_2, hx151_3⟩ := at_T42 HR0.out x5_1 p151 q151
      obtain rfl : ad149 = ad151 := (by injection e151)
      replace hx151_0 := (HB.out.cell (World.block_lt_of_cell? w _ hx151_0)).trans hx151_0
      replace hx151_1 := (HB.out.cell (World.block_lt_of_cell? w _ hx151_1)).trans hx151_1
      replace hx151_2 := (HB.out.cell (World.block_lt_of_cell? w _ hx151_2)).trans hx151_2
      replace hx151_3 := (HB.out.cell (World.block_lt_of_cell? w _ hx151_3)).trans hx151_3
      replace p151 := eq_true p151
      replace q151 := eq_true q151
      go_wp2
      repeat (go_quiet (fail); try go_wp2)
      go_ret2
      exact ⟨ez, Y0 HB⟩
     rw [if_neg c11] at H
     have c11b0 : decide (3000 < ((x4_1 ++ ((rd_T42 l0 x5_1).f2)).size : Int)) = false := decide_eq_false c11
     try (have c11b0e : decide (3000 < (((x4_1).size : Int) + (((rd_T42 l0 x5_1).f2).size : Int))) = false := (by have z_ : (((x4_1 ++ ((rd_T42 l0 x5_1).f2))).size : Int) = ((x4_1).size : Int) + (((rd_T42 l0 x5_1).f2).size : Int) := (by simp only [ByteArray.size_append]; omega); rw [← z_]; exact c11b0))
     have c11b1 : decide (3000 < (x4_1 ++ ((rd_T42 l0 x5_1).f2)).size) = false := decide_eq_false (by omega)
     clear c11
     have H' := am H
     clear H
     have p149 : 0 ≤ (x5_1 : Int) := oz
     have q149 : x5_1 < (l0.length : Int) := oz
     obtain ⟨ad149, e149, hx149_0, hx149_1, hx149_2, hx149_3⟩ := at_T42 HR0.out x5_1 p149 q149
     cases e149
     replace hx149_0 := (HB.out.cell (World.block_lt_of_cell? w _ hx149_0)).trans hx149_0
     replace hx149_1 := (HB.out.cell (World.block_lt_of_cell? w _ hx149_1)).trans hx149_1
     replace hx149_2 := (HB.out.cell (World.block_lt_of_cell? w _ hx149_2)).trans hx149_2
     replace hx149_3 := (HB.out.cell (World.block_lt_of_cell? w _ hx149_3)).trans hx149_3
     replace p149 := eq_true p149
     replace q149 := eq_true q149
     have p151 : 0 ≤ (x5_1 : Int) := oz
     have q151 : x5_1 < (l0.length : Int) := oz
     obtain ⟨ad151, e151, hx151_0, hx151_1, hx151_2, hx151_3⟩ := at_T42 HR0.out x5_1 p151 q151
     obtain rfl : ad149 = ad151 := (by injection e151)
     replace hx151_0 := (HB.out.cell (World.block_lt_of_cell? w _ hx151_0)).trans hx151_0
     replace hx151_1 := (HB.out.cell (World.block_lt_of_cell? w _ hx151_1)).trans hx151_1
     replace hx151_2 := (HB.out.cell (World.block_lt_of_cell? w _ hx151_2)).trans hx151_2
     replace hx151_3 := (HB.out.cell (World.block_lt_of_cell? w _ hx151_3)).trans hx151_3
     replace p151 := eq_true p151
     replace q151 := eq_true q151
     go_wp2
     repeat (go_quiet (fail); try go_wp2)
     go_roundg k1
     case measure => have := HK1.out; omega
     case rel => exact ⟨(x4_1 ++ ((rd_T42 l0 x5_1).f2)), (wrap64 (x5_1 + 1)), ey, ey, H', ⟨by have := HK1.out; omega⟩, ⟨Y0 HB⟩⟩
    rw [if_pos c6] at H
    have c6b0 : decide (0 < x5_1) = true := decide_eq_true c6
    clear c6
    by_cases c7 : x4_1.size + 1 ≤ 9223372036854775807
    rotate_left
    ·rw [if_neg c7] at H
     exact absurd H (by simp)
    rw [if_pos c7] at H
    have c7b0 := eq_true c7
    have c7b1 : decide (x4_1.size + 1 ≤ 9223372036854775807) = true := decide_eq_true c7
    try have c7b2 : (9223372036854775807 < x4_1.size + 1) = False := eq_false (Nat.not_lt.2 c7)
    by_cases c8 : (x4_1 ++ (⟨#[32]⟩ : ByteArray)).size + ((rd_T42 l0 x5_1).f2).size ≤ 9223372036854775807
    rotate_left
    ·rw [if_neg c8] at H
     exact absurd H (by simp)
    rw [if_pos c8] at H
    have c8b0 := eq_true c8
    have c8b1 : decide ((x4_1 ++ (⟨#[32]⟩ : ByteArray)).size + ((rd_T42 l0 x5_1).f2).size ≤ 9223372036854775807) = true := decide_eq_true c8
    try (have c8b1e := c8b1; simp only [ByteArray.size_append] at c8b1e)
    try have c8b2 : (9223372036854775807 < (x4_1 ++ (⟨#[32]⟩ : ByteArray)).size + ((rd_T42 l0 x5_1).f2).size) = False := eq_false (Nat.not_lt.2 c8)
    try (have c8b2e := c8b2; simp only [ByteArray.size_append] at c8b2e)
    by_cases c9 : (((x4_1 ++ (⟨#[32]⟩ : ByteArray)) ++ ((rd_T42 l0 x5_1).f2)).size : Int) > 3000
    ·rw [if_pos c9] at H
     have c9b0 : decide (3000 < (((x4_1 ++ (⟨#[32]⟩ : ByteArray)) ++ ((rd_T42 l0 x5_1).f2)).size : Int)) = true := decide_eq_true c9
     try (have c9b0e : decide (3000 < (((x4_1).size : Int) + 1 + (((rd_T42 l0 x5_1).f2).size : Int))) = true := (by have z_ : ((((x4_1 ++ (⟨#[32]⟩ : ByteArray)) ++ ((rd_T42 l0 x5_1).f2))).size : Int) = ((x4_1).size : Int) + 1 + (((rd_T42 l0 x5_1).f2).size : Int) := (by simp only [ByteArray.size_append]; have l0_ : ((⟨#[32]⟩ : ByteArray)).size = 1 := rfl; omega); rw [← z_]; exact c9b0))
     have c9b1 : decide (3000 < ((x4_1 ++ (⟨#[32]⟩ : ByteArray)) ++ ((rd_T42 l0 x5_1).f2)).size) = true := decide_eq_true (by omega)
     clear c9
     simp only [Option.some.injEq, Prod.mk.injEq] at H
     obtain ⟨rfl, rfl⟩ := H
     have p149 : 0 ≤ (x5_1 : Int) := oz
     have q149 : x5_1 < (l0.length : Int) := oz
     obtain ⟨ad149, e149, hx149_0, hx149_1, hx149_2, hx149_3⟩ := at_T42 HR0.out x5_1 p149 q149
     cases e149
     replace hx149_0 := (HB.out.cell (World.block_lt_of_cell? w _ hx149_0)).trans hx149_0
     replace hx149_1 := (HB.out.cell (World.block_lt_of_cell? w _ hx149_1)).trans hx149_1
     replace hx149_2 := (HB.out.cell (World.block_lt_of_cell? w _ hx149_2)).trans hx149_2
     replace hx149_3 := (HB.out.cell (World.block_lt_of_cell? w _ hx149_3)).trans hx149_3
     replace p149 := eq_true p149
     replace q149 := eq_true q149
     have p150 : 0 ≤ (x5_1 : Int) := oz
     have q150 : x5_1 < (l0.length : Int) := oz
     obtain ⟨ad150, e150, hx150_0, hx150_1, hx150_2, hx150_3⟩ := at_T42 HR0.out x5_1 p150 q150
     obtain rfl : ad149 = ad150 := (by injection e150)
     replace hx150_0 := (HB.out.cell (World.block_lt_of_cell? w _ hx150_0)).trans hx150_0
     replace hx150_1 := (HB.out.cell (World.block_lt_of_cell? w _ hx150_1)).trans hx150_1
     replace hx150_2 := (HB.out.cell (World.block_lt_of_cell? w _ hx150_2)).trans hx150_2
     replace hx150_3 := (HB.out.cell (World.block_lt_of_cell? w _ hx150_3)).trans hx150_3
     replace p150 := eq_true p150
     replace q150 := eq_true q150
     go_wp2
     repeat (go_quiet (fail); try go_wp2)
     go_ret2
     exact ⟨ez, Y0 HB⟩
    rw [if_neg c9] at H
    have c9b0 : decide (3000 < (((x4_1 ++ (⟨#[32]⟩ : ByteArray)) ++ ((rd_T42 l0 x5_1).f2)).size : Int)) = false := decide_eq_false c9
    try (have c9b0e : decide (3000 < (((x4_1).size : Int) + 1 + (((rd_T42 l0 x5_1).f2).size : Int))) = false := (by have z_ : ((((x4_1 ++ (⟨#[32]⟩ : ByteArray)) ++ ((rd_T42 l0 x5_1).f2))).size : Int) = ((x4_1).size : Int) + 1 + (((rd_T42 l0 x5_1).f2).size : Int) := (by simp only [ByteArray.size_append]; have l0_ : ((⟨#[32]⟩ : ByteArray)).size = 1 := rfl; omega); rw [← z_]; exact c9b0))
    have c9b1 : decide (3000 < ((x4_1 ++ (⟨#[32]⟩ : ByteArray)) ++ ((rd_T42 l0 x5_1).f2)).size) = false := decide_eq_false (by omega)
    clear c9
    have H' := am H
    clear H
    have p149 : 0 ≤ (x5_1 : Int) := oz
    have q149 : x5_1 < (l0.length : Int) := oz
    obtain ⟨ad149, e149, hx149_0, hx149_1, hx149_2, hx149_3⟩ := at_T42 HR0.out x5_1 p149 q149
    cases e149
    replace hx149_0 := (HB.out.cell (World.block_lt_of_cell? w _ hx149_0)).trans hx149_0
    replace hx149_1 := (HB.out.cell (World.block_lt_of_cell? w _ hx149_1)).trans hx149_1
    replace hx149_2 := (HB.out.cell (World.block_lt_of_cell? w _ hx149_2)).trans hx149_2
    replace hx149_3 := (HB.out.cell (World.block_lt_of_cell? w _ hx149_3)).trans hx149_3
    replace p149 := eq_true p149
    replace q149 := eq_true q149
    have p150 : 0 ≤ (x5_1 : Int) := oz
    have q150 : x5_1 < (l0.length : Int) := oz
    obtain ⟨ad150, e150, hx150_0, hx150_1, hx150_2, hx150_3⟩ := at_T42 HR0.out x5_1 p150 q150
    obtain rfl : ad149 = ad150 := (by injection e150)
    replace hx150_0 := (HB.out.cell (World.block_lt_of_cell? w _ hx150_0)).trans hx150_0
    replace hx150_1 := (HB.out.cell (World.block_lt_of_cell? w _ hx150_1)).trans hx150_1
    replace hx150_2 := (HB.out.cell (World.block_lt_of_cell? w _ hx150_2)).trans hx150_2
    replace hx150_3 := (HB.out.cell (World.block_lt_of_cell? w _ hx150_3)).trans hx150_3
    replace p150 := eq_true p150
    replace q150 := eq_true q150
    go_wp2
    repeat (go_quiet (fail); try go_wp2)
    go_roundg k1
    case measure => have := HK1.out; omega
    case rel => exact ⟨((x4_1 ++ (⟨#[32]⟩ : ByteArray)) ++ ((rd_T42 l0 x5_1).f2)), (wrap64 (x5_1 + 1)), ey, ey, H', ⟨by have := HK1.out; omega⟩, ⟨Y0 HB⟩⟩
   rw [if_neg c3] at H
   have c3b0 : decide (x5_1 < (l0.length : Int)) = false := decide_eq_false c3
   clear c3
   replace H := Option.bind_eq_some_iff.mp H
   obtain ⟨⟨t152, t155, t156⟩, A120, H⟩ := H
   try dsimp only at H
   have A12 := am A120
   clear A120
   have HC13 := am H
   clear H
   go_upto_region 15 with (first | (go_at_call 10; (with_reducible refine (spec_LexTokens.calls k1 x4_1 t152 t155 t156 _ A12.out).mono ?_); rintro e w14 ⟨v153, rfl, ho0, hb⟩; have HO154 := am (Kd.R_lower ho0 (below_size (Y0 HB))); replace HB := am (below_step (Y0 HB) hb); (try clear hb); (try clear ho0)) | ((with_reducible refine gate_dst (N := 7) rfl ?_); (try (refine gate_guard (by rfl) ?_; dsimp only)); refine bx 7 #[.int .i64 0, .int .i64 0] 26 ?_; intro gb157 hg w15 hbox hb; have BK157 := am (hbox); have GW157 := am (bs hg (Y0 HB)); have GE157 := am (bs hg (Y0 HB)); replace HO154 := am (Kd.R_below (by (with_reducible repeat (first | apply Kd.R_alloc | apply Kd.R_drewN | apply Kd.R_drew)); exact HO154.out) hb); replace HB := am (below_step (Y0 HB) hb); clear hb hbox hg; obtain ⟨hcz16_0,hcz16_1,hfz16_0,hfz16_1⟩ := cB2 BK157))
   try have hcz16_0 := bc BK157 0
   try have hcz16_1 := bc BK157 1
   try have hfz16_0 := blk_frozen BK157.out 0
   try have hfz16_1 := blk_frozen BK157.out 1
   repeat (go_quiet (first | (go_at_call 10; (with_reducible refine (spec_LexTokens.calls k1 x4_1 t152 t155 t156 _ A12.out).mono ?_); rintro e w14 ⟨v153, rfl, ho0, hb⟩; have HO154 := am (Kd.R_lower ho0 (below_size (Y0 HB))); replace HB := am (below_step (Y0 HB) hb); (try clear hb); (try clear ho0)) | ((with_reducible refine gate_dst (N := 7) rfl ?_); (try (refine gate_guard (by rfl) ?_; dsimp only)); refine bx 7 #[.int .i64 0, .int .i64 0] 26 ?_; intro gb157 hg w15 hbox hb; have BK157 := am (hbox); have GW157 := am (bs hg (Y0 HB)); have GE157 := am (bs hg (Y0 HB)); replace HO154 := am (Kd.R_below (by (with_reducible repeat (first | apply Kd.R_alloc | apply Kd.R_drewN | apply Kd.R_drew)); exact HO154.out) hb); replace HB := am (below_step (Y0 HB) hb); clear hb hbox hg; (try (obtain ⟨hcz16_0,hcz16_1,hfz16_0,hfz16_1⟩ := cB2 BK157)))); go_upto_region 15 with (first | (go_at_call 10; (with_reducible refine (spec_LexTokens.calls k1 x4_1 t152 t155 t156 _ A12.out).mono ?_); rintro e w14 ⟨v153, rfl, ho0, hb⟩; have HO154 := am (Kd.R_lower ho0 (below_size (Y0 HB))); replace HB := am (below_step (Y0 HB) hb); (try clear hb); (try clear ho0)) | ((with_reducible refine gate_dst (N := 7) rfl ?_); (try (refine gate_guard (by rfl) ?_; dsimp only)); refine bx 7 #[.int .i64 0, .int .i64 0] 26 ?_; intro gb157 hg w15 hbox hb; have BK157 := am (hbox); have GW157 := am (bs hg (Y0 HB)); have GE157 := am (bs hg (Y0 HB)); replace HO154 := am (Kd.R_below (by (with_reducible repeat (first | apply Kd.R_alloc | apply Kd.R_drewN | apply Kd.R_drew)); exact HO154.out) hb); replace HB := am (below_step (Y0 HB) hb); clear hb hbox hg; (try (obtain ⟨hcz16_0,hcz16_1,hfz16_0,hfz16_1⟩ := cB2 BK157)))))
   (try simp only [Act.put, List.setIfInBounds_toArray, List.set_cons_zero, List.set_cons_succ])
   go_cut [53] (fun v53 wc => ∃ (kq : Nat) (x53_12 : Bool), v53 = .bool x53_12 ∧ Aside0 (spec_LexJoin.j1 kq l0 x4_1 t152 x53_12 = some (r1, r2)) ∧ Aside0 (kq ≤ k1) ∧ Aside0 (Kd.R k42 42 wc w.heap.size (fun _ => True) v153 t152) ∧ Aside0 (wc.heap[gb157]? = some (.cells #[.int .i64 t155, .int .i64 t156] 26 (0, 0))) ∧ Aside0 (Below w.heap.size w wc))
   case first =>
    have H := HC13.out
    clear HC13
    by_cases c17 : t155 = 0
    rotate_left
    ·rw [if_neg c17] at H
     have c17b0 : (t155 == 0) = false := beq_eq_false_iff_ne.mpr c17
     have c17b1 : (t155 != 0) = true := bne_iff_ne.mpr c17
     (first | rw [c17b0] | (simp only [i64_w, i32_w]; rw [c17b0]) | skip)
     have H' := am H
     clear H
     obtain ⟨hcz20_0,hcz20_1,hfz20_0,hfz20_1⟩ := cB2 BK157
     go_wp2
     repeat (go_quiet (fail); try go_wp2)
     go_meet
     case rel => exact ⟨_, (true), ey, H', ⟨by have := HK1.out; first | omega | exact Nat.le_refl _⟩, ⟨by (with_reducible repeat (first | apply Kd.R_alloc | apply Kd.R_drewN | apply Kd.R_drew)); exact Kd.R_mono (Kd.R_far (p := ⟨gb157, 1, none⟩) (Kd.R_far (p := ⟨gb157, 0, none⟩) (Kd.R_types HO154.out BK157.out (by decide)) (fun _ hk => hk.2) (.int .i64 t155)) (fun _ hk => hk.2) (.int .i64 t156)) (fun _ hk => trivial)⟩, ⟨by refine pf ?_; refine blk_put (cs := #[.int .i64 t155, .int .i64 0]) ?_ 1 _ rfl; refine pf ?_; refine blk_put (cs := #[.int .i64 0, .int .i64 0]) ?_ 0 _ rfl; exact Z BK157⟩, ⟨Y1 HB GE157⟩⟩
    rw [if_pos c17] at H
    have c17b0 : (t155 == 0) = true := beq_iff_eq.mpr c17
    have c17b1 : (t155 != 0) = false := bne_eq_false_iff_eq.mpr c17
    clear c17
    (first | rw [c17b0] | (simp only [i64_w, i32_w]; rw [c17b0]) | skip)
    have H' := am H
    clear H
    obtain ⟨hcz18_0,hcz18_1,hfz18_0,hfz18_1⟩ := cB2 BK157
    obtain ⟨Ao19, co19, eo19⟩ := Kd.R_slice HO154.out
    subst eo19
    go_wp2
    repeat (go_quiet (fail); try go_wp2)
    go_meet
    case rel => exact ⟨_, (((t152.length : Int) != (l0.length : Int))), ey, H', ⟨by have := HK1.out; first | omega | exact Nat.le_refl _⟩, ⟨by (with_reducible repeat (first | apply Kd.R_alloc | apply Kd.R_drewN | apply Kd.R_drew)); exact Kd.R_mono (Kd.R_far (p := ⟨gb157, 1, none⟩) (Kd.R_far (p := ⟨gb157, 0, none⟩) (Kd.R_types HO154.out BK157.out (by decide)) (fun _ hk => hk.2) (.int .i64 t155)) (fun _ hk => hk.2) (.int .i64 t156)) (fun _ hk => trivial)⟩, ⟨by refine pf ?_; refine blk_put (cs := #[.int .i64 t155, .int .i64 0]) ?_ 1 _ rfl; refine pf ?_; refine blk_put (cs := #[.int .i64 0, .int .i64 0]) ?_ 0 _ rfl; exact Z BK157⟩, ⟨Y1 HB GE157⟩⟩
   case rest =>
    clear HC13
    (try clear c3b0);(try clear hcz16_0);(try clear hcz16_1);(try clear hfz16_0);(try clear hfz16_1)
    obtain ⟨kq, x53_12, rfl, HA, HJ12, HO_6, BK157, HB⟩ := hcut
    cases kq with
    | zero => exact absurd HA.out (by simp [spec_LexJoin.j1])
    | succ kj12 =>
     have H := HA.out
     clear HA
     simp only [spec_LexJoin.j1] at H
     by_cases c21 : x53_12 = true
     ·subst c21
      rw [if_pos rfl] at H
      simp only [Option.some.injEq, Prod.mk.injEq] at H
      obtain ⟨rfl, rfl⟩ := H
      go_wp2
      repeat (go_quiet (fail); try go_wp2)
      go_ret2
      exact ⟨ez, Y1 HB GE157⟩
     replace c21 := Bool.eq_false_iff.mpr c21
     subst c21
     rw [if_neg (show ¬ (false = true) by decide)] at H
     have H' := am H
     clear H
     go_wp2
     repeat (go_quiet (fail); try go_wp2)
     go_loopg [8] kj12 (fun kq v8 w' => ∃ (x8_3 : Int), v8 = .int .i64 x8_3 ∧ Aside0 (spec_LexJoin.l1 kq l0 x4_1 t152 x8_3 = some (r1, r2)) ∧ Aside0 (kq ≤ kj12) ∧ Aside0 (Kd.R k42 42 w' w.heap.size (fun _ => True) v153 t152) ∧ Aside0 (w'.heap[gb157]? = some (.cells #[.int .i64 t155, .int .i64 t156] 26 (0, 0))) ∧ Aside0 (Below w.heap.size w w'))
     case atStart => exact ⟨(0), ey, H', ⟨Nat.le_refl _⟩, ⟨by (with_reducible repeat (first | apply Kd.R_alloc | apply Kd.R_drewN | apply Kd.R_drew)); exact HO_6.out⟩, ⟨Z BK157⟩, ⟨Y1 HB GE157⟩⟩
     case round =>
      clear H'
      try clear c21
      obtain ⟨x8_3, rfl, HA, HK3, HO_6, BK157, HB⟩ := hrel
      cases gk with
      | zero => exact absurd HA.out (by simp [spec_LexJoin.l1])
      | succ k3 =>
       have H := HA.out
       clear HA
       simp only [spec_LexJoin.l1] at H
       by_cases c22 : x8_3 < (t152.length : Int)
       rotate_left
       ·rw [if_neg c22] at H
        have c22b0 : decide (x8_3 < (t152.length : Int)) = false := decide_eq_false c22
        clear c22
        simp only [Option.some.injEq, Prod.mk.injEq] at H
        obtain ⟨rfl, rfl⟩ := H
        obtain ⟨Ao32, co32, eo32⟩ := Kd.R_slice HO_6.out
        subst eo32
        go_wp2
        repeat (go_quiet (fail); try go_wp2)
        go_ret2
        exact ⟨ez, Y1 HB GE157⟩
       rw [if_pos c22] at H
       have c22b0 : decide (x8_3 < (t152.length : Int)) = true := decide_eq_true c22
       clear c22
       by_cases c23 : 0 ≤ x8_3
       rotate_left
       ·rw [if_neg c23] at H
        exact absurd H (by simp)
       rw [if_pos c23] at H
       have c23b0 : decide (0 ≤ x8_3) = true := decide_eq_true c23
       clear c23
       by_cases c24 : x8_3 < (l0.length : Int)
       rotate_left
       ·rw [if_neg c24] at H
        exact absurd H (by simp)
       rw [if_pos c24] at H
       have c24b0 : decide (x8_3 < (l0.length : Int)) = true := decide_eq_true c24
       clear c24
       by_cases c25 : ((rd_T42 t152 x8_3).f2).toList = ((rd_T42 l0 x8_3).f2).toList
       rotate_left
       ·rw [if_neg c25] at H
        have c25b0 : (((rd_T42 t152 x8_3).f2).toList == ((rd_T42 l0 x8_3).f2).toList) = false := beq_eq_false_iff_ne.mpr c25
        have c25b1 : (((rd_T42 t152 x8_3).f2).toList != ((rd_T42 l0 x8_3).f2).toList) = true := bne_iff_ne.mpr c25
        simp only [Option.some.injEq, Prod.mk.injEq] at H
        obtain ⟨rfl, rfl⟩ := H
        obtain ⟨Ao31, co31, eo31⟩ := Kd.R_slice HO_6.out
        subst eo31
        have p158 : 0 ≤ (x8_3 : Int) := oz
        have q158 : x8_3 < (t152.length : Int) := oz
        obtain ⟨ad158, e158, hx158_0, hx158_1, hx158_2, hx158_3⟩ := at_T42 (Kd.R_reads' HO_6.out).2.2 x8_3 p158 q158
        cases e158
        replace p158 := eq_true p158
        replace q158 := eq_true q158
        have p159 : 0 ≤ (x8_3 : Int) := oz
        have q159 : x8_3 < (l0.length : Int) := oz
        obtain ⟨ad159, e159, hx159_0, hx159_1, hx159_2, hx159_3⟩ := at_T42 HR0.out x8_3 p159 q159
        cases e159
        replace hx159_0 := (HB.out.cell (World.block_lt_of_cell? w _ hx159_0)).trans hx159_0
        replace hx159_1 := (HB.out.cell (World.block_lt_of_cell? w _ hx159_1)).trans hx159_1
        replace hx159_2 := (HB.out.cell (World.block_lt_of_cell? w _ hx159_2)).trans hx159_2
        replace hx159_3 := (HB.out.cell (World.block_lt_of_cell? w _ hx159_3)).trans hx159_3
        replace p159 := eq_true p159
        replace q159 := eq_true q159
        go_wp2
        repeat (go_quiet (fail); try go_wp2)
        go_ret2
        exact ⟨ez, Y1 HB GE157⟩
       rw [if_pos c25] at H
       have c25b0 : (((rd_T42 t152 x8_3).f2).toList == ((rd_T42 l0 x8_3).f2).toList) = true := beq_iff_eq.mpr c25
       have c25b1 : (((rd_T42 t152 x8_3).f2).toList != ((rd_T42 l0 x8_3).f2).toList) = false := bne_eq_false_iff_eq.mpr c25
       clear c25
       by_cases c26 : ((rd_T42 t152 x8_3).f0) = ((rd_T42 l0 x8_3).f0)
       rotate_left
       ·rw [if_neg c26] at H
        have c26b0 : (((rd_T42 t152 x8_3).f0) == ((rd_T42 l0 x8_3).f0)) = false := beq_eq_false_iff_ne.mpr c26
        have c26b1 : (((rd_T42 t152 x8_3).f0) != ((rd_T42 l0 x8_3).f0)) = true := bne_iff_ne.mpr c26
        simp only [Option.some.injEq, Prod.mk.injEq] at H
        obtain ⟨rfl, rfl⟩ := H
        obtain ⟨Ao30, co30, eo30⟩ := Kd.R_slice HO_6.out
        subst eo30
        have p158 : 0 ≤ (x8_3 : Int) := oz
        have q158 : x8_3 < (t152.length : Int) := oz
        obtain ⟨ad158, e158, hx158_0, hx158_1, hx158_2, hx158_3⟩ := at_T42 (Kd.R_reads' HO_6.out).2.2 x8_3 p158 q158
        cases e158
        replace p158 := eq_true p158
        replace q158 := eq_true q158
        have p159 : 0 ≤ (x8_3 : Int) := oz
        have q159 : x8_3 < (l0.length : Int) := oz
        obtain ⟨ad159, e159, hx159_0, hx159_1, hx159_2, hx159_3⟩ := at_T42 HR0.out x8_3 p159 q159
        cases e159
        replace hx159_0 := (HB.out.cell (World.block_lt_of_cell? w _ hx159_0)).trans hx159_0
        replace hx159_1 := (HB.out.cell (World.block_lt_of_cell? w _ hx159_1)).trans hx159_1
        replace hx159_2 := (HB.out.cell (World.block_lt_of_cell? w _ hx159_2)).trans hx159_2
        replace hx159_3 := (HB.out.cell (World.block_lt_of_cell? w _ hx159_3)).trans hx159_3
        replace p159 := eq_true p159
        replace q159 := eq_true q159
        have p160 : 0 ≤ (x8_3 : Int) := oz
        have q160 : x8_3 < (t152.length : Int) := oz
        obtain ⟨ad160, e160, hx160_0, hx160_1, hx160_2, hx160_3⟩ := at_T42 (Kd.R_reads' HO_6.out).2.2 x8_3 p160 q160
        obtain rfl : ad158 = ad160 := (by injection e160)
        replace p160 := eq_true p160
        replace q160 := eq_true q160
        have p161 : 0 ≤ (x8_3 : Int) := oz
        have q161 : x8_3 < (l0.length : Int) := oz
        obtain ⟨ad161, e161, hx161_0, hx161_1, hx161_2, hx161_3⟩ := at_T42 HR0.out x8_3 p161 q161
        obtain rfl : ad159 = ad161 := (by injection e161)
        replace hx161_0 := (HB.out.cell (World.block_lt_of_cell? w _ hx161_0)).trans hx161_0
        replace hx161_1 := (HB.out.cell (World.block_lt_of_cell? w _ hx161_1)).trans hx161_1
        replace hx161_2 := (HB.out.cell (World.block_lt_of_cell? w _ hx161_2)).trans hx161_2
        replace hx161_3 := (HB.out.cell (World.block_lt_of_cell? w _ hx161_3)).trans hx161_3
        replace p161 := eq_true p161
        replace q161 := eq_true q161
        go_wp2
        repeat (go_quiet (fail); try go_wp2)
        go_ret2
        exact ⟨ez, Y1 HB GE157⟩
       rw [if_pos c26] at H
       have c26b0 : (((rd_T42 t152 x8_3).f0) == ((rd_T42 l0 x8_3).f0)) = true := beq_iff_eq.mpr c26
       have c26b1 : (((rd_T42 t152 x8_3).f0) != ((rd_T42 l0 x8_3).f0)) = false := bne_eq_false_iff_eq.mpr c26
       clear c26
       by_cases c27 : ((rd_T42 t152 x8_3).f3) = ((rd_T42 l0 x8_3).f3)
       rotate_left
       ·rw [if_neg c27] at H
        have c27b0 : (((rd_T42 t152 x8_3).f3) == ((rd_T42 l0 x8_3).f3)) = false := beq_eq_false_iff_ne.mpr c27
        have c27b1 : (((rd_T42 t152 x8_3).f3) != ((rd_T42 l0 x8_3).f3)) = true := bne_iff_ne.mpr c27
        simp only [Option.some.injEq, Prod.mk.injEq] at H
        obtain ⟨rfl, rfl⟩ := H
        obtain ⟨Ao29, co29, eo29⟩ := Kd.R_slice HO_6.out
        subst eo29
        have p158 : 0 ≤ (x8_3 : Int) := oz
        have q158 : x8_3 < (t152.length : Int) := oz
        obtain ⟨ad158, e158, hx158_0, hx158_1, hx158_2, hx158_3⟩ := at_T42 (Kd.R_reads' HO_6.out).2.2 x8_3 p158 q158
        cases e158
        replace p158 := eq_true p158
        replace q158 := eq_true q158
        have p159 : 0 ≤ (x8_3 : Int) := oz
        have q159 : x8_3 < (l0.length : Int) := oz
        obtain ⟨ad159, e159, hx159_0, hx159_1, hx159_2, hx159_3⟩ := at_T42 HR0.out x8_3 p159 q159
        cases e159
        replace hx159_0 := (HB.out.cell (World.block_lt_of_cell? w _ hx159_0)).trans hx159_0
        replace hx159_1 := (HB.out.cell (World.block_lt_of_cell? w _ hx159_1)).trans hx159_1
        replace hx159_2 := (HB.out.cell (World.block_lt_of_cell? w _ hx159_2)).trans hx159_2
        replace hx159_3 := (HB.out.cell (World.block_lt_of_cell? w _ hx159_3)).trans hx159_3
        replace p159 := eq_true p159
        replace q159 := eq_true q159
        have p160 : 0 ≤ (x8_3 : Int) := oz
        have q160 : x8_3 < (t152.length : Int) := oz
        obtain ⟨ad160, e160, hx160_0, hx160_1, hx160_2, hx160_3⟩ := at_T42 (Kd.R_reads' HO_6.out).2.2 x8_3 p160 q160
        obtain rfl : ad158 = ad160 := (by injection e160)
        replace p160 := eq_true p160
        replace q160 := eq_true q160
        have p161 : 0 ≤ (x8_3 : Int) := oz
        have q161 : x8_3 < (l0.length : Int) := oz
        obtain ⟨ad161, e161, hx161_0, hx161_1, hx161_2, hx161_3⟩ := at_T42 HR0.out x8_3 p161 q161
        obtain rfl : ad159 = ad161 := (by injection e161)
        replace hx161_0 := (HB.out.cell (World.block_lt_of_cell? w _ hx161_0)).trans hx161_0
        replace hx161_1 := (HB.out.cell (World.block_lt_of_cell? w _ hx161_1)).trans hx161_1
        replace hx161_2 := (HB.out.cell (World.block_lt_of_cell? w _ hx161_2)).trans hx161_2
        replace hx161_3 := (HB.out.cell (World.block_lt_of_cell? w _ hx161_3)).trans hx161_3
        replace p161 := eq_true p161
        replace q161 := eq_true q161
        have p162 : 0 ≤ (x8_3 : Int) := oz
        have q162 : x8_3 < (t152.length : Int) := oz
        obtain ⟨ad162, e162, hx162_0, hx162_1, hx162_2, hx162_3⟩ := at_T42 (Kd.R_reads' HO_6.out).2.2 x8_3 p162 q162
        obtain rfl : ad158 = ad162 := (by injection e162)
        replace p162 := eq_true p162
        replace q162 := eq_true q162
        have p163 : 0 ≤ (x8_3 : Int) := oz
        have q163 : x8_3 < (l0.length : Int) := oz
        obtain ⟨ad163, e163, hx163_0, hx163_1, hx163_2, hx163_3⟩ := at_T42 HR0.out x8_3 p163 q163
        obtain rfl : ad159 = ad163 := (by injection e163)
        replace hx163_0 := (HB.out.cell (World.block_lt_of_cell? w _ hx163_0)).trans hx163_0
        replace hx163_1 := (HB.out.cell (World.block_lt_of_cell? w _ hx163_1)).trans hx163_1
        replace hx163_2 := (HB.out.cell (World.block_lt_of_cell? w _ hx163_2)).trans hx163_2
        replace hx163_3 := (HB.out.cell (World.block_lt_of_cell? w _ hx163_3)).trans hx163_3
        replace p163 := eq_true p163
        replace q163 := eq_true q163
        go_wp2
        repeat (go_quiet (fail); try go_wp2)
        go_ret2
        exact ⟨ez, Y1 HB GE157⟩
       rw [if_pos c27] at H
       have c27b0 : (((rd_T42 t152 x8_3).f3) == ((rd_T42 l0 x8_3).f3)) = true := beq_iff_eq.mpr c27
       have c27b1 : (((rd_T42 t152 x8_3).f3) != ((rd_T42 l0 x8_3).f3)) = false := bne_eq_false_iff_eq.mpr c27
       clear c27
       have H' := am H
       clear H
       obtain ⟨Ao28, co28, eo28⟩ := Kd.R_slice HO_6.out
       subst eo28
       have p158 : 0 ≤ (x8_3 : Int) := oz
       have q158 : x8_3 < (t152.length : Int) := oz
       obtain ⟨ad158, e158, hx158_0, hx158_1, hx158_2, hx158_3⟩ := at_T42 (Kd.R_reads' HO_6.out).2.2 x8_3 p158 q158
       cases e158
       replace p158 := eq_true p158
       replace q158 := eq_true q158
       have p159 : 0 ≤ (x8_3 : Int) := oz
       have q159 : x8_3 < (l0.length : Int) := oz
       obtain ⟨ad159, e159, hx159_0, hx159_1, hx159_2, hx159_3⟩ := at_T42 HR0.out x8_3 p159 q159
       cases e159
       replace hx159_0 := (HB.out.cell (World.block_lt_of_cell? w _ hx159_0)).trans hx159_0
       replace hx159_1 := (HB.out.cell (World.block_lt_of_cell? w _ hx159_1)).trans hx159_1
       replace hx159_2 := (HB.out.cell (World.block_lt_of_cell? w _ hx159_2)).trans hx159_2
       replace hx159_3 := (HB.out.cell (World.block_lt_of_cell? w _ hx159_3)).trans hx159_3
       replace p159 := eq_true p159
       replace q159 := eq_true q159
       have p160 : 0 ≤ (x8_3 : Int) := oz
       have q160 : x8_3 < (t152.length : Int) := oz
       obtain ⟨ad160, e160, hx160_0, hx160_1, hx160_2, hx160_3⟩ := at_T42 (Kd.R_reads' HO_6.out).2.2 x8_3 p160 q160
       obtain rfl : ad158 = ad160 := (by injection e160)
       replace p160 := eq_true p160
       replace q160 := eq_true q160
       have p161 : 0 ≤ (x8_3 : Int) := oz
       have q161 : x8_3 < (l0.length : Int) := oz
       obtain ⟨ad161, e161, hx161_0, hx161_1, hx161_2, hx161_3⟩ := at_T42 HR0.out x8_3 p161 q161
       obtain rfl : ad159 = ad161 := (by injection e161)
       replace hx161_0 := (HB.out.cell (World.block_lt_of_cell? w _ hx161_0)).trans hx161_0
       replace hx161_1 := (HB.out.cell (World.block_lt_of_cell? w _ hx161_1)).trans hx161_1
       replace hx161_2 := (HB.out.cell (World.block_lt_of_cell? w _ hx161_2)).trans hx161_2
       replace hx161_3 := (HB.out.cell (World.block_lt_of_cell? w _ hx161_3)).trans hx161_3
       replace p161 := eq_true p161
       replace q161 := eq_true q161
       have p162 : 0 ≤ (x8_3 : Int) := oz
       have q162 : x8_3 < (t152.length : Int) := oz
       obtain ⟨ad162, e162, hx162_0, hx162_1, hx162_2, hx162_3⟩ := at_T42 (Kd.R_reads' HO_6.out).2.2 x8_3 p162 q162
       obtain rfl : ad158 = ad162 := (by injection e162)
       replace p162 := eq_true p162
       replace q162 := eq_true q162
       have p163 : 0 ≤ (x8_3 : Int) := oz
       have q163 : x8_3 < (l0.length : Int) := oz
       obtain ⟨ad163, e163, hx163_0, hx163_1, hx163_2, hx163_3⟩ := at_T42 HR0.out x8_3 p163 q163
       obtain rfl : ad159 = ad163 := (by injection e163)
       replace hx163_0 := (HB.out.cell (World.block_lt_of_cell? w _ hx163_0)).trans hx163_0
       replace hx163_1 := (HB.out.cell (World.block_lt_of_cell? w _ hx163_1)).trans hx163_1
       replace hx163_2 := (HB.out.cell (World.block_lt_of_cell? w _ hx163_2)).trans hx163_2
       replace hx163_3 := (HB.out.cell (World.block_lt_of_cell? w _ hx163_3)).trans hx163_3
       replace p163 := eq_true p163
       replace q163 := eq_true q163
       go_wp2
       repeat (go_quiet (fail); try go_wp2)
       go_roundg k3
       case measure => have := HK1.out; have := HJ12.out; have := HK3.out; omega
       case rel => exact ⟨(wrap64 (x8_3 + 1)), ey, H', ⟨by have := HK1.out; have := HJ12.out; have := HK3.out; omega⟩, ⟨by (with_reducible repeat (first | apply Kd.R_alloc | apply Kd.R_drewN | apply Kd.R_drew)); exact HO_6.out⟩, ⟨Z BK157⟩, ⟨Y1 HB GE157⟩⟩

/-! ### laws_toToken: function 31 -/
attribute [local go_sem] Go.Proofs.YtnbpgnkplahknaaDoorSet.isSome_setCell
def laws_toToken.f (a0_0 : Int) (a0_1 : Int) (a0_2 : ByteArray) (a0_3 : Int) : Option (Int × Int × ByteArray × Int) := some (a0_0, a0_1, a0_2, a0_3)
set_option maxHeartbeats 8000000 in
set_option maxRecDepth 100000 in
theorem laws_toToken.calls (a0_0 : Int) (a0_1 : Int) (a0_2 : ByteArray) (a0_3 : Int) (r1 : Int) (r2 : Int) (r3 : ByteArray) (r4 : Int) (w : World) (h : laws_toToken.f a0_0 a0_1 a0_2 a0_3 = some (r1, r2, r3, r4)) :
  Calls Tryd.prog 31 #[.agg #[.int .i64 a0_0, .int .i64 a0_1, .string a0_2, .int .i64 a0_3]] w fun e w' => e = .returned (.agg #[.int .i64 r1, .int .i64 r2, .string r3, .int .i64 r4]) ∧ Below w.heap.size w w' := by
 have hu56 := Tryd.underlying56
 have hu42 := Tryd.underlying42
 have HB := am (Below.refl w.heap.size w)
 have H : (some (a0_0, a0_1, a0_2, a0_3)) = some (r1, r2, r3, r4) := h
 clear h
 simp only [Option.some.injEq, Prod.mk.injEq] at H
 obtain ⟨rfl, rfl, rfl, rfl⟩ := H
 go_enter Tryd.func31, Tryd.ntmps31
 go_wp2_with (first | ((with_reducible refine gate_dst (N := 1) rfl ?_); refine bx 1 #[.int .i64 a0_0, .int .i64 a0_1, .string a0_2, .int .i64 a0_3] 56 ?_; intro gb164 hg w2 hbox hb; have BK164 := am (hbox); have GW164 := am (bs hg (Y0 HB)); have GE164 := am (bs hg (Y0 HB)); replace HB := am (below_step (Y0 HB) hb); clear hb hbox hg) | ((with_reducible refine gate_dst (N := 2) rfl ?_); refine bx 2 #[.int .i64 0, .int .i64 0, .string (⟨#[]⟩ : ByteArray), .int .i64 0] 42 ?_; intro gb165 hg w3 hbox hb; have BK165 := am (hbox); have GW165 := am (bs hg (Y1 HB GE164)); have GE165 := am (bs hg (Y1 HB GE164)); obtain ⟨NB164_165,NB165_164⟩ := ne_ hg BK164; replace BK164 := bb BK164 hb; replace HB := am (below_step (Y1 HB GE164) hb); clear hb hbox hg) | ((with_reducible refine gate_dst (N := 3) rfl ?_); refine bx 3 #[.int .i64 0, .int .i64 0, .string (⟨#[]⟩ : ByteArray), .int .i64 0] 42 ?_; intro gb166 hg w4 hbox hb; have BK166 := am (hbox); have GW166 := am (bs hg (Y2 HB GE164 GE165)); have GE166 := am (bs hg (Y2 HB GE164 GE165)); obtain ⟨NB164_166,NB166_164⟩ := ne_ hg BK164; obtain ⟨NB165_166,NB166_165⟩ := ne_ hg BK165; replace BK164 := bb BK164 hb; replace BK165 := bb BK165 hb; replace HB := am (below_step (Y2 HB GE164 GE165) hb); clear hb hbox hg; obtain ⟨hnb5,hnc5⟩ := nn NB164_165; obtain ⟨hnb6,hnc6⟩ := nn NB164_166; obtain ⟨hcz7_0,hcz7_1,hcz7_2,hcz7_3,hfz7_0,hfz7_1,hfz7_2,hfz7_3⟩ := cB4 BK164; obtain ⟨hnb8,hnc8⟩ := nn NB166_165; obtain ⟨hcz9_0,hcz9_1,hcz9_2,hcz9_3,hfz9_0,hfz9_1,hfz9_2,hfz9_3⟩ := cB4 BK166; obtain ⟨hcz10_0,hcz10_1,hcz10_2,hcz10_3,hfz10_0,hfz10_1,hfz10_2,hfz10_3⟩ := cB4 BK165))
 refine bodyPost_ret (results_cell_row rfl _ _ gb165 42 #[.int .i64 a0_0, .int .i64 a0_1, .string a0_2, .int .i64 a0_3] (0, 0) _ rfl (by refine pf ?_; refine blk_put (cs := #[.int .i64 a0_0, .int .i64 a0_1, .string a0_2, .int .i64 0]) ?_ 3 _ rfl; refine pf ?_; refine blk_put (cs := #[.int .i64 a0_0, .int .i64 a0_1, .string (⟨#[]⟩ : ByteArray), .int .i64 0]) ?_ 2 _ rfl; refine pf ?_; refine blk_put (cs := #[.int .i64 a0_0, .int .i64 0, .string (⟨#[]⟩ : ByteArray), .int .i64 0]) ?_ 1 _ rfl; refine pf ?_; refine blk_put (cs := #[.int .i64 0, .int .i64 0, .string (⟨#[]⟩ : ByteArray), .int .i64 0]) ?_ 0 _ rfl; refine fa NB165_166 ?_; refine fa NB165_166 ?_; refine fa NB165_166 ?_; refine fa NB165_166 ?_; exact Z BK165) Tryd.underlying42 rfl (by kernel_rfl)) rfl ?_
 exact ⟨ez, Y3 HB GE164 GE165 GE166⟩

end Go.Proofs.YtnbpgnkplahknaaDoor.PFnExactLexJoin
