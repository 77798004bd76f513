/- Written by this session's own driver (wip/dprint.py): the functions that the law FnLexBack reaches, as Lean functions, each with its contract. -/
import Derived.Test.YtnbpgnkplahknaaDoorPFnLexBackx0
import Derived.Test.YtnbpgnkplahknaaDoorPFnLexBackx2
import Derived.Test.YtnbpgnkplahknaaDoorPFnLexBackx3
import Derived.Test.YtnbpgnkplahknaaDoorSq
namespace Go.Proofs.YtnbpgnkplahknaaDoor.PFnLexBack
open Go.RowKit Go.Proofs.YtnbpgnkplahknaaDoorW.PrintWords Go.Proofs.YtnbpgnkplahknaaDoorW.PrintLast Go.Proofs.YtnbpgnkplahknaaDoorW.PrintMore Go.Proofs.YtnbpgnkplahknaaDoorSq
attribute [local go_sem] max2_int min2_int max_two min_two max_three min_three max_four min_four   -- for this text's walks alone
set_option linter.unusedVariables false
set_option linter.unusedSimpArgs false

/-! ### spec_l2One: function 25 -/
attribute [local go_sem] Go.Proofs.YtnbpgnkplahknaaDoorSet.isSome_setCell
def spec_l2One.f (k : Nat) (a0 : ByteArray) (a1 : Int) : Option (Int × Int × ByteArray × Int × Int × Int) := if 0 ≤ a1 then (if a1 < (a0.size : Int) then ((spec_l2Letter.f (bt a0 a1)).bind fun t115 => (if t115 = true then ((spec_l2Run.f k a0 a1).bind fun t116 => (if a1 ≤ t116 then (if t116 ≤ (a0.size : Int) then ((spec_WordOk.f (a0.extract (a1 : Int).toNat (t116 : Int).toNat)).bind fun t117 => (if t117 = true then (if ((a0.extract (a1 : Int).toNat (t116 : Int).toNat).size : Int) > 8 then (some (3, a1, a0.extract (a1 : Int).toNat (t116 : Int).toNat, 0, t116, 3)) else (some (3, a1, a0.extract (a1 : Int).toNat (t116 : Int).toNat, 0, t116, 0))) else (if ((a0.extract (a1 : Int).toNat (t116 : Int).toNat).size : Int) > 8 then (some (1, a1, a0.extract (a1 : Int).toNat (t116 : Int).toNat, 0, t116, 3)) else (some (1, a1, a0.extract (a1 : Int).toNat (t116 : Int).toNat, 0, t116, 0))))) else (none)) else (none))) else ((spec_l2Digit.f (bt a0 a1)).bind fun t118 => (if t118 = true then ((spec_l2Digits.f k a0 a1).bind fun t119 => (if a1 ≤ t119 then (if t119 ≤ (a0.size : Int) then ((spec_l2Value.f k (a0.extract (a1 : Int).toNat (t119 : Int).toNat)).bind fun t120 => (if t120 < 0 then (some (2, a1, a0.extract (a1 : Int).toNat (t119 : Int).toNat, t120, t119, 4)) else (some (2, a1, a0.extract (a1 : Int).toNat (t119 : Int).toNat, t120, t119, 0)))) else (none)) else (none))) else ((spec_SignAt.f k a0 a1).bind fun t121 => (if t121.toList = ([] : List UInt8) then (some (4, a1, t121, 0, a1, 2)) else (some (4, a1, t121, 0, wrap64 (a1 + (t121.size : Int)), 0)))))))) else (none)) else (none)
theorem spec_l2One.mono : ∀ a0 a1 k, LeO (spec_l2One.f k a0 a1) (spec_l2One.f (k + 1) a0 a1) := by
 intro a0 a1 k
 unfold spec_l2One.f
 repeat' first | (with_reducible first | apply spec_SignAt.mono | apply spec_l2Digits.mono | apply spec_l2Run.mono | apply spec_l2Value.mono | apply LeO.refl | apply LeO.none | refine LeO.ite ?_ ?_ | refine LeO.bind ?_ (fun _ => ?_)) | apply spec_SignAt.mono | apply spec_l2Digits.mono | apply spec_l2Run.mono | apply spec_l2Value.mono | apply LeO.none | refine LeO.ite ?_ ?_ | refine LeO.bind ?_ (fun _ => ?_)
def spec_l2One.T23 : Bool × List (List Nat × List Nat) := (true, [([], []), ([], []), ([], []), ([2], [2]), ([3], [3]), ([1, 4], [1, 4]), ([0, 0], [0]), ([5, 6, 0, 1, 2, 3, 4, 5, 6], [5]), ([7, 0, 1, 2, 3, 4, 5, 6, 7], [])])
def spec_l2One.B23 : List Nat := [0, 0, 0, 4, 12, 30, 1, 127, 255]
theorem spec_l2One.tab23 : rtab .any (opsOf Tryd.f25 23) = spec_l2One.T23 := by kernel_rfl
theorem spec_l2One.bits23 : waitsOk spec_l2One.T23.2 spec_l2One.B23 = true := by kernel_rfl
set_option maxHeartbeats 8000000 in
set_option maxRecDepth 100000 in
theorem spec_l2One.calls (k : Nat) (a0 : ByteArray) (a1 : Int) (r1 : Int) (r2 : Int) (r3 : ByteArray) (r4 : Int) (r5 : Int) (r6 : Int) (w : World) (h : spec_l2One.f k a0 a1 = some (r1, r2, r3, r4, r5, r6)) :
  Calls Tryd.prog 25 #[.string a0, .int .i64 a1] w fun e w' => e = .returned (.tuple #[.agg #[.int .i64 r1, .int .i64 r2, .string r3, .int .i64 r4], .int .i64 r5, .int .i64 r6]) ∧ Below w.heap.size w w' := by
 have hu42 := Tryd.underlying42
 have HB := am (Below.refl w.heap.size w)
 have H : (if 0 ≤ a1 then (if a1 < (a0.size : Int) then ((spec_l2Letter.f (bt a0 a1)).bind fun t115 => (if t115 = true then ((spec_l2Run.f k a0 a1).bind fun t116 => (if a1 ≤ t116 then (if t116 ≤ (a0.size : Int) then ((spec_WordOk.f (a0.extract (a1 : Int).toNat (t116 : Int).toNat)).bind fun t117 => (if t117 = true then (if ((a0.extract (a1 : Int).toNat (t116 : Int).toNat).size : Int) > 8 then (some (3, a1, a0.extract (a1 : Int).toNat (t116 : Int).toNat, 0, t116, 3)) else (some (3, a1, a0.extract (a1 : Int).toNat (t116 : Int).toNat, 0, t116, 0))) else (if ((a0.extract (a1 : Int).toNat (t116 : Int).toNat).size : Int) > 8 then (some (1, a1, a0.extract (a1 : Int).toNat (t116 : Int).toNat, 0, t116, 3)) else (some (1, a1, a0.extract (a1 : Int).toNat (t116 : Int).toNat, 0, t116, 0))))) else (none)) else (none))) else ((spec_l2Digit.f (bt a0 a1)).bind fun t118 => (if t118 = true then ((spec_l2Digits.f k a0 a1).bind fun t119 => (if a1 ≤ t119 then (if t119 ≤ (a0.size : Int) then ((spec_l2Value.f k (a0.extract (a1 : Int).toNat (t119 : Int).toNat)).bind fun t120 => (if t120 < 0 then (some (2, a1, a0.extract (a1 : Int).toNat (t119 : Int).toNat, t120, t119, 4)) else (some (2, a1, a0.extract (a1 : Int).toNat (t119 : Int).toNat, t120, t119, 0)))) else (none)) else (none))) else ((spec_SignAt.f k a0 a1).bind fun t121 => (if t121.toList = ([] : List UInt8) then (some (4, a1, t121, 0, a1, 2)) else (some (4, a1, t121, 0, wrap64 (a1 + (t121.size : Int)), 0)))))))) else (none)) else (none)) = some (r1, r2, r3, r4, r5, r6) := h
 clear h
 by_cases c3 : 0 ≤ a1
 rotate_left
 ·rw [if_neg c3] at H
  exact absurd H (by simp)
 rw [if_pos c3] at H
 have c3b0 := dT c3
 clear c3
 by_cases c4 : a1 < (a0.size : Int)
 rotate_left
 ·rw [if_neg c4] at H
  exact absurd H (by simp)
 rw [if_pos c4] at H
 have c4b0 := dT c4
 clear c4
 replace H := Option.bind_eq_some_iff.mp H
 obtain ⟨t115, A60, H⟩ := H
 try dsimp only at H
 have A6 := am A60
 clear A60
 by_cases c7 : t115 = true
 ·subst c7
  rw [if_pos rfl] at H
  replace H := Option.bind_eq_some_iff.mp H
  obtain ⟨t116, A80, H⟩ := H
  try dsimp only at H
  have A8 := am A80
  clear A80
  have c9b0 := eq_true (oz : 0 ≤ a1)
  by_cases c10 : a1 ≤ t116
  rotate_left
  ·rw [if_neg c10] at H
   exact absurd H (by simp)
  rw [if_pos c10] at H
  have c10b0 := eq_true c10
  have c10b1 := dT c10
  clear c10
  by_cases c11 : t116 ≤ (a0.size : Int)
  rotate_left
  ·rw [if_neg c11] at H
   exact absurd H (by simp)
  rw [if_pos c11] at H
  have c11b0 := eq_true c11
  have c11b1 := dT c11
  clear c11
  replace H := Option.bind_eq_some_iff.mp H
  obtain ⟨t117, A120, H⟩ := H
  try dsimp only at H
  have A12 := am A120
  clear A120
  by_cases c13 : t117 = true
  ·subst c13
   rw [if_pos rfl] at H
   by_cases c14 : ((a0.extract (a1 : Int).toNat (t116 : Int).toNat).size : Int) > 8
   ·rw [if_pos c14] at H
    have c14b0 := dT c14
    have c14b0e : decide (8 < ((((t116 : Int).toNat - (a1 : Int).toNat) : Nat) : Int)) = true := by have z_ := of_decide_eq_true c11b1; have e_ : (a0.extract (a1 : Int).toNat (t116 : Int).toNat).size = ((t116 : Int).toNat - (a1 : Int).toNat) := (by rw [ByteArray.size_extract]; omega); rw [← e_]; exact c14b0
    have c14b1 : decide (8 < (a0.extract (a1 : Int).toNat (t116 : Int).toNat).size) = true := decide_eq_true (by omega)
    clear c14
    simp only [Option.some.injEq, Prod.mk.injEq] at H
    obtain ⟨rfl, rfl, rfl, rfl, rfl, rfl⟩ := H
    go_enter Tryd.func25, Tryd.ntmps25
    go_wp2_with (first | ((with_reducible refine gate_dst (N := 4) rfl ?_); refine bx 4 #[.int .i64 0, .int .i64 0, .string (⟨#[]⟩ : ByteArray), .int .i64 0] 42 ?_; intro gb113 hg w15 hbox hb; have BK113 := am (hbox); have GW113 := am (bs hg (YA HB)); have GE113 := GW113; replace HB := am (below_step (YA HB) hb); clear hb hbox hg) | ((with_reducible refine gate_dst (N := 7) rfl ?_); refine bx 7 #[.int .i64 0, .int .i64 0, .string (⟨#[]⟩ : ByteArray), .int .i64 0] 42 ?_; intro gb114 hg w16 hbox hb; have BK114 := am (hbox); have GW114 := am (bs hg (YA HB)); have GE114 := GW114; obtain ⟨NB113_114,NB114_113⟩ := ne_ hg BK113; replace BK113 := bb BK113 hb; replace HB := am (below_step (YA HB) hb); clear hb hbox hg; obtain ⟨hnb17,hnc17⟩ := nn NB114_113; obtain ⟨hcz18_0,hcz18_1,hcz18_2,hcz18_3,hfz18_0,hfz18_1,hfz18_2,hfz18_3⟩ := cB4 BK114; have p5 : 0 ≤ (a1 : Int) := oz; have q5 : a1 < (a0.size : Int) := oz; have hx5 := bt_at a0 a1; replace p5 := eq_true p5; replace q5 := eq_true q5) | ((with_reducible refine gate_callee (f := 38) rfl ?_); refine goesL_ (some 15) rfl rfl Tryd.func38 (by kernel_rfl) rfl #[.int .u8 (bt a0 a1)] rfl mz ?_; (with_reducible refine (spec_l2Letter.calls (bt a0 a1) true _ A6.out).mono ?_); rintro e w' ⟨rfl, ⟨nd, rfl⟩⟩; refine ⟨_, rfl, ?_⟩) | ((with_reducible refine gate_callee (f := 39) rfl ?_); refine goesL_ (some 18) rfl rfl Tryd.func39 (by kernel_rfl) rfl #[.string a0, .int .i64 a1] rfl mz ?_; (with_reducible refine (spec_l2Run.calls k a0 a1 t116 _ A8.out).mono ?_); rintro e w' ⟨rfl, ⟨nd, rfl⟩⟩; refine ⟨_, rfl, ?_⟩) | ((with_reducible refine gate_callee (f := 40) rfl ?_); refine goesL_ (some 27) rfl rfl Tryd.func40 (by kernel_rfl) rfl #[.string (a0.extract (a1 : Int).toNat (t116 : Int).toNat)] rfl mz ?_; (with_reducible refine (spec_WordOk.calls (a0.extract (a1 : Int).toNat (t116 : Int).toNat) true _ A12.out).mono ?_); rintro e w' ⟨rfl, ⟨nd, rfl⟩⟩; refine ⟨_, rfl, ?_⟩; obtain ⟨hcz19_0,hcz19_1,hcz19_2,hcz19_3,hfz19_0,hfz19_1,hfz19_2,hfz19_3⟩ := cB4 BK113))
    refine bodyPost_ret (results_ctt rfl _ _ gb113 42 #[.int .i64 3, .int .i64 a1, .string (a0.extract (a1 : Int).toNat (t116 : Int).toNat), .int .i64 0] (0, 0) _ rfl (by refine pf ?_; refine blk_put (cs := #[.int .i64 3, .int .i64 a1, .string (a0.extract (a1 : Int).toNat (t116 : Int).toNat), .int .i64 0]) ?_ 3 _ rfl; refine pf ?_; refine blk_put (cs := #[.int .i64 3, .int .i64 a1, .string (⟨#[]⟩ : ByteArray), .int .i64 0]) ?_ 2 _ rfl; refine pf ?_; refine blk_put (cs := #[.int .i64 3, .int .i64 0, .string (⟨#[]⟩ : ByteArray), .int .i64 0]) ?_ 1 _ rfl; refine pf ?_; refine blk_put (cs := #[.int .i64 0, .int .i64 0, .string (⟨#[]⟩ : ByteArray), .int .i64 0]) ?_ 0 _ rfl; refine fa NB113_114 ?_; refine fa NB113_114 ?_; refine fa NB113_114 ?_; refine fa NB113_114 ?_; refine fa NB113_114 ?_; refine fa NB113_114 ?_; refine fa NB113_114 ?_; exact Z BK113) Tryd.underlying42 rfl (by kernel_rfl)) rfl ?_
    exact ⟨ez, YA HB⟩
   rw [if_neg c14] at H
   have c14b0 := dF c14
   have c14b0e : decide (8 < ((((t116 : Int).toNat - (a1 : Int).toNat) : Nat) : Int)) = false := by have z_ := of_decide_eq_true c11b1; have e_ : (a0.extract (a1 : Int).toNat (t116 : Int).toNat).size = ((t116 : Int).toNat - (a1 : Int).toNat) := (by rw [ByteArray.size_extract]; omega); rw [← e_]; exact c14b0
   have c14b1 : decide (8 < (a0.extract (a1 : Int).toNat (t116 : Int).toNat).size) = false := decide_eq_false (by omega)
   clear c14
   simp only [Option.some.injEq, Prod.mk.injEq] at H
   obtain ⟨rfl, rfl, rfl, rfl, rfl, rfl⟩ := H
   go_enter Tryd.func25, Tryd.ntmps25
   go_wp2_with (first | ((with_reducible refine gate_dst (N := 4) rfl ?_); refine bx 4 #[.int .i64 0, .int .i64 0, .string (⟨#[]⟩ : ByteArray), .int .i64 0] 42 ?_; intro gb113 hg w20 hbox hb; have BK113 := am (hbox); have GW113 := am (bs hg (YA HB)); have GE113 := GW113; replace HB := am (below_step (YA HB) hb); clear hb hbox hg) | ((with_reducible refine gate_dst (N := 7) rfl ?_); refine bx 7 #[.int .i64 0, .int .i64 0, .string (⟨#[]⟩ : ByteArray), .int .i64 0] 42 ?_; intro gb114 hg w21 hbox hb; have BK114 := am (hbox); have GW114 := am (bs hg (YA HB)); have GE114 := GW114; obtain ⟨NB113_114,NB114_113⟩ := ne_ hg BK113; replace BK113 := bb BK113 hb; replace HB := am (below_step (YA HB) hb); clear hb hbox hg; obtain ⟨hnb22,hnc22⟩ := nn NB114_113; obtain ⟨hcz23_0,hcz23_1,hcz23_2,hcz23_3,hfz23_0,hfz23_1,hfz23_2,hfz23_3⟩ := cB4 BK114; have p5 : 0 ≤ (a1 : Int) := oz; have q5 : a1 < (a0.size : Int) := oz; have hx5 := bt_at a0 a1; replace p5 := eq_true p5; replace q5 := eq_true q5) | ((with_reducible refine gate_callee (f := 38) rfl ?_); refine goesL_ (some 15) rfl rfl Tryd.func38 (by kernel_rfl) rfl #[.int .u8 (bt a0 a1)] rfl mz ?_; (with_reducible refine (spec_l2Letter.calls (bt a0 a1) true _ A6.out).mono ?_); rintro e w' ⟨rfl, ⟨nd, rfl⟩⟩; refine ⟨_, rfl, ?_⟩) | ((with_reducible refine gate_callee (f := 39) rfl ?_); refine goesL_ (some 18) rfl rfl Tryd.func39 (by kernel_rfl) rfl #[.string a0, .int .i64 a1] rfl mz ?_; (with_reducible refine (spec_l2Run.calls k a0 a1 t116 _ A8.out).mono ?_); rintro e w' ⟨rfl, ⟨nd, rfl⟩⟩; refine ⟨_, rfl, ?_⟩) | ((with_reducible refine gate_callee (f := 40) rfl ?_); refine goesL_ (some 27) rfl rfl Tryd.func40 (by kernel_rfl) rfl #[.string (a0.extract (a1 : Int).toNat (t116 : Int).toNat)] rfl mz ?_; (with_reducible refine (spec_WordOk.calls (a0.extract (a1 : Int).toNat (t116 : Int).toNat) true _ A12.out).mono ?_); rintro e w' ⟨rfl, ⟨nd, rfl⟩⟩; refine ⟨_, rfl, ?_⟩; obtain ⟨hcz24_0,hcz24_1,hcz24_2,hcz24_3,hfz24_0,hfz24_1,hfz24_2,hfz24_3⟩ := cB4 BK113))
   refine bodyPost_ret (results_ctt rfl _ _ gb113 42 #[.int .i64 3, .int .i64 a1, .string (a0.extract (a1 : Int).toNat (t116 : Int).toNat), .int .i64 0] (0, 0) _ rfl (by refine pf ?_; refine blk_put (cs := #[.int .i64 3, .int .i64 a1, .string (a0.extract (a1 : Int).toNat (t116 : Int).toNat), .int .i64 0]) ?_ 3 _ rfl; refine pf ?_; refine blk_put (cs := #[.int .i64 3, .int .i64 a1, .string (⟨#[]⟩ : ByteArray), .int .i64 0]) ?_ 2 _ rfl; refine pf ?_; refine blk_put (cs := #[.int .i64 3, .int .i64 0, .string (⟨#[]⟩ : ByteArray), .int .i64 0]) ?_ 1 _ rfl; refine pf ?_; refine blk_put (cs := #[.int .i64 0, .int .i64 0, .string (⟨#[]⟩ : ByteArray), .int .i64 0]) ?_ 0 _ rfl; refine fa NB113_114 ?_; refine fa NB113_114 ?_; refine fa NB113_114 ?_; refine fa NB113_114 ?_; refine fa NB113_114 ?_; refine fa NB113_114 ?_; refine fa NB113_114 ?_; exact Z BK113) Tryd.underlying42 rfl (by kernel_rfl)) rfl ?_
   exact ⟨ez, YA HB⟩
  replace c13 := Bool.eq_false_iff.mpr c13
  subst c13
  rw [if_neg (show ¬ (false = true) by decide)] at H
  by_cases c25 : ((a0.extract (a1 : Int).toNat (t116 : Int).toNat).size : Int) > 8
  ·rw [if_pos c25] at H
   have c25b0 := dT c25
   have c25b0e : decide (8 < ((((t116 : Int).toNat - (a1 : Int).toNat) : Nat) : Int)) = true := by have z_ := of_decide_eq_true c11b1; have e_ : (a0.extract (a1 : Int).toNat (t116 : Int).toNat).size = ((t116 : Int).toNat - (a1 : Int).toNat) := (by rw [ByteArray.size_extract]; omega); rw [← e_]; exact c25b0
   have c25b1 : decide (8 < (a0.extract (a1 : Int).toNat (t116 : Int).toNat).size) = true := decide_eq_true (by omega)
   clear c25
   simp only [Option.some.injEq, Prod.mk.injEq] at H
   obtain ⟨rfl, rfl, rfl, rfl, rfl, rfl⟩ := H
   go_enter Tryd.func25, Tryd.ntmps25
   go_wp2_with (first | ((with_reducible refine gate_dst (N := 4) rfl ?_); refine bx 4 #[.int .i64 0, .int .i64 0, .string (⟨#[]⟩ : ByteArray), .int .i64 0] 42 ?_; intro gb113 hg w26 hbox hb; have BK113 := am (hbox); have GW113 := am (bs hg (YA HB)); have GE113 := GW113; replace HB := am (below_step (YA HB) hb); clear hb hbox hg) | ((with_reducible refine gate_dst (N := 7) rfl ?_); refine bx 7 #[.int .i64 0, .int .i64 0, .string (⟨#[]⟩ : ByteArray), .int .i64 0] 42 ?_; intro gb114 hg w27 hbox hb; have BK114 := am (hbox); have GW114 := am (bs hg (YA HB)); have GE114 := GW114; obtain ⟨NB113_114,NB114_113⟩ := ne_ hg BK113; replace BK113 := bb BK113 hb; replace HB := am (below_step (YA HB) hb); clear hb hbox hg; obtain ⟨hnb28,hnc28⟩ := nn NB114_113; obtain ⟨hcz29_0,hcz29_1,hcz29_2,hcz29_3,hfz29_0,hfz29_1,hfz29_2,hfz29_3⟩ := cB4 BK114; have p5 : 0 ≤ (a1 : Int) := oz; have q5 : a1 < (a0.size : Int) := oz; have hx5 := bt_at a0 a1; replace p5 := eq_true p5; replace q5 := eq_true q5) | ((with_reducible refine gate_callee (f := 38) rfl ?_); refine goesL_ (some 15) rfl rfl Tryd.func38 (by kernel_rfl) rfl #[.int .u8 (bt a0 a1)] rfl mz ?_; (with_reducible refine (spec_l2Letter.calls (bt a0 a1) true _ A6.out).mono ?_); rintro e w' ⟨rfl, ⟨nd, rfl⟩⟩; refine ⟨_, rfl, ?_⟩) | ((with_reducible refine gate_callee (f := 39) rfl ?_); refine goesL_ (some 18) rfl rfl Tryd.func39 (by kernel_rfl) rfl #[.string a0, .int .i64 a1] rfl mz ?_; (with_reducible refine (spec_l2Run.calls k a0 a1 t116 _ A8.out).mono ?_); rintro e w' ⟨rfl, ⟨nd, rfl⟩⟩; refine ⟨_, rfl, ?_⟩) | ((with_reducible refine gate_callee (f := 40) rfl ?_); refine goesL_ (some 27) rfl rfl Tryd.func40 (by kernel_rfl) rfl #[.string (a0.extract (a1 : Int).toNat (t116 : Int).toNat)] rfl mz ?_; (with_reducible refine (spec_WordOk.calls (a0.extract (a1 : Int).toNat (t116 : Int).toNat) false _ A12.out).mono ?_); rintro e w' ⟨rfl, ⟨nd, rfl⟩⟩; refine ⟨_, rfl, ?_⟩; obtain ⟨hcz30_0,hcz30_1,hcz30_2,hcz30_3,hfz30_0,hfz30_1,hfz30_2,hfz30_3⟩ := cB4 BK113))
   refine bodyPost_ret (results_ctt rfl _ _ gb113 42 #[.int .i64 1, .int .i64 a1, .string (a0.extract (a1 : Int).toNat (t116 : Int).toNat), .int .i64 0] (0, 0) _ rfl (by refine pf ?_; refine blk_put (cs := #[.int .i64 1, .int .i64 a1, .string (a0.extract (a1 : Int).toNat (t116 : Int).toNat), .int .i64 0]) ?_ 3 _ rfl; refine pf ?_; refine blk_put (cs := #[.int .i64 1, .int .i64 a1, .string (⟨#[]⟩ : ByteArray), .int .i64 0]) ?_ 2 _ rfl; refine pf ?_; refine blk_put (cs := #[.int .i64 1, .int .i64 0, .string (⟨#[]⟩ : ByteArray), .int .i64 0]) ?_ 1 _ rfl; refine pf ?_; refine blk_put (cs := #[.int .i64 0, .int .i64 0, .string (⟨#[]⟩ : ByteArray), .int .i64 0]) ?_ 0 _ rfl; refine fa NB113_114 ?_; refine fa NB113_114 ?_; refine fa NB113_114 ?_; refine fa NB113_114 ?_; refine fa NB113_114 ?_; refine fa NB113_114 ?_; exact Z BK113) Tryd.underlying42 rfl (by kernel_rfl)) rfl ?_
   exact ⟨ez, YA HB⟩
  rw [if_neg c25] at H
  have c25b0 := dF c25
  have c25b0e : decide (8 < ((((t116 : Int).toNat - (a1 : Int).toNat) : Nat) : Int)) = false := by have z_ := of_decide_eq_true c11b1; have e_ : (a0.extract (a1 : Int).toNat (t116 : Int).toNat).size = ((t116 : Int).toNat - (a1 : Int).toNat) := (by rw [ByteArray.size_extract]; omega); rw [← e_]; exact c25b0
  have c25b1 : decide (8 < (a0.extract (a1 : Int).toNat (t116 : Int).toNat).size) = false := decide_eq_false (by omega)
  clear c25
  simp only [Option.some.injEq, Prod.mk.injEq] at H
  obtain ⟨rfl, rfl, rfl, rfl, rfl, rfl⟩ := H
  go_enter Tryd.func25, Tryd.ntmps25
  go_wp2_with (first | ((with_reducible refine gate_dst (N := 4) rfl ?_); refine bx 4 #[.int .i64 0, .int .i64 0, .string (⟨#[]⟩ : ByteArray), .int .i64 0] 42 ?_; intro gb113 hg w31 hbox hb; have BK113 := am (hbox); have GW113 := am (bs hg (YA HB)); have GE113 := GW113; replace HB := am (below_step (YA HB) hb); clear hb hbox hg) | ((with_reducible refine gate_dst (N := 7) rfl ?_); refine bx 7 #[.int .i64 0, .int .i64 0, .string (⟨#[]⟩ : ByteArray), .int .i64 0] 42 ?_; intro gb114 hg w32 hbox hb; have BK114 := am (hbox); have GW114 := am (bs hg (YA HB)); have GE114 := GW114; obtain ⟨NB113_114,NB114_113⟩ := ne_ hg BK113; replace BK113 := bb BK113 hb; replace HB := am (below_step (YA HB) hb); clear hb hbox hg; obtain ⟨hnb33,hnc33⟩ := nn NB114_113; obtain ⟨hcz34_0,hcz34_1,hcz34_2,hcz34_3,hfz34_0,hfz34_1,hfz34_2,hfz34_3⟩ := cB4 BK114; have p5 : 0 ≤ (a1 : Int) := oz; have q5 : a1 < (a0.size : Int) := oz; have hx5 := bt_at a0 a1; replace p5 := eq_true p5; replace q5 := eq_true q5) | ((with_reducible refine gate_callee (f := 38) rfl ?_); refine goesL_ (some 15) rfl rfl Tryd.func38 (by kernel_rfl) rfl #[.int .u8 (bt a0 a1)] rfl mz ?_; (with_reducible refine (spec_l2Letter.calls (bt a0 a1) true _ A6.out).mono ?_); rintro e w' ⟨rfl, ⟨nd, rfl⟩⟩; refine ⟨_, rfl, ?_⟩) | ((with_reducible refine gate_callee (f := 39) rfl ?_); refine goesL_ (some 18) rfl rfl Tryd.func39 (by kernel_rfl) rfl #[.string a0, .int .i64 a1] rfl mz ?_; (with_reducible refine (spec_l2Run.calls k a0 a1 t116 _ A8.out).mono ?_); rintro e w' ⟨rfl, ⟨nd, rfl⟩⟩; refine ⟨_, rfl, ?_⟩) | ((with_reducible refine gate_callee (f := 40) rfl ?_); refine goesL_ (some 27) rfl rfl Tryd.func40 (by kernel_rfl) rfl #[.string (a0.extract (a1 : Int).toNat (t116 : Int).toNat)] rfl mz ?_; (with_reducible refine (spec_WordOk.calls (a0.extract (a1 : Int).toNat (t116 : Int).toNat) false _ A12.out).mono ?_); rintro e w' ⟨rfl, ⟨nd, rfl⟩⟩; refine ⟨_, rfl, ?_⟩; obtain ⟨hcz35_0,hcz35_1,hcz35_2,hcz35_3,hfz35_0,hfz35_1,hfz35_2,hfz35_3⟩ := cB4 BK113))
  refine bodyPost_ret (results_ctt rfl _ _ gb113 42 #[.int .i64 1, .int .i64 a1, .string (a0.extract (a1 : Int).toNat (t116 : Int).toNat), .int .i64 0] (0, 0) _ rfl (by refine pf ?_; refine blk_put (cs := #[.int .i64 1, .int .i64 a1, .string (a0.extract (a1 : Int).toNat (t116 : Int).toNat), .int .i64 0]) ?_ 3 _ rfl; refine pf ?_; refine blk_put (cs := #[.int .i64 1, .int .i64 a1, .string (⟨#[]⟩ : ByteArray), .int .i64 0]) ?_ 2 _ rfl; refine pf ?_; refine blk_put (cs := #[.int .i64 1, .int .i64 0, .string (⟨#[]⟩ : ByteArray), .int .i64 0]) ?_ 1 _ rfl; refine pf ?_; refine blk_put (cs := #[.int .i64 0, .int .i64 0, .string (⟨#[]⟩ : ByteArray), .int .i64 0]) ?_ 0 _ rfl; refine fa NB113_114 ?_; refine fa NB113_114 ?_; refine fa NB113_114 ?_; refine fa NB113_114 ?_; refine fa NB113_114 ?_; refine fa NB113_114 ?_; exact Z BK113) Tryd.underlying42 rfl (by kernel_rfl)) rfl ?_
  exact ⟨ez, YA HB⟩
 replace c7 := Bool.eq_false_iff.mpr c7
 subst c7
 rw [if_neg (show ¬ (false = true) by decide)] at H
 replace H := Option.bind_eq_some_iff.mp H
 obtain ⟨t118, A370, H⟩ := H
 try dsimp only at H
 have A37 := am A370
 clear A370
 by_cases c38 : t118 = true
 ·subst c38
  rw [if_pos rfl] at H
  replace H := Option.bind_eq_some_iff.mp H
  obtain ⟨t119, A390, H⟩ := H
  try dsimp only at H
  have A39 := am A390
  clear A390
  have c40b0 := eq_true (oz : 0 ≤ a1)
  by_cases c41 : a1 ≤ t119
  rotate_left
  ·rw [if_neg c41] at H
   exact absurd H (by simp)
  rw [if_pos c41] at H
  have c41b0 := eq_true c41
  have c41b1 := dT c41
  clear c41
  by_cases c42 : t119 ≤ (a0.size : Int)
  rotate_left
  ·rw [if_neg c42] at H
   exact absurd H (by simp)
  rw [if_pos c42] at H
  have c42b0 := eq_true c42
  have c42b1 := dT c42
  clear c42
  replace H := Option.bind_eq_some_iff.mp H
  obtain ⟨t120, A430, H⟩ := H
  try dsimp only at H
  have A43 := am A430
  clear A430
  by_cases c44 : t120 < 0
  ·rw [if_pos c44] at H
   have c44b0 := dT c44
   clear c44
   simp only [Option.some.injEq, Prod.mk.injEq] at H
   obtain ⟨rfl, rfl, rfl, rfl, rfl, rfl⟩ := H
   go_enter Tryd.func25, Tryd.ntmps25
   go_wp2_with (first | ((with_reducible refine gate_dst (N := 4) rfl ?_); refine bx 4 #[.int .i64 0, .int .i64 0, .string (⟨#[]⟩ : ByteArray), .int .i64 0] 42 ?_; intro gb113 hg w45 hbox hb; have BK113 := am (hbox); have GW113 := am (bs hg (YA HB)); have GE113 := GW113; replace HB := am (below_step (YA HB) hb); clear hb hbox hg) | ((with_reducible refine gate_dst (N := 7) rfl ?_); refine bx 7 #[.int .i64 0, .int .i64 0, .string (⟨#[]⟩ : ByteArray), .int .i64 0] 42 ?_; intro gb114 hg w46 hbox hb; have BK114 := am (hbox); have GW114 := am (bs hg (YA HB)); have GE114 := GW114; obtain ⟨NB113_114,NB114_113⟩ := ne_ hg BK113; replace BK113 := bb BK113 hb; replace HB := am (below_step (YA HB) hb); clear hb hbox hg; obtain ⟨hnb47,hnc47⟩ := nn NB114_113; obtain ⟨hcz48_0,hcz48_1,hcz48_2,hcz48_3,hfz48_0,hfz48_1,hfz48_2,hfz48_3⟩ := cB4 BK114; have p5 : 0 ≤ (a1 : Int) := oz; have q5 : a1 < (a0.size : Int) := oz; have hx5 := bt_at a0 a1; replace p5 := eq_true p5; replace q5 := eq_true q5) | ((with_reducible refine gate_callee (f := 38) rfl ?_); refine goesL_ (some 15) rfl rfl Tryd.func38 (by kernel_rfl) rfl #[.int .u8 (bt a0 a1)] rfl mz ?_; (with_reducible refine (spec_l2Letter.calls (bt a0 a1) false _ A6.out).mono ?_); rintro e w' ⟨rfl, ⟨nd, rfl⟩⟩; refine ⟨_, rfl, ?_⟩; have p36 : 0 ≤ (a1 : Int) := oz; have q36 : a1 < (a0.size : Int) := oz; have hx36 := bt_at a0 a1; replace p36 := eq_true p36; replace q36 := eq_true q36) | ((with_reducible refine gate_callee (f := 41) rfl ?_); refine goesL_ (some 40) rfl rfl Tryd.func41 (by kernel_rfl) rfl #[.int .u8 (bt a0 a1)] rfl mz ?_; (with_reducible refine (spec_l2Digit.calls (bt a0 a1) true _ A37.out).mono ?_); rintro e w' ⟨rfl, ⟨nd, rfl⟩⟩; refine ⟨_, rfl, ?_⟩) | ((with_reducible refine gate_callee (f := 42) rfl ?_); refine goesL_ (some 43) rfl rfl Tryd.func42 (by kernel_rfl) rfl #[.string a0, .int .i64 a1] rfl mz ?_; (with_reducible refine (spec_l2Digits.calls k a0 a1 t119 _ A39.out).mono ?_); rintro e w' ⟨rfl, ⟨nd, rfl⟩⟩; refine ⟨_, rfl, ?_⟩) | ((with_reducible refine gate_callee (f := 43) rfl ?_); refine goesL_ (some 52) rfl rfl Tryd.func43 (by kernel_rfl) rfl #[.string (a0.extract (a1 : Int).toNat (t119 : Int).toNat)] rfl mz ?_; (with_reducible refine (spec_l2Value.calls k (a0.extract (a1 : Int).toNat (t119 : Int).toNat) t120 _ A43.out).mono ?_); rintro e w' ⟨rfl, ⟨nd, rfl⟩⟩; refine ⟨_, rfl, ?_⟩; obtain ⟨hcz49_0,hcz49_1,hcz49_2,hcz49_3,hfz49_0,hfz49_1,hfz49_2,hfz49_3⟩ := cB4 BK113))
   refine bodyPost_ret (results_ctt rfl _ _ gb113 42 #[.int .i64 2, .int .i64 a1, .string (a0.extract (a1 : Int).toNat (t119 : Int).toNat), .int .i64 t120] (0, 0) _ rfl (by refine pf ?_; refine blk_put (cs := #[.int .i64 2, .int .i64 a1, .string (a0.extract (a1 : Int).toNat (t119 : Int).toNat), .int .i64 0]) ?_ 3 _ rfl; refine pf ?_; refine blk_put (cs := #[.int .i64 2, .int .i64 a1, .string (⟨#[]⟩ : ByteArray), .int .i64 0]) ?_ 2 _ rfl; refine pf ?_; refine blk_put (cs := #[.int .i64 2, .int .i64 0, .string (⟨#[]⟩ : ByteArray), .int .i64 0]) ?_ 1 _ rfl; refine pf ?_; refine blk_put (cs := #[.int .i64 0, .int .i64 0, .string (⟨#[]⟩ : ByteArray), .int .i64 0]) ?_ 0 _ rfl; refine fa NB113_114 ?_; refine fa NB113_114 ?_; refine fa NB113_114 ?_; refine fa NB113_114 ?_; refine fa NB113_114 ?_; refine fa NB113_114 ?_; refine fa NB113_114 ?_; exact Z BK113) Tryd.underlying42 rfl (by kernel_rfl)) rfl ?_
   exact ⟨ez, YA HB⟩
  rw [if_neg c44] at H
  have c44b0 := dF c44
  clear c44
  simp only [Option.some.injEq, Prod.mk.injEq] at H
  obtain ⟨rfl, rfl, rfl, rfl, rfl, rfl⟩ := H
  go_enter Tryd.func25, Tryd.ntmps25
  go_wp2_with (first | ((with_reducible refine gate_dst (N := 4) rfl ?_); refine bx 4 #[.int .i64 0, .int .i64 0, .string (⟨#[]⟩ : ByteArray), .int .i64 0] 42 ?_; intro gb113 hg w50 hbox hb; have BK113 := am (hbox); have GW113 := am (bs hg (YA HB)); have GE113 := GW113; replace HB := am (below_step (YA HB) hb); clear hb hbox hg) | ((with_reducible refine gate_dst (N := 7) rfl ?_); refine bx 7 #[.int .i64 0, .int .i64 0, .string (⟨#[]⟩ : ByteArray), .int .i64 0] 42 ?_; intro gb114 hg w51 hbox hb; have BK114 := am (hbox); have GW114 := am (bs hg (YA HB)); have GE114 := GW114; obtain ⟨NB113_114,NB114_113⟩ := ne_ hg BK113; replace BK113 := bb BK113 hb; replace HB := am (below_step (YA HB) hb); clear hb hbox hg; obtain ⟨hnb52,hnc52⟩ := nn NB114_113; obtain ⟨hcz53_0,hcz53_1,hcz53_2,hcz53_3,hfz53_0,hfz53_1,hfz53_2,hfz53_3⟩ := cB4 BK114; have p5 : 0 ≤ (a1 : Int) := oz; have q5 : a1 < (a0.size : Int) := oz; have hx5 := bt_at a0 a1; replace p5 := eq_true p5; replace q5 := eq_true q5) | ((with_reducible refine gate_callee (f := 38) rfl ?_); refine goesL_ (some 15) rfl rfl Tryd.func38 (by kernel_rfl) rfl #[.int .u8 (bt a0 a1)] rfl mz ?_; (with_reducible refine (spec_l2Letter.calls (bt a0 a1) false _ A6.out).mono ?_); rintro e w' ⟨rfl, ⟨nd, rfl⟩⟩; refine ⟨_, rfl, ?_⟩; have p36 : 0 ≤ (a1 : Int) := oz; have q36 : a1 < (a0.size : Int) := oz; have hx36 := bt_at a0 a1; replace p36 := eq_true p36; replace q36 := eq_true q36) | ((with_reducible refine gate_callee (f := 41) rfl ?_); refine goesL_ (some 40) rfl rfl Tryd.func41 (by kernel_rfl) rfl #[.int .u8 (bt a0 a1)] rfl mz ?_; (with_reducible refine (spec_l2Digit.calls (bt a0 a1) true _ A37.out).mono ?_); rintro e w' ⟨rfl, ⟨nd, rfl⟩⟩; refine ⟨_, rfl, ?_⟩) | ((with_reducible refine gate_callee (f := 42) rfl ?_); refine goesL_ (some 43) rfl rfl Tryd.func42 (by kernel_rfl) rfl #[.string a0, .int .i64 a1] rfl mz ?_; (with_reducible refine (spec_l2Digits.calls k a0 a1 t119 _ A39.out).mono ?_); rintro e w' ⟨rfl, ⟨nd, rfl⟩⟩; refine ⟨_, rfl, ?_⟩) | ((with_reducible refine gate_callee (f := 43) rfl ?_); refine goesL_ (some 52) rfl rfl Tryd.func43 (by kernel_rfl) rfl #[.string (a0.extract (a1 : Int).toNat (t119 : Int).toNat)] rfl mz ?_; (with_reducible refine (spec_l2Value.calls k (a0.extract (a1 : Int).toNat (t119 : Int).toNat) t120 _ A43.out).mono ?_); rintro e w' ⟨rfl, ⟨nd, rfl⟩⟩; refine ⟨_, rfl, ?_⟩; obtain ⟨hcz54_0,hcz54_1,hcz54_2,hcz54_3,hfz54_0,hfz54_1,hfz54_2,hfz54_3⟩ := cB4 BK113))
  refine bodyPost_ret (results_ctt rfl _ _ gb113 42 #[.int .i64 2, .int .i64 a1, .string (a0.extract (a1 : Int).toNat (t119 : Int).toNat), .int .i64 t120] (0, 0) _ rfl (by refine pf ?_; refine blk_put (cs := #[.int .i64 2, .int .i64 a1, .string (a0.extract (a1 : Int).toNat (t119 : Int).toNat), .int .i64 0]) ?_ 3 _ rfl; refine pf ?_; refine blk_put (cs := #[.int .i64 2, .int .i64 a1, .string (⟨#[]⟩ : ByteArray), .int .i64 0]) ?_ 2 _ rfl; refine pf ?_; refine blk_put (cs := #[.int .i64 2, .int .i64 0, .string (⟨#[]⟩ : ByteArray), .int .i64 0]) ?_ 1 _ rfl; refine pf ?_; refine blk_put (cs := #[.int .i64 0, .int .i64 0, .string (⟨#[]⟩ : ByteArray), .int .i64 0]) ?_ 0 _ rfl; refine fa NB113_114 ?_; refine fa NB113_114 ?_; refine fa NB113_114 ?_; refine fa NB113_114 ?_; refine fa NB113_114 ?_; refine fa NB113_114 ?_; refine fa NB113_114 ?_; exact Z BK113) Tryd.underlying42 rfl (by kernel_rfl)) rfl ?_
  exact ⟨ez, YA HB⟩
 replace c38 := Bool.eq_false_iff.mpr c38
 subst c38
 rw [if_neg (show ¬ (false = true) by decide)] at H
 replace H := Option.bind_eq_some_iff.mp H
 obtain ⟨t121, A550, H⟩ := H
 try dsimp only at H
 have A55 := am A550
 clear A550
 by_cases c56 : t121.toList = ([] : List UInt8)
 ·rw [if_pos c56] at H
  have c56b0 := eT c56
  have c56b1 := nF c56
  clear c56
  simp only [Option.some.injEq, Prod.mk.injEq] at H
  obtain ⟨rfl, rfl, rfl, rfl, rfl, rfl⟩ := H
  go_enter Tryd.func25, Tryd.ntmps25
  go_wp2_with (first | ((with_reducible refine gate_dst (N := 4) rfl ?_); refine bx 4 #[.int .i64 0, .int .i64 0, .string (⟨#[]⟩ : ByteArray), .int .i64 0] 42 ?_; intro gb113 hg w57 hbox hb; have BK113 := am (hbox); have GW113 := am (bs hg (YA HB)); have GE113 := GW113; replace HB := am (below_step (YA HB) hb); clear hb hbox hg) | ((with_reducible refine gate_dst (N := 7) rfl ?_); refine bx 7 #[.int .i64 0, .int .i64 0, .string (⟨#[]⟩ : ByteArray), .int .i64 0] 42 ?_; intro gb114 hg w58 hbox hb; have BK114 := am (hbox); have GW114 := am (bs hg (YA HB)); have GE114 := GW114; obtain ⟨NB113_114,NB114_113⟩ := ne_ hg BK113; replace BK113 := bb BK113 hb; replace HB := am (below_step (YA HB) hb); clear hb hbox hg; obtain ⟨hnb59,hnc59⟩ := nn NB114_113; obtain ⟨hcz60_0,hcz60_1,hcz60_2,hcz60_3,hfz60_0,hfz60_1,hfz60_2,hfz60_3⟩ := cB4 BK114; have p5 : 0 ≤ (a1 : Int) := oz; have q5 : a1 < (a0.size : Int) := oz; have hx5 := bt_at a0 a1; replace p5 := eq_true p5; replace q5 := eq_true q5) | ((with_reducible refine gate_callee (f := 38) rfl ?_); refine goesL_ (some 15) rfl rfl Tryd.func38 (by kernel_rfl) rfl #[.int .u8 (bt a0 a1)] rfl mz ?_; (with_reducible refine (spec_l2Letter.calls (bt a0 a1) false _ A6.out).mono ?_); rintro e w' ⟨rfl, ⟨nd, rfl⟩⟩; refine ⟨_, rfl, ?_⟩; have p36 : 0 ≤ (a1 : Int) := oz; have q36 : a1 < (a0.size : Int) := oz; have hx36 := bt_at a0 a1; replace p36 := eq_true p36; replace q36 := eq_true q36) | ((with_reducible refine gate_callee (f := 41) rfl ?_); refine goesL_ (some 40) rfl rfl Tryd.func41 (by kernel_rfl) rfl #[.int .u8 (bt a0 a1)] rfl mz ?_; (with_reducible refine (spec_l2Digit.calls (bt a0 a1) false _ A37.out).mono ?_); rintro e w' ⟨rfl, ⟨nd, rfl⟩⟩; refine ⟨_, rfl, ?_⟩) | ((with_reducible refine gate_callee (f := 8) rfl ?_); refine goesL_ (some 64) rfl rfl Tryd.func8 (by kernel_rfl) rfl #[.string a0, .int .i64 a1] rfl mz ?_; (with_reducible refine (spec_SignAt.calls k a0 a1 t121 _ A55.out).mono ?_); rintro e w61 ⟨rfl, hb⟩; refine ⟨_, rfl, ?_⟩; replace BK113 := am (blk_below (g := gb113) (o := .cells #[.int .i64 0, .int .i64 0, .string (⟨#[]⟩ : ByteArray), .int .i64 0] 42 (0, 0)) (by refine fa NB113_114 ?_; refine fa NB113_114 ?_; refine fa NB113_114 ?_; refine fa NB113_114 ?_; refine fa NB113_114 ?_; exact Z BK113) hb); replace BK114 := am (blk_below (g := gb114) (o := .cells #[.int .i64 4, .int .i64 a1, .string (⟨#[]⟩ : ByteArray), .int .i64 0] 42 (0, 0)) (by refine pf ?_; refine blk_put (cs := #[.int .i64 0, .int .i64 a1, .string (⟨#[]⟩ : ByteArray), .int .i64 0]) ?_ 0 _ rfl; refine pf ?_; refine blk_put (cs := #[.int .i64 0, .int .i64 a1, .string (⟨#[]⟩ : ByteArray), .int .i64 0]) ?_ 3 _ rfl; refine pf ?_; refine blk_put (cs := #[.int .i64 0, .int .i64 a1, .string (⟨#[]⟩ : ByteArray), .int .i64 0]) ?_ 2 _ rfl; refine pf ?_; refine blk_put (cs := #[.int .i64 0, .int .i64 0, .string (⟨#[]⟩ : ByteArray), .int .i64 0]) ?_ 1 _ rfl; refine pf ?_; refine blk_put (cs := #[.int .i64 0, .int .i64 0, .string (⟨#[]⟩ : ByteArray), .int .i64 0]) ?_ 0 _ rfl; exact Z BK114) hb); replace HB := am (below_step (YA HB) hb); (try clear hb); obtain ⟨hcz62_0,hcz62_1,hcz62_2,hcz62_3,hfz62_0,hfz62_1,hfz62_2,hfz62_3⟩ := cB4 BK114; obtain ⟨hcz63_0,hcz63_1,hcz63_2,hcz63_3,hfz63_0,hfz63_1,hfz63_2,hfz63_3⟩ := cB4 BK113))
  refine bodyPost_ret (results_ctt rfl _ _ gb113 42 #[.int .i64 4, .int .i64 a1, .string t121, .int .i64 0] (0, 0) _ rfl (by refine pf ?_; refine blk_put (cs := #[.int .i64 4, .int .i64 a1, .string t121, .int .i64 0]) ?_ 3 _ rfl; refine pf ?_; refine blk_put (cs := #[.int .i64 4, .int .i64 a1, .string (⟨#[]⟩ : ByteArray), .int .i64 0]) ?_ 2 _ rfl; refine pf ?_; refine blk_put (cs := #[.int .i64 4, .int .i64 0, .string (⟨#[]⟩ : ByteArray), .int .i64 0]) ?_ 1 _ rfl; refine pf ?_; refine blk_put (cs := #[.int .i64 0, .int .i64 0, .string (⟨#[]⟩ : ByteArray), .int .i64 0]) ?_ 0 _ rfl; refine fa NB113_114 ?_; exact Z BK113) Tryd.underlying42 rfl (by kernel_rfl)) rfl ?_
  exact ⟨ez, YA HB⟩
 rw [if_neg c56] at H
 have c56b0 := eF c56
 have c56b1 := nT c56
 simp only [Option.some.injEq, Prod.mk.injEq] at H
 obtain ⟨rfl, rfl, rfl, rfl, rfl, rfl⟩ := H
 go_enter Tryd.func25, Tryd.ntmps25
 try go_wp2_with (first | ((with_reducible refine gate_dst (N := 4) rfl ?_); refine bx 4 #[.int .i64 0, .int .i64 0, .string (⟨#[]⟩ : ByteArray), .int .i64 0] 42 ?_; intro gb113 hg w64 hbox hb; have BK113 := am (hbox); have GW113 := am (bs hg (YA HB)); have GE113 := GW113; replace HB := am (below_step (YA HB) hb); clear hb hbox hg) | ((with_reducible refine gate_dst (N := 7) rfl ?_); refine bx 7 #[.int .i64 0, .int .i64 0, .string (⟨#[]⟩ : ByteArray), .int .i64 0] 42 ?_; intro gb114 hg w65 hbox hb; have BK114 := am (hbox); have GW114 := am (bs hg (YA HB)); have GE114 := GW114; obtain ⟨NB113_114,NB114_113⟩ := ne_ hg BK113; replace BK113 := bb BK113 hb; replace HB := am (below_step (YA HB) hb); clear hb hbox hg; obtain ⟨hnb66,hnc66⟩ := nn NB114_113; obtain ⟨hcz67_0,hcz67_1,hcz67_2,hcz67_3,hfz67_0,hfz67_1,hfz67_2,hfz67_3⟩ := cB4 BK114; have p5 : 0 ≤ (a1 : Int) := oz; have q5 : a1 < (a0.size : Int) := oz; have hx5 := bt_at a0 a1; replace p5 := eq_true p5; replace q5 := eq_true q5) | ((with_reducible refine gate_callee (f := 38) rfl ?_); refine goesL_ (some 15) rfl rfl Tryd.func38 (by kernel_rfl) rfl #[.int .u8 (bt a0 a1)] rfl mz ?_; (with_reducible refine (spec_l2Letter.calls (bt a0 a1) false _ A6.out).mono ?_); rintro e w' ⟨rfl, ⟨nd, rfl⟩⟩; refine ⟨_, rfl, ?_⟩; have p36 : 0 ≤ (a1 : Int) := oz; have q36 : a1 < (a0.size : Int) := oz; have hx36 := bt_at a0 a1; replace p36 := eq_true p36; replace q36 := eq_true q36) | ((with_reducible refine gate_callee (f := 41) rfl ?_); refine goesL_ (some 40) rfl rfl Tryd.func41 (by kernel_rfl) rfl #[.int .u8 (bt a0 a1)] rfl mz ?_; (with_reducible refine (spec_l2Digit.calls (bt a0 a1) false _ A37.out).mono ?_); rintro e w' ⟨rfl, ⟨nd, rfl⟩⟩; refine ⟨_, rfl, ?_⟩) | ((with_reducible refine gate_callee (f := 8) rfl ?_); refine goesL_ (some 64) rfl rfl Tryd.func8 (by kernel_rfl) rfl #[.string a0, .int .i64 a1] rfl mz ?_; (with_reducible refine (spec_SignAt.calls k a0 a1 t121 _ A55.out).mono ?_); rintro e w68 ⟨rfl, hb⟩; refine ⟨_, rfl, ?_⟩; replace BK113 := am (blk_below (g := gb113) (o := .cells #[.int .i64 0, .int .i64 0, .string (⟨#[]⟩ : ByteArray), .int .i64 0] 42 (0, 0)) (by refine fa NB113_114 ?_; refine fa NB113_114 ?_; refine fa NB113_114 ?_; refine fa NB113_114 ?_; refine fa NB113_114 ?_; exact Z BK113) hb); replace BK114 := am (blk_below (g := gb114) (o := .cells #[.int .i64 4, .int .i64 a1, .string (⟨#[]⟩ : ByteArray), .int .i64 0] 42 (0, 0)) (by refine pf ?_; refine blk_put (cs := #[.int .i64 0, .int .i64 a1, .string (⟨#[]⟩ : ByteArray), .int .i64 0]) ?_ 0 _ rfl; refine pf ?_; refine blk_put (cs := #[.int .i64 0, .int .i64 a1, .string (⟨#[]⟩ : ByteArray), .int .i64 0]) ?_ 3 _ rfl; refine pf ?_; refine blk_put (cs := #[.int .i64 0, .int .i64 a1, .string (⟨#[]⟩ : ByteArray), .int .i64 0]) ?_ 2 _ rfl; refine pf ?_; refine blk_put (cs := #[.int .i64 0, .int .i64 0, .string (⟨#[]⟩ : ByteArray), .int .i64 0]) ?_ 1 _ rfl; refine pf ?_; refine blk_put (cs := #[.int .i64 0, .int .i64 0, .string (⟨#[]⟩ : ByteArray), .int .i64 0]) ?_ 0 _ rfl; exact Z BK114) hb); replace HB := am (below_step (YA HB) hb); (try clear hb); obtain ⟨hcz69_0,hcz69_1,hcz69_2,hcz69_3,hfz69_0,hfz69_1,hfz69_2,hfz69_3⟩ := cB4 BK114))
 have n0_ : Aside0 ((w68.setCell ⟨gb114, 2, none⟩ (.string t121)).heap[gb113]? = some (.cells #[.int .i64 0, .int .i64 0, .string (⟨#[]⟩ : ByteArray), .int .i64 0] 42 (0, 0))) := ⟨by refine fa NB113_114 ?_; exact Z BK113⟩
 have n1_ : Aside0 ((w68.setCell ⟨gb114, 2, none⟩ (.string t121)).heap[gb114]? = some (.cells #[.int .i64 4, .int .i64 a1, .string t121, .int .i64 0] 42 (0, 0))) := ⟨by refine pf ?_; refine blk_put (cs := #[.int .i64 4, .int .i64 a1, .string (⟨#[]⟩ : ByteArray), .int .i64 0]) ?_ 2 _ rfl; exact Z BK114⟩
 have n2_ : Aside0 (Below w.heap.size w (w68.setCell ⟨gb114, 2, none⟩ (.string t121))) := ⟨YA HB⟩
 (try clear BK113)
 (try clear BK114)
 (try clear HB)
 generalize (w68.setCell ⟨gb114, 2, none⟩ (.string t121)) = w70 at n0_ n1_ n2_ ⊢
 have BK113 := n0_
 have BK114 := n1_
 have HB := n2_
 clear n0_ n1_ n2_
 replace BK113 := am (blk_drew BK113.out)
 replace BK114 := am (blk_drew BK114.out)
 replace HB := am (below_drew1 HB.out)
 refine start_ (n := 9) (S := fun w' => w'.cell? ⟨gb114, 0, none⟩ = some (.int .i64 4) ∧ w'.cell? ⟨gb114, 1, none⟩ = some (.int .i64 a1) ∧ w'.cell? ⟨gb114, 2, none⟩ = some (.string t121) ∧ w'.cell? ⟨gb114, 3, none⟩ = some (.int .i64 0)) (ds := []) (lb 9 0) (by kernel_rfl) rfl rfl ⟨bc BK114 0, bc BK114 1, bc BK114 2, bc BK114 3⟩ (fun hHeld => ?_); refine with_tabW spec_l2One.tab23 spec_l2One.bits23 (fun HT_ HW_ => ?_)
 generalize w70.drew = w71 at BK113 BK114 HB hHeld ⊢
 refine pj 1 (some 72) (lb 9 2) ?_
 refine pj 2 (some 73) (lb 9 6) ?_
 refine take_ (i := 0) (N := some 71) (v := ?_) (a' := ?_) (lb 9 7) rfl rfl tw (fun _ _ _ h => h) (Or.inl ⟨by rfl, ?_⟩) hHeld ?_ ?_
 rotate_left
 ·rintro w' ⟨s0, s1, s2, s3⟩
  go_simp
  with_reducible rfl
 rotate_left
 ·exact pz
 refine take_ (i := 3) (N := some 74) (v := ?_) (a' := ?_) (lb 9 15) rfl rfl tw (fun _ _ _ h => h) (Or.inl ⟨by rfl, ?_⟩) hHeld ?_ ?_
 rotate_left
 ·rintro w' ⟨s0, s1, s2, s3⟩
  go_simp
  with_reducible rfl
 rotate_left
 ·exact pz
 refine pj 4 (some 75) (lb 9 31) ?_
 refine pj 5 (some 76) (lb 9 63) ?_
 refine one_ (i := 6) (N := none) (lb 9 127) rfl rfl ow (by decide) (fun K hK => ?_)
 have hs72 : w71.cell? ⟨gb113, 0, none⟩ = some (.int .i64 0) := bc BK113 0
 have hfs72 := blk_frozen BK113.out 0
 obtain ⟨hns72_1,hms72_1⟩ := nn NB114_113
 have hs73 : w71.cell? ⟨gb113, 1, none⟩ = some (.int .i64 0) := bc BK113 1
 have hfs73 := blk_frozen BK113.out 1
 obtain ⟨hns73_1,hms73_1⟩ := nn NB114_113
 have hs74 : w71.cell? ⟨gb113, 2, none⟩ = some (.string (⟨#[]⟩ : ByteArray)) := bc BK113 2
 have hfs74 := blk_frozen BK113.out 2
 obtain ⟨hns74_1,hms74_1⟩ := nn NB114_113
 have hs75 : w71.cell? ⟨gb113, 3, none⟩ = some (.int .i64 0) := bc BK113 3
 have hfs75 := blk_frozen BK113.out 3
 obtain ⟨hns75_1,hms75_1⟩ := nn NB114_113
 refine skip_ (w1 := ?_) (by rfl) rfl ?_ ?_
 rotate_left
 ·go_simp
  rfl
 refine hK.out _ _ ⟨((cell_far (p := ⟨gb113, _, none⟩) NB114_113.out _).trans (((cell_far (p := ⟨gb113, _, none⟩) NB114_113.out _).trans (((cell_far (p := ⟨gb113, _, none⟩) NB114_113.out _).trans (((cell_far (p := ⟨gb113, _, none⟩) NB114_113.out _).trans (hHeld.1)))))))), ((cell_far (p := ⟨gb113, _, none⟩) NB114_113.out _).trans (((cell_far (p := ⟨gb113, _, none⟩) NB114_113.out _).trans (((cell_far (p := ⟨gb113, _, none⟩) NB114_113.out _).trans (((cell_far (p := ⟨gb113, _, none⟩) NB114_113.out _).trans (hHeld.2.1)))))))), ((cell_far (p := ⟨gb113, _, none⟩) NB114_113.out _).trans (((cell_far (p := ⟨gb113, _, none⟩) NB114_113.out _).trans (((cell_far (p := ⟨gb113, _, none⟩) NB114_113.out _).trans (((cell_far (p := ⟨gb113, _, none⟩) NB114_113.out _).trans (hHeld.2.2.1)))))))), ((cell_far (p := ⟨gb113, _, none⟩) NB114_113.out _).trans (((cell_far (p := ⟨gb113, _, none⟩) NB114_113.out _).trans (((cell_far (p := ⟨gb113, _, none⟩) NB114_113.out _).trans (((cell_far (p := ⟨gb113, _, none⟩) NB114_113.out _).trans (hHeld.2.2.2))))))))⟩ (fun hHeld => ?_)
 clear hK K
 refine pj 7 (some 5) (lb 9 255) ?_
 refine pj 8 (some 6) (lb 9 511) ?_
 refine done_ (done_of HT_.out (by kernel_rfl)) ?_
 try go_wp2
 refine bodyPost_ret (results_ctt rfl _ _ gb113 42 #[.int .i64 4, .int .i64 a1, .string t121, .int .i64 0] (0, 0) _ rfl (by refine pf ?_; refine blk_put (cs := #[.int .i64 4, .int .i64 a1, .string t121, .int .i64 0]) ?_ 3 _ rfl; refine pf ?_; refine blk_put (cs := #[.int .i64 4, .int .i64 a1, .string (⟨#[]⟩ : ByteArray), .int .i64 0]) ?_ 2 _ rfl; refine pf ?_; refine blk_put (cs := #[.int .i64 4, .int .i64 0, .string (⟨#[]⟩ : ByteArray), .int .i64 0]) ?_ 1 _ rfl; refine pf ?_; refine blk_put (cs := #[.int .i64 0, .int .i64 0, .string (⟨#[]⟩ : ByteArray), .int .i64 0]) ?_ 0 _ rfl; exact Z BK113) Tryd.underlying42 rfl (by kernel_rfl)) rfl ?_
 exact ⟨ez, YA HB⟩

/-! ### spec_LexTokens: function 10 -/
attribute [local go_sem] Go.Proofs.YtnbpgnkplahknaaDoorSet.isSome_setCell
def spec_LexTokens.l0 : Nat → ByteArray → List (S42) → List (S42) → Int → Option ((List (S42)) × Int × Int)
 | 0, _, _, _, _ => none
 | k + 1, x0, x4, x5, x6 => if x6 < (x0.size : Int) then ((spec_l2One.f k x0 x6).bind fun bt130 => (if bt130.2.2.2.2.2 = 0 then (if (x5.length : Int) ≥ 700 then (some (x4, 5, x6)) else (if x5.length < 3518437208883 then ((spec_l2Skip.f k x0 bt130.2.2.2.2.1).bind fun t140 => (spec_LexTokens.l0 k x0 x4 (x5 ++ [(⟨bt130.1, bt130.2.1, bt130.2.2.1, bt130.2.2.2.1⟩ : S42)]) t140)) else (none))) else (some (x4, bt130.2.2.2.2.2, x6)))) else (some (x5, 0, 0))
def spec_LexTokens.f (k : Nat) (a0 : ByteArray) : Option ((List (S42)) × Int × Int) := (some (([] : List (S42)) : List (S42))).bind fun y123 => (if (a0.size : Int) > 3000 then (some (y123, 1, 0)) else ((spec_l2Skip.f k a0 0).bind fun t129 => (spec_LexTokens.l0 k a0 y123 (([] : List (S42))) t129)))
theorem spec_LexTokens.mono_l : ∀ k, (∀ y0 y1 y2 y3, LeO (spec_LexTokens.l0 k y0 y1 y2 y3) (spec_LexTokens.l0 (k + 1) y0 y1 y2 y3))
 | 0 => fun _ _ _ _ r h => by simp [spec_LexTokens.l0] at h
 | k + 1 => by
  have ih0 := spec_LexTokens.mono_l k
  ·intro y0 y1 y2 y3
   unfold spec_LexTokens.l0
   repeat' first | (with_reducible first | apply ih0 | apply spec_l2One.mono | apply spec_l2Skip.mono | apply LeO.refl | apply LeO.none | refine LeO.ite ?_ ?_ | refine LeO.bind ?_ (fun _ => ?_)) | apply ih0 | apply spec_l2One.mono | apply spec_l2Skip.mono | apply LeO.none | refine LeO.ite ?_ ?_ | refine LeO.bind ?_ (fun _ => ?_)
theorem spec_LexTokens.mono : ∀ a0 k, LeO (spec_LexTokens.f k a0) (spec_LexTokens.f (k + 1) a0) := by
 intro a0 k
 have ih0 := spec_LexTokens.mono_l k
 unfold spec_LexTokens.f
 repeat' first | (with_reducible first | apply ih0 | apply spec_l2One.mono | apply spec_l2Skip.mono | apply LeO.refl | apply LeO.none | refine LeO.ite ?_ ?_ | refine LeO.bind ?_ (fun _ => ?_)) | apply ih0 | apply spec_l2One.mono | apply spec_l2Skip.mono | apply LeO.none | refine LeO.ite ?_ ?_ | refine LeO.bind ?_ (fun _ => ?_)
set_option maxHeartbeats 8000000 in
set_option maxRecDepth 100000 in
theorem spec_LexTokens.calls (k : Nat) (a0 : ByteArray) (r1 : List (S42)) (r2 : Int) (r3 : Int) (w : World) (h : spec_LexTokens.f k a0 = some (r1, r2, r3)) :
  Calls Tryd.prog 10 #[.string a0] w fun e w' => ∃ v0_ : Value, e = .returned (.tuple #[v0_, .agg #[.int .i64 r2, .int .i64 r3]]) ∧ Kd.R k42 42 w' w.heap.size (fun _ => True) v0_ r1 ∧ Below w.heap.size w w' := by
 have hu26 := Tryd.underlying26
 have hu42 := Tryd.underlying42
 have HB := am (Below.refl w.heap.size w)
 have H : ((some (([] : List (S42)) : List (S42))).bind fun y123 => (if (a0.size : Int) > 3000 then (some (y123, 1, 0)) else ((spec_l2Skip.f k a0 0).bind fun t129 => (spec_LexTokens.l0 k a0 y123 (([] : List (S42))) t129)))) = some (r1, r2, r3) := h
 clear h
 obtain ⟨y123, hy123⟩ : ∃ y_ : List (S42), y_ = (([] : List (S42))) := ⟨_, rfl⟩
 replace H : (if (a0.size : Int) > 3000 then (some (y123, 1, 0)) else ((spec_l2Skip.f k a0 0).bind fun t129 => (spec_LexTokens.l0 k a0 y123 (([] : List (S42))) t129))) = some (r1, r2, r3) := by first | (rw [hy123]; with_reducible exact H) | (have H2_ := (Option.bind_some _ _).symm.trans H; rw [hy123]; with_reducible exact H2_) | (have H2_ := (Option.bind_some _ _).symm.trans H; with_reducible exact H2_) | with_reducible exact H | (rw [hy123]; exact H) | exact H
 have Ny123 := am hy123
 clear hy123
 by_cases c2 : (a0.size : Int) > 3000
 ·rw [if_pos c2] at H
  have c2b0 := dT c2
  have c2b1 : decide (3000 < a0.size) = true := decide_eq_true (by omega)
  clear c2
  simp only [Option.some.injEq, Prod.mk.injEq] at H
  obtain ⟨rfl, rfl, rfl⟩ := H
  go_enter Tryd.func10, Tryd.ntmps10
  go_wp2_with (first | ((with_reducible refine gate_dst (N := 3) rfl ?_); refine bx 3 #[.int .i64 0, .int .i64 0] 26 ?_; intro gb122 hg w3 hbox hb; have BK122 := am (hbox); have GW122 := am (bs hg (YA HB)); have GE122 := GW122; replace HB := am (below_step (YA HB) hb); clear hb hbox hg) | ((with_reducible refine gate_dst (N := 10) rfl ?_); refine Kd.R_lit k42 _ 42 ?hg (N := 10) ?hd (xs := ([] : List (S42))) (inner := []) (ok := fun _ => True) (okp := fun _ => True) ?hr ?hp (fun _ hk => hk) trivial (Below.refl _ _) (Nat.le_refl _) (by simp) ?_; (case hd => rfl); (case hg => rfl); (case hr => first | (go_simp; done) | (go_simp; rfl)); (case hp => exact (Reps.none _ _)); intro v124 w4 ho5 hb hg_ hnew_; clear hg_ hnew_; (first | rw [← Ny123.out] at ho5 | (simp only [Int.reduceToNat] at ho5; rw [← Ny123.out] at ho5)); have HO125 := am (Kd.R_lower ho5 (below_size (YA HB))); replace BK122 := bb BK122 hb; replace HB := am (below_step (YA HB) hb); clear hb ho5; obtain ⟨hcz6_0,hcz6_1,hfz6_0,hfz6_1⟩ := cB2 BK122))
  refine bodyPost_ret (results_tc rfl _ _ gb122 26 #[.int .i64 1, .int .i64 0] (0, 0) _ rfl (by refine pf ?_; refine blk_put (cs := #[.int .i64 1, .int .i64 0]) ?_ 1 _ rfl; refine pf ?_; refine blk_put (cs := #[.int .i64 0, .int .i64 0]) ?_ 0 _ rfl; exact Z BK122) Tryd.underlying26 rfl (by kernel_rfl)) rfl ?_
  exact ⟨_, ez, by (with_reducible repeat (first | apply Kd.R_alloc | apply Kd.R_drewN | apply Kd.R_drew)); exact Kd.R_mono (Kd.R_far (p := ⟨gb122, 1, none⟩) (Kd.R_far (p := ⟨gb122, 0, none⟩) (Kd.R_types HO125.out BK122.out (by decide)) (fun _ hk => hk.2) (.int .i64 1)) (fun _ hk => hk.2) (.int .i64 0)) (fun _ hk => trivial), YA HB⟩
 rw [if_neg c2] at H
 have c2b0 := dF c2
 have c2b1 : decide (3000 < a0.size) = false := decide_eq_false (by omega)
 clear c2
 obtain ⟨y126, hy126⟩ : ∃ y_ : List (S42), y_ = (([] : List (S42))) := ⟨_, rfl⟩
 replace H : ((spec_l2Skip.f k a0 0).bind fun t129 => (spec_LexTokens.l0 k a0 y123 y126 t129)) = some (r1, r2, r3) := by first | (rw [hy126]; with_reducible exact H) | (have H2_ := (Option.bind_some _ _).symm.trans H; rw [hy126]; with_reducible exact H2_) | (have H2_ := (Option.bind_some _ _).symm.trans H; with_reducible exact H2_) | with_reducible exact H | (rw [hy126]; exact H) | exact H
 have Ny126 := am hy126
 clear hy126
 replace H := Option.bind_eq_some_iff.mp H
 obtain ⟨t129, A70, H⟩ := H
 try dsimp only at H
 have A7 := am A70
 clear A70
 have H' := am H
 clear H
 go_enter Tryd.func10, Tryd.ntmps10
 go_wp2_with (first | ((with_reducible refine gate_dst (N := 3) rfl ?_); refine bx 3 #[.int .i64 0, .int .i64 0] 26 ?_; intro gb122 hg w8 hbox hb; have BK122 := am (hbox); have GW122 := am (bs hg (YA HB)); have GE122 := GW122; replace HB := am (below_step (YA HB) hb); clear hb hbox hg) | ((with_reducible refine gate_dst (N := 10) rfl ?_); refine Kd.R_lit k42 _ 42 ?hg (N := 10) ?hd (xs := ([] : List (S42))) (inner := []) (ok := fun _ => True) (okp := fun _ => True) ?hr ?hp (fun _ hk => hk) trivial (Below.refl _ _) (Nat.le_refl _) (by simp) ?_; (case hd => rfl); (case hg => rfl); (case hr => first | (go_simp; done) | (go_simp; rfl)); (case hp => exact (Reps.none _ _)); intro v124 w9 ho10 hb hg_ hnew_; clear hg_ hnew_; (first | rw [← Ny123.out] at ho10 | (simp only [Int.reduceToNat] at ho10; rw [← Ny123.out] at ho10)); have HO125 := am (Kd.R_lower ho10 (below_size (YA HB))); replace BK122 := bb BK122 hb; replace HB := am (below_step (YA HB) hb); clear hb ho10) | ((with_reducible refine gate_dst (N := 16) rfl ?_); refine Kd.R_lit k42 _ 42 ?hg (N := 16) ?hd (xs := ([] : List (S42))) (inner := []) (ok := fun _ => True) (okp := fun _ => True) ?hr ?hp (fun _ hk => hk) trivial (Below.refl _ _) (Nat.le_refl _) (by simp) ?_; (case hd => rfl); (case hg => rfl); (case hr => first | (go_simp; done) | (go_simp; rfl)); (case hp => exact (Reps.none _ _)); intro v127 w11 ho12 hb hg_ hnew_; clear hg_ hnew_; (first | rw [← Ny126.out] at ho12 | (simp only [Int.reduceToNat] at ho12; rw [← Ny126.out] at ho12)); have HO128 := am (Kd.R_lower (Kd.R_new' ho12 (Kd.R_lt (RZ HO125))) (below_size (YA HB))); replace HO125 := am (Kd.R_elder' (RZ HO125) (Kd.R_base ho12) hb); replace BK122 := bb BK122 hb; replace HB := am (below_step (YA HB) hb); clear hb ho12) | ((with_reducible refine gate_callee (f := 24) rfl ?_); refine goesL_ (some 18) rfl rfl Tryd.func24 (by kernel_rfl) rfl #[.string a0, .int .i64 0] rfl mz ?_; (with_reducible refine (spec_l2Skip.calls k a0 0 t129 _ A7.out).mono ?_); rintro e w' ⟨rfl, ⟨nd, rfl⟩⟩; refine ⟨_, rfl, ?_⟩))
 go_loopg [5, 6] k (fun kq v5 v6 w' => ∃ (x5_1 : List (S42)) (x6_1 : Int) (x123000_1 : Int) (x123001_1 : Int), v6 = .int .i64 x6_1 ∧ Aside0 (spec_LexTokens.l0 kq a0 y123 x5_1 x6_1 = some (r1, r2, r3)) ∧ Aside0 (kq ≤ k) ∧ Aside0 (Kd.R k42 42 w' w.heap.size (fun k_ => some k_ ≠ (v5 : Value).ownBlock) v124 y123) ∧ Aside0 (Kd.R k42 42 w' w.heap.size (fun k_ => some k_ ≠ (v124 : Value).ownBlock) v5 x5_1) ∧ Aside0 (w'.heap[gb122]? = some (.cells #[.int .i64 x123000_1, .int .i64 x123001_1] 26 (0, 0))) ∧ Aside0 (Below w.heap.size w w'))
 case atStart => exact ⟨(y126), (t129), (0), (0), ey, H', ⟨Nat.le_refl _⟩, ⟨by (with_reducible repeat (first | apply Kd.R_alloc | apply Kd.R_drewN | apply Kd.R_drew)); exact Kd.R_mono HO125.out (fun _ hk => hk.2)⟩, ⟨by (with_reducible repeat (first | apply Kd.R_alloc | apply Kd.R_drewN | apply Kd.R_drew)); exact Kd.R_mono HO128.out (fun _ hk => hk.2)⟩, ⟨Z BK122⟩, ⟨YA HB⟩⟩
 case round =>
  clear H'
  (try clear c2b0);(try clear c2b1)
  obtain ⟨x5_1, x6_1, x123000_1, x123001_1, rfl, HA, HK1, HO_4, HO_5, BK122, HB⟩ := hrel
  cases gk with
  | zero => exact absurd HA.out (by simp [spec_LexTokens.l0])
  | succ k1 =>
   have H := HA.out
   clear HA
   simp only [spec_LexTokens.l0] at H
   by_cases c13 : x6_1 < (a0.size : Int)
   rotate_left
   ·rw [if_neg c13] at H
    have c13b0 := dF c13
    clear c13
    simp only [Option.some.injEq, Prod.mk.injEq] at H
    obtain ⟨rfl, rfl, rfl⟩ := H
    obtain ⟨hcz36_0,hcz36_1,hfz36_0,hfz36_1⟩ := cB2 BK122
    go_wp2
    refine bodyPost_ret (results_tc rfl _ _ gb122 26 #[.int .i64 0, .int .i64 0] (0, 0) _ rfl (by refine pf ?_; refine blk_put (cs := #[.int .i64 0, .int .i64 x123001_1]) ?_ 1 _ rfl; refine pf ?_; refine blk_put (cs := #[.int .i64 x123000_1, .int .i64 x123001_1]) ?_ 0 _ rfl; exact Z BK122) Tryd.underlying26 rfl (by kernel_rfl)) rfl ?_
    exact ⟨_, ez, by (with_reducible repeat (first | apply Kd.R_alloc | apply Kd.R_drewN | apply Kd.R_drew)); exact Kd.R_mono (Kd.R_far (p := ⟨gb122, 1, none⟩) (Kd.R_far (p := ⟨gb122, 0, none⟩) (Kd.R_types HO_5.out BK122.out (by decide)) (fun _ hk => hk.2) (.int .i64 0)) (fun _ hk => hk.2) (.int .i64 0)) (fun _ hk => trivial), YA HB⟩
   rw [if_pos c13] at H
   have c13b0 := dT c13
   clear c13
   replace H := Option.bind_eq_some_iff.mp H
   obtain ⟨⟨t130, t131, t132, t133, t134, t135⟩, A140, H⟩ := H
   try dsimp only at H
   have A14 := am A140
   clear A140
   by_cases c15 : t135 = 0
   rotate_left
   ·rw [if_neg c15] at H
    have c15b0 := eF c15
    have c15b1 := nT c15
    simp only [Option.some.injEq, Prod.mk.injEq] at H
    obtain ⟨rfl, rfl, rfl⟩ := H
    go_wp2_with (first | ((with_reducible refine gate_callee (f := 25) rfl ?_); refine goesL_ (some 26) rfl rfl Tryd.func25 (by kernel_rfl) rfl #[.string a0, .int .i64 x6_1] rfl mz ?_; (with_reducible refine (spec_l2One.calls k1 a0 x6_1 t130 t131 t132 t133 t134 t135 _ A14.out).mono ?_); rintro e w31 ⟨rfl, hb⟩; refine ⟨_, rfl, ?_⟩; replace HO_4 := am (Kd.R_below (RZ HO_4) hb); replace HO_5 := am (Kd.R_below (RZ HO_5) hb); replace BK122 := bb BK122 hb; replace HB := am (below_step (YA HB) hb); (try clear hb)) | ((with_reducible refine gate_dst (N := 7) rfl ?_); refine bx 7 #[.int .i64 0, .int .i64 0, .string (⟨#[]⟩ : ByteArray), .int .i64 0] 42 ?_; intro gb136 hg w32 hbox hb; have BK136 := am (hbox); have GW136 := am (bs hg (YA HB)); have GE136 := GW136; obtain ⟨NB122_136,NB136_122⟩ := ne_ hg BK122; replace HO_4 := am (Kd.R_below (Kd.R_elderB (RZ HO_4) gb136 (Nat.le_of_eq hg.symm)) hb); replace HO_5 := am (Kd.R_below (Kd.R_elderB (RZ HO_5) gb136 (Nat.le_of_eq hg.symm)) hb); replace BK122 := bb BK122 hb; replace HB := am (below_step (YA HB) hb); clear hb hbox hg; obtain ⟨hnb33,hnc33⟩ := nn NB136_122; obtain ⟨hcz34_0,hcz34_1,hcz34_2,hcz34_3,hfz34_0,hfz34_1,hfz34_2,hfz34_3⟩ := cB4 BK136; obtain ⟨hcz35_0,hcz35_1,hfz35_0,hfz35_1⟩ := cB2 BK122))
    refine bodyPost_ret (results_tc rfl _ _ gb122 26 #[.int .i64 t135, .int .i64 x6_1] (0, 0) _ rfl (by refine pf ?_; refine blk_put (cs := #[.int .i64 t135, .int .i64 x123001_1]) ?_ 1 _ rfl; refine pf ?_; refine blk_put (cs := #[.int .i64 x123000_1, .int .i64 x123001_1]) ?_ 0 _ rfl; refine fa NB122_136 ?_; refine fa NB122_136 ?_; refine fa NB122_136 ?_; refine fa NB122_136 ?_; exact Z BK122) Tryd.underlying26 rfl (by kernel_rfl)) rfl ?_
    exact ⟨_, ez, by (with_reducible repeat (first | apply Kd.R_alloc | apply Kd.R_drewN | apply Kd.R_drew)); exact Kd.R_mono (Kd.R_far (p := ⟨gb122, 1, none⟩) (Kd.R_far (p := ⟨gb122, 0, none⟩) (Kd.R_far (p := ⟨gb136, 3, none⟩) (Kd.R_far (p := ⟨gb136, 2, none⟩) (Kd.R_far (p := ⟨gb136, 1, none⟩) (Kd.R_far (p := ⟨gb136, 0, none⟩) (Kd.R_types (Kd.R_mono HO_4.out (fun k_ hk => (⟨hk, hk.2⟩ : _ ∧ k_ ≠ gb136))) BK122.out (by decide)) (fun _ hk => hk.1.2) (.int .i64 t130)) (fun _ hk => hk.1.2) (.int .i64 t131)) (fun _ hk => hk.1.2) (.string t132)) (fun _ hk => hk.1.2) (.int .i64 t133)) (fun _ hk => hk.2) (.int .i64 t135)) (fun _ hk => hk.2) (.int .i64 x6_1)) (fun _ hk => trivial), YA HB⟩
   rw [if_pos c15] at H
   have c15b0 := eT c15
   have c15b1 := nF c15
   clear c15
   by_cases c16 : (x5_1.length : Int) ≥ 700
   ·rw [if_pos c16] at H
    have c16b0 := dT c16
    have c16b1 : decide (700 ≤ x5_1.length) = true := decide_eq_true (by omega)
    clear c16
    simp only [Option.some.injEq, Prod.mk.injEq] at H
    obtain ⟨rfl, rfl, rfl⟩ := H
    go_wp2_with (first | ((with_reducible refine gate_callee (f := 25) rfl ?_); refine goesL_ (some 26) rfl rfl Tryd.func25 (by kernel_rfl) rfl #[.string a0, .int .i64 x6_1] rfl mz ?_; (with_reducible refine (spec_l2One.calls k1 a0 x6_1 t130 t131 t132 t133 t134 t135 _ A14.out).mono ?_); rintro e w17 ⟨rfl, hb⟩; refine ⟨_, rfl, ?_⟩; replace HO_4 := am (Kd.R_below (RZ HO_4) hb); replace HO_5 := am (Kd.R_below (RZ HO_5) hb); replace BK122 := bb BK122 hb; replace HB := am (below_step (YA HB) hb); (try clear hb)) | ((with_reducible refine gate_dst (N := 7) rfl ?_); refine bx 7 #[.int .i64 0, .int .i64 0, .string (⟨#[]⟩ : ByteArray), .int .i64 0] 42 ?_; intro gb136 hg w18 hbox hb; have BK136 := am (hbox); have GW136 := am (bs hg (YA HB)); have GE136 := GW136; obtain ⟨NB122_136,NB136_122⟩ := ne_ hg BK122; replace HO_4 := am (Kd.R_below (Kd.R_elderB (RZ HO_4) gb136 (Nat.le_of_eq hg.symm)) hb); replace HO_5 := am (Kd.R_below (Kd.R_elderB (RZ HO_5) gb136 (Nat.le_of_eq hg.symm)) hb); replace BK122 := bb BK122 hb; replace HB := am (below_step (YA HB) hb); clear hb hbox hg; obtain ⟨hnb19,hnc19⟩ := nn NB136_122; obtain ⟨hcz20_0,hcz20_1,hcz20_2,hcz20_3,hfz20_0,hfz20_1,hfz20_2,hfz20_3⟩ := cB4 BK136; obtain ⟨Ao21, co21, eo21⟩ := Kd.R_slice HO_5.out; subst eo21; obtain ⟨hcz22_0,hcz22_1,hfz22_0,hfz22_1⟩ := cB2 BK122))
    refine bodyPost_ret (results_tc rfl _ _ gb122 26 #[.int .i64 5, .int .i64 x6_1] (0, 0) _ rfl (by refine pf ?_; refine blk_put (cs := #[.int .i64 5, .int .i64 x123001_1]) ?_ 1 _ rfl; refine pf ?_; refine blk_put (cs := #[.int .i64 x123000_1, .int .i64 x123001_1]) ?_ 0 _ rfl; refine fa NB122_136 ?_; refine fa NB122_136 ?_; refine fa NB122_136 ?_; refine fa NB122_136 ?_; exact Z BK122) Tryd.underlying26 rfl (by kernel_rfl)) rfl ?_
    exact ⟨_, ez, by (with_reducible repeat (first | apply Kd.R_alloc | apply Kd.R_drewN | apply Kd.R_drew)); exact Kd.R_mono (Kd.R_far (p := ⟨gb122, 1, none⟩) (Kd.R_far (p := ⟨gb122, 0, none⟩) (Kd.R_far (p := ⟨gb136, 3, none⟩) (Kd.R_far (p := ⟨gb136, 2, none⟩) (Kd.R_far (p := ⟨gb136, 1, none⟩) (Kd.R_far (p := ⟨gb136, 0, none⟩) (Kd.R_types (Kd.R_mono HO_4.out (fun k_ hk => (⟨hk, hk.2⟩ : _ ∧ k_ ≠ gb136))) BK122.out (by decide)) (fun _ hk => hk.1.2) (.int .i64 t130)) (fun _ hk => hk.1.2) (.int .i64 t131)) (fun _ hk => hk.1.2) (.string t132)) (fun _ hk => hk.1.2) (.int .i64 t133)) (fun _ hk => hk.2) (.int .i64 5)) (fun _ hk => hk.2) (.int .i64 x6_1)) (fun _ hk => trivial), YA HB⟩
   rw [if_neg c16] at H
   have c16b0 := dF c16
   have c16b1 : decide (700 ≤ x5_1.length) = false := decide_eq_false (by omega)
   clear c16
   by_cases c23 : x5_1.length < 3518437208883
   rotate_left
   ·rw [if_neg c23] at H
    exact absurd H (by simp)
   rw [if_pos c23] at H
   have LMc23 := am c23
   clear c23
   obtain ⟨y137, hy137⟩ : ∃ y_ : List (S42), y_ = (x5_1 ++ [(⟨t130, t131, t132, t133⟩ : S42)]) := ⟨_, rfl⟩
   replace H : ((spec_l2Skip.f k1 a0 t134).bind fun t140 => (spec_LexTokens.l0 k1 a0 y123 y137 t140)) = some (r1, r2, r3) := by first | (rw [hy137]; with_reducible exact H) | (have H2_ := (Option.bind_some _ _).symm.trans H; rw [hy137]; with_reducible exact H2_) | (have H2_ := (Option.bind_some _ _).symm.trans H; with_reducible exact H2_) | with_reducible exact H | (rw [hy137]; exact H) | exact H
   have Ny137 := am hy137
   clear hy137
   replace H := Option.bind_eq_some_iff.mp H
   obtain ⟨t140, A240, H⟩ := H
   try dsimp only at H
   have A24 := am A240
   clear A240
   have H' := am H
   clear H
   go_wp2_with (first | ((with_reducible refine gate_callee (f := 25) rfl ?_); refine goesL_ (some 26) rfl rfl Tryd.func25 (by kernel_rfl) rfl #[.string a0, .int .i64 x6_1] rfl mz ?_; (with_reducible refine (spec_l2One.calls k1 a0 x6_1 t130 t131 t132 t133 t134 t135 _ A14.out).mono ?_); rintro e w25 ⟨rfl, hb⟩; refine ⟨_, rfl, ?_⟩; replace HO_4 := am (Kd.R_below (RZ HO_4) hb); replace HO_5 := am (Kd.R_below (RZ HO_5) hb); replace BK122 := bb BK122 hb; replace HB := am (below_step (YA HB) hb); (try clear hb)) | ((with_reducible refine gate_dst (N := 7) rfl ?_); refine bx 7 #[.int .i64 0, .int .i64 0, .string (⟨#[]⟩ : ByteArray), .int .i64 0] 42 ?_; intro gb136 hg w26 hbox hb; have BK136 := am (hbox); have GW136 := am (bs hg (YA HB)); have GE136 := GW136; obtain ⟨NB122_136,NB136_122⟩ := ne_ hg BK122; replace HO_4 := am (Kd.R_below (Kd.R_elderB (RZ HO_4) gb136 (Nat.le_of_eq hg.symm)) hb); replace HO_5 := am (Kd.R_below (Kd.R_elderB (RZ HO_5) gb136 (Nat.le_of_eq hg.symm)) hb); replace BK122 := bb BK122 hb; replace HB := am (below_step (YA HB) hb); clear hb hbox hg; obtain ⟨hnb27,hnc27⟩ := nn NB136_122; obtain ⟨hcz28_0,hcz28_1,hcz28_2,hcz28_3,hfz28_0,hfz28_1,hfz28_2,hfz28_3⟩ := cB4 BK136; obtain ⟨Ao29, co29, eo29⟩ := Kd.R_slice HO_5.out; subst eo29) | ((with_reducible refine gate_builtin (b := .append) (xs := #[.tmp 42, .tmp 44]) rfl ?_); at_builtin; refine Kd.R_append k42 (w0 := w) w.heap.size rfl (.tmp 42) (.tmp 44) 24 42 (.agg #[(.int .i64 0), (.int .i64 0), (.string ⟨#[]⟩), (.int .i64 0)]) 40 rfl Tryd.underlying24 info42 rfl (by decide) (by omega) (.slice Ao29 x5_1.length co29) x5_1 (⟨t130, t131, t132, t133⟩ : S42) [.int .i64 t130, .int .i64 t131, .string t132, .int .i64 t133] (fun k_ => some k_ ≠ (v124 : Value).ownBlock ∧ k_ ≠ gb136) (fun _ => False) rfl (by first | (go_simp; done) | (go_simp; rfl)) ?aP (fun _ hk => hk.elim) ?aF ?aO ?aB ?aS ?aL ?_; (case aP => exact k42_mkM _ _ _ (⟨t130, t131, t132, t133⟩ : S42)); (case aB => exact (YA HB)); (case aF => exact (fun k_ hk => ⟨Kd.fresh' (Kd.R_lt (by (with_reducible repeat (first | apply Kd.R_alloc | apply Kd.R_drewN | apply Kd.R_drew)); exact (Kd.R_mono (Kd.R_far (p := ⟨gb136, 3, none⟩) (Kd.R_far (p := ⟨gb136, 2, none⟩) (Kd.R_far (p := ⟨gb136, 1, none⟩) (Kd.R_far (p := ⟨gb136, 0, none⟩) (Kd.R_mono HO_4.out (fun k_ hk => (⟨hk, hk.2⟩ : _ ∧ k_ ≠ gb136))) (fun _ hk => hk.2) (.int .i64 t130)) (fun _ hk => hk.2) (.int .i64 t131)) (fun _ hk => hk.2) (.string t132)) (fun _ hk => hk.2) (.int .i64 t133)) (fun _ h_ => h_.1)))) k_ hk, Kd.freshB (g := gb136) (o := .cells #[.int .i64 t130, .int .i64 t131, .string t132, .int .i64 t133] 42 (0, 0)) (by refine pf ?_; refine blk_put (cs := #[.int .i64 t130, .int .i64 t131, .string t132, .int .i64 0]) ?_ 3 _ rfl; refine pf ?_; refine blk_put (cs := #[.int .i64 t130, .int .i64 t131, .string (⟨#[]⟩ : ByteArray), .int .i64 0]) ?_ 2 _ rfl; refine pf ?_; refine blk_put (cs := #[.int .i64 t130, .int .i64 0, .string (⟨#[]⟩ : ByteArray), .int .i64 0]) ?_ 1 _ rfl; refine pf ?_; refine blk_put (cs := #[.int .i64 0, .int .i64 0, .string (⟨#[]⟩ : ByteArray), .int .i64 0]) ?_ 0 _ rfl; exact Z BK136) k_ hk⟩)); (case aO => exact (by (with_reducible repeat (first | apply Kd.R_alloc | apply Kd.R_drewN | apply Kd.R_drew)); exact Kd.R_mono (Kd.R_far (p := ⟨gb136, 3, none⟩) (Kd.R_far (p := ⟨gb136, 2, none⟩) (Kd.R_far (p := ⟨gb136, 1, none⟩) (Kd.R_far (p := ⟨gb136, 0, none⟩) (Kd.R_mono HO_5.out (fun k_ hk => (⟨hk, hk.2⟩ : _ ∧ k_ ≠ gb136))) (fun _ hk => hk.2) (.int .i64 t130)) (fun _ hk => hk.2) (.int .i64 t131)) (fun _ hk => hk.2) (.string t132)) (fun _ hk => hk.2) (.int .i64 t133)) (fun _ hk => ⟨hk.1.1, hk.1.2⟩))); (case aS => exact (below_size (YA HB))); (case aL => have := LMc23.out; omega); intro v138 w30 ho hb hg hat; rw [← Ny137.out] at ho; have HO139 := am (ho); replace HO_4 := am (Kd.R_after (ok := (fun k_ => k_ ≠ gb136)) (by (with_reducible repeat (first | apply Kd.R_alloc | apply Kd.R_drewN | apply Kd.R_drew)); exact Kd.R_mono (Kd.R_far (p := ⟨gb136, 3, none⟩) (Kd.R_far (p := ⟨gb136, 2, none⟩) (Kd.R_far (p := ⟨gb136, 1, none⟩) (Kd.R_far (p := ⟨gb136, 0, none⟩) (Kd.R_mono HO_4.out (fun k_ hk => (⟨hk, hk.2⟩ : _ ∧ k_ ≠ gb136))) (fun _ hk => hk.2) (.int .i64 t130)) (fun _ hk => hk.2) (.int .i64 t131)) (fun _ hk => hk.2) (.string t132)) (fun _ hk => hk.2) (.int .i64 t133)) (fun _ hk => ⟨hk.1.2, hk.1.1⟩)) hg hat); replace BK122 := am (blk_grown (g := gb122) (o := b2 x123000_1 x123001_1 26) (by refine fa NB122_136 ?_; refine fa NB122_136 ?_; refine fa NB122_136 ?_; refine fa NB122_136 ?_; exact Z BK122) hg (Kd.R_ne HO_5.out BK122.out (by decide))); replace BK136 := am (blk_grown (g := gb136) (o := .cells #[.int .i64 t130, .int .i64 t131, .string t132, .int .i64 t133] 42 (0, 0)) (by refine pf ?_; refine blk_put (cs := #[.int .i64 t130, .int .i64 t131, .string t132, .int .i64 0]) ?_ 3 _ rfl; refine pf ?_; refine blk_put (cs := #[.int .i64 t130, .int .i64 t131, .string (⟨#[]⟩ : ByteArray), .int .i64 0]) ?_ 2 _ rfl; refine pf ?_; refine blk_put (cs := #[.int .i64 t130, .int .i64 0, .string (⟨#[]⟩ : ByteArray), .int .i64 0]) ?_ 1 _ rfl; refine pf ?_; refine blk_put (cs := #[.int .i64 0, .int .i64 0, .string (⟨#[]⟩ : ByteArray), .int .i64 0]) ?_ 0 _ rfl; exact Z BK136) hg (Kd.R_away HO_5.out (fun _ hk => hk.2))); replace HB := am (hb); clear HO_5; clear ho hb hg hat) | ((with_reducible refine gate_callee (f := 24) rfl ?_); refine goesL_ (some 48) rfl rfl Tryd.func24 (by kernel_rfl) rfl #[.string a0, .int .i64 t134] rfl mz ?_; (with_reducible refine (spec_l2Skip.calls k1 a0 t134 t140 _ A24.out).mono ?_); rintro e w' ⟨rfl, ⟨nd, rfl⟩⟩; refine ⟨_, rfl, ?_⟩))
   go_roundg k1
   case measure => have := HK1.out; omega
   case rel => exact ⟨(y137), (t140), (x123000_1), (x123001_1), ey, H', ⟨by have := HK1.out; omega⟩, ⟨by (with_reducible repeat (first | apply Kd.R_alloc | apply Kd.R_drewN | apply Kd.R_drew)); exact Kd.R_mono HO_4.out (fun _ hk => hk.2)⟩, ⟨by (with_reducible repeat (first | apply Kd.R_alloc | apply Kd.R_drewN | apply Kd.R_drew)); exact Kd.R_mono HO139.out (fun _ hk => hk.1)⟩, ⟨Z BK122⟩, ⟨YA HB⟩⟩

/-! ### impl_lexSkip: function 26 -/
attribute [local go_sem] Go.Proofs.YtnbpgnkplahknaaDoorSet.isSome_setCell
mutual
def impl_lexSkip.l0 : Nat → ByteArray → Int → Option (Int)
 | 0, _, _ => none
 | k + 1, x0, x1 => if x1 < (x0.size : Int) then (if 0 ≤ x1 then (if (bt x0 x1) = 32 then (impl_lexSkip.j1 k x0 x1 (bt x0 x1) ((bt x0 x1) == 32)) else (impl_lexSkip.j1 k x0 x1 (bt x0 x1) ((bt x0 x1) == 10))) else (none)) else (some x1)
def impl_lexSkip.j1 : Nat → ByteArray → Int → Int → Bool → Option (Int)
 | 0, _, _, _, _ => none
 | k + 1, x0, x1, x11, x13 => if x13 = true then (impl_lexSkip.l0 k x0 (wrap64 (x1 + 1))) else (if x11 = 35 then (impl_lexSkip.l1 k x0 x1) else (some x1))
def impl_lexSkip.l1 : Nat → ByteArray → Int → Option (Int)
 | 0, _, _ => none
 | k + 1, x0, x1 => if x1 < (x0.size : Int) then (if 0 ≤ x1 then (if (bt x0 x1) = 10 then (impl_lexSkip.l0 k x0 x1) else (impl_lexSkip.l1 k x0 (wrap64 (x1 + 1)))) else (none)) else (impl_lexSkip.l0 k x0 x1)
end
def impl_lexSkip.f (k : Nat) (a0 : ByteArray) (a1 : Int) : Option (Int) := impl_lexSkip.l0 k a0 a1
theorem impl_lexSkip.mono_l : ∀ k, (∀ y0 y1, LeO (impl_lexSkip.l0 k y0 y1) (impl_lexSkip.l0 (k + 1) y0 y1)) ∧ (∀ y0 y1 y2 y3, LeO (impl_lexSkip.j1 k y0 y1 y2 y3) (impl_lexSkip.j1 (k + 1) y0 y1 y2 y3)) ∧ (∀ y0 y1, LeO (impl_lexSkip.l1 k y0 y1) (impl_lexSkip.l1 (k + 1) y0 y1))
 | 0 => ⟨fun _ _ r h => by simp [impl_lexSkip.l0] at h, fun _ _ _ _ r h => by simp [impl_lexSkip.j1] at h, fun _ _ r h => by simp [impl_lexSkip.l1] at h⟩
 | k + 1 => by
  obtain ⟨ih0, ih1, ih2⟩ := impl_lexSkip.mono_l k
  refine ⟨?_, ?_, ?_⟩ <;> (intros; (first | unfold impl_lexSkip.l0 | unfold impl_lexSkip.j1 | unfold impl_lexSkip.l1); repeat' first | (with_reducible first | apply ih0 | apply ih1 | apply ih2 | apply LeO.refl | apply LeO.none | refine LeO.ite ?_ ?_ | refine LeO.bind ?_ (fun _ => ?_)) | apply ih0 | apply ih1 | apply ih2 | apply LeO.none | refine LeO.ite ?_ ?_ | refine LeO.bind ?_ (fun _ => ?_))
theorem impl_lexSkip.mono : ∀ a0 a1 k, LeO (impl_lexSkip.f k a0 a1) (impl_lexSkip.f (k + 1) a0 a1) := by
 intro a0 a1 k
 obtain ⟨ih0, ih1, ih2⟩ := impl_lexSkip.mono_l k
 unfold impl_lexSkip.f
 repeat' first | (with_reducible first | apply ih0 | apply ih1 | apply ih2 | apply LeO.refl | apply LeO.none | refine LeO.ite ?_ ?_ | refine LeO.bind ?_ (fun _ => ?_)) | apply ih0 | apply ih1 | apply ih2 | apply LeO.none | refine LeO.ite ?_ ?_ | refine LeO.bind ?_ (fun _ => ?_)
set_option maxHeartbeats 8000000 in
set_option maxRecDepth 100000 in
theorem impl_lexSkip.calls (k : Nat) (a0 : ByteArray) (a1 : Int) (r : Int) (w : World) (h : impl_lexSkip.f k a0 a1 = some r) :
  Calls Tryd.prog 26 #[.string a0, .int .i64 a1] w fun e w' => e = .returned (.int .i64 r) ∧ Drawn0 w w' := by
 have H : (impl_lexSkip.l0 k a0 a1) = some r := h
 clear h
 have H' := am H
 clear H
 go_enter Tryd.func26, Tryd.ntmps26
 go_wp2
 go_loopg [1] k (fun kq v1 w' => ∃ (x1_1 : Int), v1 = .int .i64 x1_1 ∧ Aside0 (impl_lexSkip.l0 kq a0 x1_1 = some r) ∧ Aside0 (kq ≤ k) ∧ Drawn0 w w')
 case atStart => exact ⟨(a1), ey, H', ⟨Nat.le_refl _⟩, by repeat (first | exact Drawn0.refl _ | apply Drawn0.step)⟩
 case round =>
  clear H'
  obtain ⟨x1_1, rfl, HA, HK1, ⟨m1, rfl⟩⟩ := hrel
  cases gk with
  | zero => exact absurd HA.out (by simp [impl_lexSkip.l0])
  | succ k1 =>
   have H := HA.out
   clear HA
   simp only [impl_lexSkip.l0] at H
   by_cases c3 : x1_1 < (a0.size : Int)
   rotate_left
   ·rw [if_neg c3] at H
    have c3b0 := dF c3
    clear c3
    obtain rfl := Option.some.inj H
    go_wp2
    go_ret
    exact ⟨by first | rfl | (simp; done) | (simp [*]; done), by repeat (first | exact Drawn0.refl _ | apply Drawn0.step)⟩
   rw [if_pos c3] at H
   have c3b0 := dT c3
   clear c3
   by_cases c4 : 0 ≤ x1_1
   rotate_left
   ·rw [if_neg c4] at H
    exact absurd H (by simp)
   rw [if_pos c4] at H
   have c4b0 := dT c4
   clear c4
   have HC6 := am H
   clear H
   have p5 : 0 ≤ (x1_1 : Int) := oz
   have q5 : x1_1 < (a0.size : Int) := oz
   have hx5 := bt_at a0 x1_1
   replace p5 := eq_true p5
   replace q5 := eq_true q5
   go_upto_if 13 with (fail)
   go_cut [13] (fun v13 wc => ∃ (kq : Nat) (x13_5 : Bool), v13 = .bool x13_5 ∧ Aside0 (impl_lexSkip.j1 kq a0 x1_1 (bt a0 x1_1) x13_5 = some r) ∧ Aside0 (kq ≤ k1) ∧ Drawn0 w wc)
   case first =>
    have H := HC6.out
    clear HC6
    by_cases c7 : (bt a0 x1_1) = 32
    rotate_left
    ·rw [if_neg c7] at H
     have c7b0 := eF c7
     have c7b1 := nT c7
     (first | rw [c7b0] | (simp only [i64_w, i32_w]; rw [c7b0]) | skip)
     have H' := am H
     clear H
     go_wp2
     go_meet
     case rel => exact ⟨_, (((bt a0 x1_1) == 10)), ey, H', ⟨by have := HK1.out; first | omega | exact Nat.le_refl _⟩, by repeat (first | exact Drawn0.refl _ | apply Drawn0.step)⟩
    rw [if_pos c7] at H
    have c7b0 := eT c7
    have c7b1 := nF c7
    clear c7
    (first | rw [c7b0] | (simp only [i64_w, i32_w]; rw [c7b0]) | skip)
    have H' := am H
    clear H
    go_wp2
    go_meet
    case rel => exact ⟨_, (((bt a0 x1_1) == 32)), ey, H', ⟨by have := HK1.out; first | omega | exact Nat.le_refl _⟩, by repeat (first | exact Drawn0.refl _ | apply Drawn0.step)⟩
   case rest =>
    clear HC6
    (try clear c3b0);(try clear c4b0);(try clear p5);(try clear q5);(try clear hx5)
    obtain ⟨kq, x13_5, rfl, HA, HJ5, ⟨mc5, rfl⟩⟩ := hcut
    cases kq with
    | zero => exact absurd HA.out (by simp [impl_lexSkip.j1])
    | succ kj5 =>
     have H := HA.out
     clear HA
     simp only [impl_lexSkip.j1] at H
     by_cases c8 : x13_5 = true
     ·subst c8
      rw [if_pos rfl] at H
      have H' := am H
      clear H
      go_wp2
      go_roundg kj5
      case measure => have := HK1.out; have := HJ5.out; omega
      case rel => exact ⟨(wrap64 (x1_1 + 1)), ey, H', ⟨by have := HK1.out; have := HJ5.out; omega⟩, by repeat (first | exact Drawn0.refl _ | apply Drawn0.step)⟩
     replace c8 := Bool.eq_false_iff.mpr c8
     subst c8
     rw [if_neg (show ¬ (false = true) by decide)] at H
     by_cases c9 : (bt a0 x1_1) = 35
     rotate_left
     ·rw [if_neg c9] at H
      have c9b0 := eF c9
      have c9b1 := nT c9
      obtain rfl := Option.some.inj H
      go_wp2
      go_ret
      exact ⟨by first | rfl | (simp; done) | (simp [*]; done), by repeat (first | exact Drawn0.refl _ | apply Drawn0.step)⟩
     rw [if_pos c9] at H
     have c9b0 := eT c9
     have c9b1 := nF c9
     clear c9
     have H' := am H
     clear H
     go_wp2
     go_loopg [1] kj5 (fun kq v1 w' => ∃ (x1_3 : Int), v1 = .int .i64 x1_3 ∧ Aside0 (impl_lexSkip.l1 kq a0 x1_3 = some r) ∧ Aside0 (kq ≤ kj5) ∧ Drawn0 w w')
     case atStart => exact ⟨(x1_1), ey, H', ⟨Nat.le_refl _⟩, by repeat (first | exact Drawn0.refl _ | apply Drawn0.step)⟩
     case round =>
      clear H'
      (try clear c8);(try clear c9b0);(try clear c9b1)
      obtain ⟨x1_3, rfl, HA, HK3, ⟨m3, rfl⟩⟩ := hrel
      cases gk with
      | zero => exact absurd HA.out (by simp [impl_lexSkip.l1])
      | succ k3 =>
       have H := HA.out
       clear HA
       simp only [impl_lexSkip.l1] at H
       by_cases c10 : x1_3 < (a0.size : Int)
       rotate_left
       ·rw [if_neg c10] at H
        have c10b0 := dF c10
        clear c10
        have H' := am H
        clear H
        go_wp2
        go_roundg k3
        case measure => have := HK1.out; have := HJ5.out; have := HK3.out; omega
        case rel => exact ⟨(x1_3), ey, H', ⟨by have := HK1.out; have := HJ5.out; have := HK3.out; omega⟩, by repeat (first | exact Drawn0.refl _ | apply Drawn0.step)⟩
       rw [if_pos c10] at H
       have c10b0 := dT c10
       clear c10
       by_cases c11 : 0 ≤ x1_3
       rotate_left
       ·rw [if_neg c11] at H
        exact absurd H (by simp)
       rw [if_pos c11] at H
       have c11b0 := dT c11
       clear c11
       by_cases c13 : (bt a0 x1_3) = 10
       ·rw [if_pos c13] at H
        have c13b0 := eT c13
        have c13b1 := nF c13
        clear c13
        have H' := am H
        clear H
        have p12 : 0 ≤ (x1_3 : Int) := oz
        have q12 : x1_3 < (a0.size : Int) := oz
        have hx12 := bt_at a0 x1_3
        replace p12 := eq_true p12
        replace q12 := eq_true q12
        go_wp2
        go_roundg k3
        case measure => have := HK1.out; have := HJ5.out; have := HK3.out; omega
        case rel => exact ⟨(x1_3), ey, H', ⟨by have := HK1.out; have := HJ5.out; have := HK3.out; omega⟩, by repeat (first | exact Drawn0.refl _ | apply Drawn0.step)⟩
       rw [if_neg c13] at H
       have c13b0 := eF c13
       have c13b1 := nT c13
       have H' := am H
       clear H
       have p12 : 0 ≤ (x1_3 : Int) := oz
       have q12 : x1_3 < (a0.size : Int) := oz
       have hx12 := bt_at a0 x1_3
       replace p12 := eq_true p12
       replace q12 := eq_true q12
       go_wp2
       go_roundg k3
       case measure => have := HK1.out; have := HJ5.out; have := HK3.out; omega
       case rel => exact ⟨(wrap64 (x1_3 + 1)), ey, H', ⟨by have := HK1.out; have := HJ5.out; have := HK3.out; omega⟩, by repeat (first | exact Drawn0.refl _ | apply Drawn0.step)⟩

/-! ### impl_SignAt: function 9, by hand -/
def impl_SignAt.f (a0 : ByteArray) (a1 : Int) : Option ByteArray := some (Base.signAt a0 a1)
theorem impl_SignAt.calls (a0 : ByteArray) (a1 : Int) (r : ByteArray) (w : World) (h : impl_SignAt.f a0 a1 = some r) (hT : PFnExactSignAt.Tab w := by first | exact HTb.out | exact hT | exact hT_ | exact PFnExactSignAt.Tab.below HTb.out (by assumption) | exact PFnExactSignAt.Tab.below HTb.out (by repeat (first | (with_reducible first | exact HB.out | apply below_alloc | apply pw_below_drewN | apply below_drew1 | apply below_drew) | exact HB.out | refine below_set ?_ (Aside0.out (by assumption))))) : Calls Tryd.prog 9 #[.string a0, .int .i64 a1] w fun e w' => e = .returned (.string r) ∧ Drawn0 w w' := by
 obtain rfl := Option.some.inj h
 exact Base.signAt_calls a0 a1 w hT

end Go.Proofs.YtnbpgnkplahknaaDoor.PFnLexBack
