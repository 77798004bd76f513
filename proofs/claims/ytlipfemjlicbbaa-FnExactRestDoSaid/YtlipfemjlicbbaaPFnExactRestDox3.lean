/- Written by this session's own driver (wip/dprint.py): the functions that the law FnExactRestDo reaches, as Lean functions, each with its contract. -/
import Derived.Test.YtlipfemjlicbbaaPFnExactRestDox0
import Derived.Test.YtlipfemjlicbbaaPFnExactRestDox1
import Derived.Test.YtlipfemjlicbbaaPFnExactRestDox2
import Derived.Test.YtlipfemjlicbbaaSq
namespace Go.Proofs.Ytlipfemjlicbbaa.PFnExactRestDo
open Go.RowKit Go.Proofs.YtlipfemjlicbbaaW.PrintWords Go.Proofs.YtlipfemjlicbbaaW.PrintLast Go.Proofs.YtlipfemjlicbbaaW.PrintMore Go.Proofs.YtlipfemjlicbbaaSq
attribute [local go_sem] max2_int min2_int max_two min_two max_three min_three max_four min_four   -- for this text's walks alone
set_option linter.unusedVariables false
set_option linter.unusedSimpArgs false

/-! ### spec_RestDo: function 39 -/
mutual
def spec_RestDo.j0 : Nat → Int → Bool → Int → Int → Int → Int → Option (Int × Int)
 | 0, _, _, _, _, _, _ => none
 | k + 1, x0, x24, x134000, x134001, x135000, x135001 => if x24 = true then ((spec_l9All.f).bind fun bt139 => (some (bt139.1, bt139.2))) else (if x134000 = 0 then (spec_RestDo.j1 k x0 (x135000 == 0) x134000 x134001 x135000 x135001) else (spec_RestDo.j1 k x0 false x134000 x134001 x135000 x135001))
def spec_RestDo.j1 : Nat → Int → Bool → Int → Int → Int → Int → Option (Int × Int)
 | 0, _, _, _, _, _, _ => none
 | k + 1, x0, x33, x134000, x134001, x135000, x135001 => if x33 = true then ((spec_NumDo.f k x0 x134001 x135001).bind fun bt141 => (if bt141.2 = 0 then (some (0, bt141.1)) else ((spec_l9All.f).bind fun bt143 => (some (bt143.1, bt143.2))))) else ((spec_l9Wraps.f x0).bind fun t145 => (if x0 = 1 then (spec_RestDo.j2 k x0 t145 true x134000 x134001 x135000 x135001) else (spec_RestDo.j2 k x0 t145 (x0 == 11) x134000 x134001 x135000 x135001)))
def spec_RestDo.j2 : Nat → Int → Int → Bool → Int → Int → Int → Int → Option (Int × Int)
 | 0, _, _, _, _, _, _, _ => none
 | k + 1, x0, x9, x55, x134000, x134001, x135000, x135001 => if x55 = true then ((spec_l9Gcd.f k x134000 x135000).bind fun t146 => ((spec_l9Gcd.f k t146 x9).bind fun t147 => ((spec_l9Make.f k t147 (wrap64 (x134001 + x135001))).bind fun bt148 => (some (bt148.1, bt148.2))))) else (if x0 = 2 then (spec_RestDo.j3 k x0 x9 true x134000 x134001 x135000 x135001) else (spec_RestDo.j3 k x0 x9 (x0 == 12) x134000 x134001 x135000 x135001))
def spec_RestDo.j3 : Nat → Int → Int → Bool → Int → Int → Int → Int → Option (Int × Int)
 | 0, _, _, _, _, _, _, _ => none
 | k + 1, x0, x9, x74, x134000, x134001, x135000, x135001 => if x74 = true then ((spec_l9Gcd.f k x134000 x135000).bind fun t150 => ((spec_l9Gcd.f k t150 x9).bind fun t151 => ((spec_l9Make.f k t151 (wrap64 (x134001 - x135001))).bind fun bt152 => (some (bt152.1, bt152.2))))) else (if x0 = 9 then (if x135000 = 0 then ((spec_l1In.f x135001 0 31).bind fun t154 => (spec_RestDo.j4 k x0 x9 t154 x134000 x134001 x135000 x135001)) else (spec_RestDo.j4 k x0 x9 false x134000 x134001 x135000 x135001)) else (spec_RestDo.j4 k x0 x9 false x134000 x134001 x135000 x135001))
def spec_RestDo.j4 : Nat → Int → Int → Bool → Int → Int → Int → Int → Option (Int × Int)
 | 0, _, _, _, _, _, _, _ => none
 | k + 1, x0, x9, x99, x134000, x134001, x135000, x135001 => if x99 = true then ((spec_l1Power.f k x135001).bind fun t155 => ((spec_l1Power.f k x135001).bind fun t156 => ((spec_l9Make.f k (wrap64 (x134000 * t155)) (wrap64 (x134001 * t156))).bind fun bt157 => (some (bt157.1, bt157.2))))) else (if x0 = 3 then (spec_RestDo.j5 k x0 x9 true x134000 x134001 x135000 x135001) else (spec_RestDo.j5 k x0 x9 (x0 == 13) x134000 x134001 x135000 x135001))
def spec_RestDo.j5 : Nat → Int → Int → Bool → Int → Int → Int → Int → Option (Int × Int)
 | 0, _, _, _, _, _, _, _ => none
 | k + 1, x0, x9, x118, x134000, x134001, x135000, x135001 => if x118 = true then ((spec_l9Gcd.f k (wrap64 (x134000 * x135000)) (wrap64 (x134000 * x135001))).bind fun t159 => ((spec_l9Gcd.f k t159 (wrap64 (x135000 * x134001))).bind fun t160 => (if t160 = 0 then (some (0, 0)) else ((spec_l9Gcd.f k t160 x9).bind fun t161 => ((spec_l9Make.f k t161 (wrap64 (x134001 * x135001))).bind fun bt162 => (some (bt162.1, bt162.2))))))) else (if x0 = 5 then ((spec_l9Gcd.f k x135000 x135001).bind fun t164 => ((spec_l9Gcd.f k x134000 t164).bind fun t165 => (if t165 = 0 then ((spec_l9All.f).bind fun bt166 => (some (bt166.1, bt166.2))) else ((spec_l9Make.f k t165 x134001).bind fun bt168 => (some (bt168.1, bt168.2)))))) else ((spec_l9All.f).bind fun bt170 => (some (bt170.1, bt170.2))))
end
def spec_RestDo.f (k : Nat) (a0 : Int) (a1_0 : Int) (a1_1 : Int) (a2_0 : Int) (a2_1 : Int) : Option (Int × Int) := (spec_l1In.f a0 1 13).bind fun t136 => (if t136 = true then ((spec_RestOk.f a1_0 a1_1).bind fun t137 => (if t137 = true then ((spec_RestOk.f a2_0 a2_1).bind fun t138 => (spec_RestDo.j0 k a0 (!t138) a1_0 a1_1 a2_0 a2_1)) else (spec_RestDo.j0 k a0 true a1_0 a1_1 a2_0 a2_1))) else (spec_RestDo.j0 k a0 true a1_0 a1_1 a2_0 a2_1))
theorem spec_RestDo.mono_l : ∀ k, (∀ y0 y1 y2 y3 y4 y5, LeO (spec_RestDo.j0 k y0 y1 y2 y3 y4 y5) (spec_RestDo.j0 (k + 1) y0 y1 y2 y3 y4 y5)) ∧ (∀ y0 y1 y2 y3 y4 y5, LeO (spec_RestDo.j1 k y0 y1 y2 y3 y4 y5) (spec_RestDo.j1 (k + 1) y0 y1 y2 y3 y4 y5)) ∧ (∀ y0 y1 y2 y3 y4 y5 y6, LeO (spec_RestDo.j2 k y0 y1 y2 y3 y4 y5 y6) (spec_RestDo.j2 (k + 1) y0 y1 y2 y3 y4 y5 y6)) ∧ (∀ y0 y1 y2 y3 y4 y5 y6, LeO (spec_RestDo.j3 k y0 y1 y2 y3 y4 y5 y6) (spec_RestDo.j3 (k + 1) y0 y1 y2 y3 y4 y5 y6)) ∧ (∀ y0 y1 y2 y3 y4 y5 y6, LeO (spec_RestDo.j4 k y0 y1 y2 y3 y4 y5 y6) (spec_RestDo.j4 (k + 1) y0 y1 y2 y3 y4 y5 y6)) ∧ (∀ y0 y1 y2 y3 y4 y5 y6, LeO (spec_RestDo.j5 k y0 y1 y2 y3 y4 y5 y6) (spec_RestDo.j5 (k + 1) y0 y1 y2 y3 y4 y5 y6))
 | 0 => ⟨fun _ _ _ _ _ _ r h => by simp [spec_RestDo.j0] at h, fun _ _ _ _ _ _ r h => by simp [spec_RestDo.j1] at h, fun _ _ _ _ _ _ _ r h => by simp [spec_RestDo.j2] at h, fun _ _ _ _ _ _ _ r h => by simp [spec_RestDo.j3] at h, fun _ _ _ _ _ _ _ r h => by simp [spec_RestDo.j4] at h, fun _ _ _ _ _ _ _ r h => by simp [spec_RestDo.j5] at h⟩
 | k + 1 => by
  obtain ⟨ih0, ih1, ih2, ih3, ih4, ih5⟩ := spec_RestDo.mono_l k
  refine ⟨?_, ?_, ?_, ?_, ?_, ?_⟩
  ·intro y0 y1 y2 y3 y4 y5
   unfold spec_RestDo.j0
   repeat' first
   | (with_reducible exact ih0 _ _ _ _ _ _)
   | (with_reducible exact ih1 _ _ _ _ _ _)
   | (with_reducible exact ih2 _ _ _ _ _ _ _)
   | (with_reducible exact ih3 _ _ _ _ _ _ _)
   | (with_reducible exact ih4 _ _ _ _ _ _ _)
   | (with_reducible exact ih5 _ _ _ _ _ _ _)
   | (with_reducible exact spec_NumDo.mono _ _ _ _)
   | (with_reducible exact spec_l1Power.mono _ _)
   | (with_reducible exact spec_l9Gcd.mono _ _ _)
   | (with_reducible exact spec_l9Make.mono _ _ _)
   | (with_reducible exact LeO.refl _)
   | (with_reducible exact LeO.none _)
   | (with_reducible refine LeO.ite ?_ ?_)
   | (with_reducible refine LeO.bind ?_ (fun _ => ?_))
   | exact ih0 _ _ _ _ _ _
   | exact ih1 _ _ _ _ _ _
   | exact ih2 _ _ _ _ _ _ _
   | exact ih3 _ _ _ _ _ _ _
   | exact ih4 _ _ _ _ _ _ _
   | exact ih5 _ _ _ _ _ _ _
   | exact spec_NumDo.mono _ _ _ _
   | exact spec_l1Power.mono _ _
   | exact spec_l9Gcd.mono _ _ _
   | exact spec_l9Make.mono _ _ _
   | exact LeO.none _
   | refine LeO.ite ?_ ?_
   | refine LeO.bind ?_ (fun _ => ?_)
  ·intro y0 y1 y2 y3 y4 y5
   unfold spec_RestDo.j1
   repeat' first
   | (with_reducible exact ih0 _ _ _ _ _ _)
   | (with_reducible exact ih1 _ _ _ _ _ _)
   | (with_reducible exact ih2 _ _ _ _ _ _ _)
   | (with_reducible exact ih3 _ _ _ _ _ _ _)
   | (with_reducible exact ih4 _ _ _ _ _ _ _)
   | (with_reducible exact ih5 _ _ _ _ _ _ _)
   | (with_reducible exact spec_NumDo.mono _ _ _ _)
   | (with_reducible exact spec_l1Power.mono _ _)
   | (with_reducible exact spec_l9Gcd.mono _ _ _)
   | (with_reducible exact spec_l9Make.mono _ _ _)
   | (with_reducible exact LeO.refl _)
   | (with_reducible exact LeO.none _)
   | (with_reducible refine LeO.ite ?_ ?_)
   | (with_reducible refine LeO.bind ?_ (fun _ => ?_))
   | exact ih0 _ _ _ _ _ _
   | exact ih1 _ _ _ _ _ _
   | exact ih2 _ _ _ _ _ _ _
   | exact ih3 _ _ _ _ _ _ _
   | exact ih4 _ _ _ _ _ _ _
   | exact ih5 _ _ _ _ _ _ _
   | exact spec_NumDo.mono _ _ _ _
   | exact spec_l1Power.mono _ _
   | exact spec_l9Gcd.mono _ _ _
   | exact spec_l9Make.mono _ _ _
   | exact LeO.none _
   | refine LeO.ite ?_ ?_
   | refine LeO.bind ?_ (fun _ => ?_)
  ·intro y0 y1 y2 y3 y4 y5 y6
   unfold spec_RestDo.j2
   repeat' first
   | (with_reducible exact ih0 _ _ _ _ _ _)
   | (with_reducible exact ih1 _ _ _ _ _ _)
   | (with_reducible exact ih2 _ _ _ _ _ _ _)
   | (with_reducible exact ih3 _ _ _ _ _ _ _)
   | (with_reducible exact ih4 _ _ _ _ _ _ _)
   | (with_reducible exact ih5 _ _ _ _ _ _ _)
   | (with_reducible exact spec_NumDo.mono _ _ _ _)
   | (with_reducible exact spec_l1Power.mono _ _)
   | (with_reducible exact spec_l9Gcd.mono _ _ _)
   | (with_reducible exact spec_l9Make.mono _ _ _)
   | (with_reducible exact LeO.refl _)
   | (with_reducible exact LeO.none _)
   | (with_reducible refine LeO.ite ?_ ?_)
   | (with_reducible refine LeO.bind ?_ (fun _ => ?_))
   | exact ih0 _ _ _ _ _ _
   | exact ih1 _ _ _ _ _ _
   | exact ih2 _ _ _ _ _ _ _
   | exact ih3 _ _ _ _ _ _ _
   | exact ih4 _ _ _ _ _ _ _
   | exact ih5 _ _ _ _ _ _ _
   | exact spec_NumDo.mono _ _ _ _
   | exact spec_l1Power.mono _ _
   | exact spec_l9Gcd.mono _ _ _
   | exact spec_l9Make.mono _ _ _
   | exact LeO.none _
   | refine LeO.ite ?_ ?_
   | refine LeO.bind ?_ (fun _ => ?_)
  ·intro y0 y1 y2 y3 y4 y5 y6
   unfold spec_RestDo.j3
   repeat' first
   | (with_reducible exact ih0 _ _ _ _ _ _)
   | (with_reducible exact ih1 _ _ _ _ _ _)
   | (with_reducible exact ih2 _ _ _ _ _ _ _)
   | (with_reducible exact ih3 _ _ _ _ _ _ _)
   | (with_reducible exact ih4 _ _ _ _ _ _ _)
   | (with_reducible exact ih5 _ _ _ _ _ _ _)
   | (with_reducible exact spec_NumDo.mono _ _ _ _)
   | (with_reducible exact spec_l1Power.mono _ _)
   | (with_reducible exact spec_l9Gcd.mono _ _ _)
   | (with_reducible exact spec_l9Make.mono _ _ _)
   | (with_reducible exact LeO.refl _)
   | (with_reducible exact LeO.none _)
   | (with_reducible refine LeO.ite ?_ ?_)
   | (with_reducible refine LeO.bind ?_ (fun _ => ?_))
   | exact ih0 _ _ _ _ _ _
   | exact ih1 _ _ _ _ _ _
   | exact ih2 _ _ _ _ _ _ _
   | exact ih3 _ _ _ _ _ _ _
   | exact ih4 _ _ _ _ _ _ _
   | exact ih5 _ _ _ _ _ _ _
   | exact spec_NumDo.mono _ _ _ _
   | exact spec_l1Power.mono _ _
   | exact spec_l9Gcd.mono _ _ _
   | exact spec_l9Make.mono _ _ _
   | exact LeO.none _
   | refine LeO.ite ?_ ?_
   | refine LeO.bind ?_ (fun _ => ?_)
  ·intro y0 y1 y2 y3 y4 y5 y6
   unfold spec_RestDo.j4
   repeat' first
   | (with_reducible exact ih0 _ _ _ _ _ _)
   | (with_reducible exact ih1 _ _ _ _ _ _)
   | (with_reducible exact ih2 _ _ _ _ _ _ _)
   | (with_reducible exact ih3 _ _ _ _ _ _ _)
   | (with_reducible exact ih4 _ _ _ _ _ _ _)
   | (with_reducible exact ih5 _ _ _ _ _ _ _)
   | (with_reducible exact spec_NumDo.mono _ _ _ _)
   | (with_reducible exact spec_l1Power.mono _ _)
   | (with_reducible exact spec_l9Gcd.mono _ _ _)
   | (with_reducible exact spec_l9Make.mono _ _ _)
   | (with_reducible exact LeO.refl _)
   | (with_reducible exact LeO.none _)
   | (with_reducible refine LeO.ite ?_ ?_)
   | (with_reducible refine LeO.bind ?_ (fun _ => ?_))
   | exact ih0 _ _ _ _ _ _
   | exact ih1 _ _ _ _ _ _
   | exact ih2 _ _ _ _ _ _ _
   | exact ih3 _ _ _ _ _ _ _
   | exact ih4 _ _ _ _ _ _ _
   | exact ih5 _ _ _ _ _ _ _
   | exact spec_NumDo.mono _ _ _ _
   | exact spec_l1Power.mono _ _
   | exact spec_l9Gcd.mono _ _ _
   | exact spec_l9Make.mono _ _ _
   | exact LeO.none _
   | refine LeO.ite ?_ ?_
   | refine LeO.bind ?_ (fun _ => ?_)
  ·intro y0 y1 y2 y3 y4 y5 y6
   unfold spec_RestDo.j5
   repeat' first
   | (with_reducible exact ih0 _ _ _ _ _ _)
   | (with_reducible exact ih1 _ _ _ _ _ _)
   | (with_reducible exact ih2 _ _ _ _ _ _ _)
   | (with_reducible exact ih3 _ _ _ _ _ _ _)
   | (with_reducible exact ih4 _ _ _ _ _ _ _)
   | (with_reducible exact ih5 _ _ _ _ _ _ _)
   | (with_reducible exact spec_NumDo.mono _ _ _ _)
   | (with_reducible exact spec_l1Power.mono _ _)
   | (with_reducible exact spec_l9Gcd.mono _ _ _)
   | (with_reducible exact spec_l9Make.mono _ _ _)
   | (with_reducible exact LeO.refl _)
   | (with_reducible exact LeO.none _)
   | (with_reducible refine LeO.ite ?_ ?_)
   | (with_reducible refine LeO.bind ?_ (fun _ => ?_))
   | exact ih0 _ _ _ _ _ _
   | exact ih1 _ _ _ _ _ _
   | exact ih2 _ _ _ _ _ _ _
   | exact ih3 _ _ _ _ _ _ _
   | exact ih4 _ _ _ _ _ _ _
   | exact ih5 _ _ _ _ _ _ _
   | exact spec_NumDo.mono _ _ _ _
   | exact spec_l1Power.mono _ _
   | exact spec_l9Gcd.mono _ _ _
   | exact spec_l9Make.mono _ _ _
   | exact LeO.none _
   | refine LeO.ite ?_ ?_
   | refine LeO.bind ?_ (fun _ => ?_)
theorem spec_RestDo.mono : ∀ a0 a1 a2 a3 a4 k, LeO (spec_RestDo.f k a0 a1 a2 a3 a4) (spec_RestDo.f (k + 1) a0 a1 a2 a3 a4) := by
 intro a0 a1 a2 a3 a4 k
 obtain ⟨ih0, ih1, ih2, ih3, ih4, ih5⟩ := spec_RestDo.mono_l k
 unfold spec_RestDo.f
 repeat' first
   | (with_reducible exact ih0 _ _ _ _ _ _)
   | (with_reducible exact ih1 _ _ _ _ _ _)
   | (with_reducible exact ih2 _ _ _ _ _ _ _)
   | (with_reducible exact ih3 _ _ _ _ _ _ _)
   | (with_reducible exact ih4 _ _ _ _ _ _ _)
   | (with_reducible exact ih5 _ _ _ _ _ _ _)
   | (with_reducible exact spec_NumDo.mono _ _ _ _)
   | (with_reducible exact spec_l1Power.mono _ _)
   | (with_reducible exact spec_l9Gcd.mono _ _ _)
   | (with_reducible exact spec_l9Make.mono _ _ _)
   | (with_reducible exact LeO.refl _)
   | (with_reducible exact LeO.none _)
   | (with_reducible refine LeO.ite ?_ ?_)
   | (with_reducible refine LeO.bind ?_ (fun _ => ?_))
   | exact ih0 _ _ _ _ _ _
   | exact ih1 _ _ _ _ _ _
   | exact ih2 _ _ _ _ _ _ _
   | exact ih3 _ _ _ _ _ _ _
   | exact ih4 _ _ _ _ _ _ _
   | exact ih5 _ _ _ _ _ _ _
   | exact spec_NumDo.mono _ _ _ _
   | exact spec_l1Power.mono _ _
   | exact spec_l9Gcd.mono _ _ _
   | exact spec_l9Make.mono _ _ _
   | exact LeO.none _
   | refine LeO.ite ?_ ?_
   | refine LeO.bind ?_ (fun _ => ?_)
def spec_RestDo.T10 : Bool × List (List Nat × List Nat) := (true, [([], []), ([0], [0]), ([], []), ([2], [2]), ([1, 3], [1, 3]), ([], []), ([4, 5, 4], [4, 5]), ([], []), ([7], [7]), ([], []), ([9], [9]), ([8, 10], [8, 10]), ([6, 11, 6], [6, 11]), ([12, 12, 0, 1, 2, 3, 4, 5, 6, 7, 8, 9, 10, 11, 12], [12])])
def spec_RestDo.B10 : List Nat := [0, 1, 0, 4, 15, 0, 63, 0, 128, 0, 512, 1920, 4095, 8191]
theorem spec_RestDo.tab10 : rtab .any (opsOf Try.f39 10) = spec_RestDo.T10 := by kernel_rfl
theorem spec_RestDo.bits10 : waitsOk spec_RestDo.T10.2 spec_RestDo.B10 = true := by kernel_rfl
def spec_RestDo.T12 : Bool × List (List Nat × List Nat) := (true, [([], []), ([0], [0]), ([], []), ([2], [2]), ([1, 3], [1, 3]), ([], []), ([4, 5, 4], [4, 5]), ([], []), ([7], [7]), ([], []), ([9], [9]), ([8, 10], [8, 10]), ([6, 11, 6], [6, 11]), ([12, 12, 0, 1, 2, 3, 4, 5, 6, 7, 8, 9, 10, 11, 12], [12])])
def spec_RestDo.B12 : List Nat := [0, 1, 0, 4, 15, 0, 63, 0, 128, 0, 512, 1920, 4095, 8191]
theorem spec_RestDo.tab12 : rtab .any (opsOf Try.f39 12) = spec_RestDo.T12 := by kernel_rfl
theorem spec_RestDo.bits12 : waitsOk spec_RestDo.T12.2 spec_RestDo.B12 = true := by kernel_rfl
def spec_RestDo.T14 : Bool × List (List Nat × List Nat) := (true, [([], []), ([0], [0]), ([], []), ([2], [2]), ([3], [3]), ([1, 4], [1, 4]), ([], []), ([6], [6]), ([], []), ([8], [8]), ([9, 4], [9]), ([7, 10], [7, 10]), ([5, 11, 10], [5, 11]), ([12, 12, 0, 1, 2, 3, 4, 5, 6, 7, 8, 9, 10, 11, 12], [12])])
def spec_RestDo.B14 : List Nat := [0, 1, 0, 4, 12, 31, 0, 64, 0, 256, 796, 2012, 4095, 8191]
theorem spec_RestDo.tab14 : rtab .any (opsOf Try.f39 14) = spec_RestDo.T14 := by kernel_rfl
theorem spec_RestDo.bits14 : waitsOk spec_RestDo.T14.2 spec_RestDo.B14 = true := by kernel_rfl
def spec_RestDo.T16 : Bool × List (List Nat × List Nat) := (true, [([], []), ([0], [0]), ([], []), ([2], [2]), ([1, 3], [1, 3]), ([], []), ([5], [5]), ([], []), ([7], [7]), ([6, 8], [6, 8]), ([4, 9], [4, 9]), ([], []), ([11], [11]), ([], []), ([13], [13]), ([12, 14], [12, 14]), ([10, 15, 10], [10, 15]), ([16, 16, 0, 1, 2, 3, 4, 5, 6, 7, 8, 9, 10, 11, 12, 13, 14, 15, 16], [16])])
def spec_RestDo.B16 : List Nat := [0, 1, 0, 4, 15, 0, 32, 0, 128, 480, 1023, 0, 2048, 0, 8192, 30720, 65535, 131071]
theorem spec_RestDo.tab16 : rtab .any (opsOf Try.f39 16) = spec_RestDo.T16 := by kernel_rfl
theorem spec_RestDo.bits16 : waitsOk spec_RestDo.T16.2 spec_RestDo.B16 = true := by kernel_rfl
def spec_RestDo.T19 : Bool × List (List Nat × List Nat) := (true, [([], []), ([], []), ([0, 1], [0, 1]), ([], []), ([3], [3]), ([], []), ([5], [5]), ([4, 6], [4, 6]), ([2, 7, 2], [2, 7]), ([8, 8, 0, 1, 2, 3, 4, 5, 6, 7, 8], [8])])
def spec_RestDo.B19 : List Nat := [0, 0, 3, 0, 8, 0, 32, 120, 255, 511]
theorem spec_RestDo.tab19 : rtab .any (opsOf Try.f39 19) = spec_RestDo.T19 := by kernel_rfl
theorem spec_RestDo.bits19 : waitsOk spec_RestDo.T19.2 spec_RestDo.B19 = true := by kernel_rfl
def spec_RestDo.T21 : Bool × List (List Nat × List Nat) := (true, [([], []), ([0], [0]), ([], []), ([2], [2]), ([], []), ([4], [4]), ([3, 5], [3, 5]), ([1, 6, 6], [1, 6]), ([7, 7, 0, 1, 2, 3, 4, 5, 6, 7], [7])])
def spec_RestDo.B21 : List Nat := [0, 1, 0, 4, 0, 16, 60, 127, 255]
theorem spec_RestDo.tab21 : rtab .any (opsOf Try.f39 21) = spec_RestDo.T21 := by kernel_rfl
theorem spec_RestDo.bits21 : waitsOk spec_RestDo.T21.2 spec_RestDo.B21 = true := by kernel_rfl
set_option maxHeartbeats 8000000 in
set_option maxRecDepth 100000 in
theorem spec_RestDo.calls (k : Nat) (a0 : Int) (a1_0 : Int) (a1_1 : Int) (a2_0 : Int) (a2_1 : Int) (r1 : Int) (r2 : Int) (w : World) (h : spec_RestDo.f k a0 a1_0 a1_1 a2_0 a2_1 = some (r1, r2)) :
  Calls Try.prog 39 #[.int .i64 a0, .agg #[.int .i64 a1_0, .int .i64 a1_1], .agg #[.int .i64 a2_0, .int .i64 a2_1]] w fun e w' => e = .returned (.agg #[.int .i64 r1, .int .i64 r2]) ∧ Below w.heap.size w w' := by
 have hu40 := Try.underlying40
 have HB := Aside0.mk (Below.refl w.heap.size w)
 have H : ((spec_l1In.f a0 1 13).bind fun t136 => (if t136 = true then ((spec_RestOk.f a1_0 a1_1).bind fun t137 => (if t137 = true then ((spec_RestOk.f a2_0 a2_1).bind fun t138 => (spec_RestDo.j0 k a0 (!t138) a1_0 a1_1 a2_0 a2_1)) else (spec_RestDo.j0 k a0 true a1_0 a1_1 a2_0 a2_1))) else (spec_RestDo.j0 k a0 true a1_0 a1_1 a2_0 a2_1))) = some (r1, r2) := h
 clear h
 have HC4 := Aside0.mk H
 clear H
 go_enter Try.func39, Try.ntmps39
 go_upto_region 1 with (first | ((with_reducible refine gate_dst (N := 4) rfl ?_); refine box_event ?hg (N := 4) ?hd (cs := #[.int .i64 a1_0, .int .i64 a1_1]) (t := 40) ?hr ?_; (case hd => rfl); (case hg => rfl); (case hr => first | (go_simp; done) | (go_simp; rfl)); intro gb133 hg w5 hbox hb; have n0_ := Aside0.mk (below_step (hz HB.out) hb); have n1_ := Aside0.mk (hbox); have n2_ := Aside0.mk ((by rw [hg]; exact (below_size (hz HB.out)) : w.heap.size ≤ gb133)); have n3_ := Aside0.mk ((by rw [hg]; exact (below_size (hz HB.out)) : w.heap.size ≤ gb133)); clear HB; have HB := n0_; have BK133 := n1_; have GW133 := n2_; have GE133 := n3_; clear n0_ n1_ n2_ n3_; clear hb hbox hg) | ((with_reducible refine gate_dst (N := 5) rfl ?_); refine box_event ?hg (N := 5) ?hd (cs := #[.int .i64 a2_0, .int .i64 a2_1]) (t := 40) ?hr ?_; (case hd => rfl); (case hg => rfl); (case hr => first | (go_simp; done) | (go_simp; rfl)); intro gb134 hg w6 hbox hb; have n0_ := Aside0.mk (blk_below (g := gb133) (o := .cells #[.int .i64 a1_0, .int .i64 a1_1] 40 (0, 0)) (bz BK133.out) hb); have n1_ := Aside0.mk (below_step (hz1 HB.out GE133.out) hb); have n2_ := Aside0.mk (hbox); have n3_ := Aside0.mk ((by rw [hg]; exact (below_size (hz1 HB.out GE133.out)) : w.heap.size ≤ gb134)); have n4_ := Aside0.mk ((by rw [hg]; exact (below_size (hz1 HB.out GE133.out)) : w.heap.size ≤ gb134)); have n5_ := Aside0.mk ((by rw [hg]; exact Nat.ne_of_lt (blk_lt (g := gb133) (o := .cells #[.int .i64 a1_0, .int .i64 a1_1] 40 (0, 0)) (bz BK133.out)) : gb133 ≠ gb134)); have n6_ := Aside0.mk ((by rw [hg]; exact Nat.ne_of_gt (blk_lt (g := gb133) (o := .cells #[.int .i64 a1_0, .int .i64 a1_1] 40 (0, 0)) (bz BK133.out)) : gb134 ≠ gb133)); clear BK133; clear HB; have BK133 := n0_; have HB := n1_; have BK134 := n2_; have GW134 := n3_; have GE134 := n4_; have NB133_134 := n5_; have NB134_133 := n6_; clear n0_ n1_ n2_ n3_ n4_ n5_ n6_; clear hb hbox hg) | ((with_reducible refine gate_dst (N := 6) rfl ?_); refine box_event ?hg (N := 6) ?hd (cs := #[.int .i64 0, .int .i64 0]) (t := 40) ?hr ?_; (case hd => rfl); (case hg => rfl); (case hr => first | (go_simp; done) | (go_simp; rfl)); intro gb135 hg w7 hbox hb; have n0_ := Aside0.mk (blk_below (g := gb133) (o := .cells #[.int .i64 a1_0, .int .i64 a1_1] 40 (0, 0)) (bz BK133.out) hb); have n1_ := Aside0.mk (blk_below (g := gb134) (o := .cells #[.int .i64 a2_0, .int .i64 a2_1] 40 (0, 0)) (bz BK134.out) hb); have n2_ := Aside0.mk (below_step (hz2 HB.out GE133.out GE134.out) hb); have n3_ := Aside0.mk (hbox); have n4_ := Aside0.mk ((by rw [hg]; exact (below_size (hz2 HB.out GE133.out GE134.out)) : w.heap.size ≤ gb135)); have n5_ := Aside0.mk ((by rw [hg]; exact (below_size (hz2 HB.out GE133.out GE134.out)) : w.heap.size ≤ gb135)); have n6_ := Aside0.mk ((by rw [hg]; exact Nat.ne_of_lt (blk_lt (g := gb133) (o := .cells #[.int .i64 a1_0, .int .i64 a1_1] 40 (0, 0)) (bz BK133.out)) : gb133 ≠ gb135)); have n7_ := Aside0.mk ((by rw [hg]; exact Nat.ne_of_gt (blk_lt (g := gb133) (o := .cells #[.int .i64 a1_0, .int .i64 a1_1] 40 (0, 0)) (bz BK133.out)) : gb135 ≠ gb133)); have n8_ := Aside0.mk ((by rw [hg]; exact Nat.ne_of_lt (blk_lt (g := gb134) (o := .cells #[.int .i64 a2_0, .int .i64 a2_1] 40 (0, 0)) (bz BK134.out)) : gb134 ≠ gb135)); have n9_ := Aside0.mk ((by rw [hg]; exact Nat.ne_of_gt (blk_lt (g := gb134) (o := .cells #[.int .i64 a2_0, .int .i64 a2_1] 40 (0, 0)) (bz BK134.out)) : gb135 ≠ gb134)); clear BK133; clear BK134; clear HB; have BK133 := n0_; have BK134 := n1_; have HB := n2_; have BK135 := n3_; have GW135 := n4_; have GE135 := n5_; have NB133_135 := n6_; have NB135_133 := n7_; have NB134_135 := n8_; have NB135_134 := n9_; clear n0_ n1_ n2_ n3_ n4_ n5_ n6_ n7_ n8_ n9_; clear hb hbox hg))
 (try simp only [Act.put, List.setIfInBounds_toArray, List.set_cons_zero, List.set_cons_succ])
 go_cut [24] (fun v24 wc => ∃ (kq : Nat) (x24_3 : Bool), v24 = .bool x24_3 ∧ Aside0 (spec_RestDo.j0 kq a0 x24_3 a1_0 a1_1 a2_0 a2_1 = some (r1, r2)) ∧ Aside0 (kq ≤ k) ∧ Aside0 (wc.heap[gb133]? = some (.cells #[.int .i64 a1_0, .int .i64 a1_1] 40 (0, 0))) ∧ Aside0 (wc.heap[gb134]? = some (.cells #[.int .i64 a2_0, .int .i64 a2_1] 40 (0, 0))) ∧ Aside0 (wc.heap[gb135]? = some (.cells #[.int .i64 0, .int .i64 0] 40 (0, 0))) ∧ Aside0 (Below w.heap.size w wc))
 case first =>
  have H := HC4.out
  clear HC4
  replace H := Option.bind_eq_some_iff.mp H
  obtain ⟨t136, A80, H⟩ := H
  replace H : (if t136 = true then ((spec_RestOk.f a1_0 a1_1).bind fun t137 => (if t137 = true then ((spec_RestOk.f a2_0 a2_1).bind fun t138 => (spec_RestDo.j0 k a0 (!t138) a1_0 a1_1 a2_0 a2_1)) else (spec_RestDo.j0 k a0 true a1_0 a1_1 a2_0 a2_1))) else (spec_RestDo.j0 k a0 true a1_0 a1_1 a2_0 a2_1)) = some (r1, r2) := H
  have A8 := Aside0.mk A80
  clear A80
  by_cases c9 : t136 = true
  ·subst c9
   have H1 : ((spec_RestOk.f a1_0 a1_1).bind fun t137 => (if t137 = true then ((spec_RestOk.f a2_0 a2_1).bind fun t138 => (spec_RestDo.j0 k a0 (!t138) a1_0 a1_1 a2_0 a2_1)) else (spec_RestDo.j0 k a0 true a1_0 a1_1 a2_0 a2_1))) = some (r1, r2) := by rw [if_pos rfl] at H; exact H
   clear H
   have H := H1
   clear H1
   replace H := Option.bind_eq_some_iff.mp H
   obtain ⟨t137, A100, H⟩ := H
   replace H : (if t137 = true then ((spec_RestOk.f a2_0 a2_1).bind fun t138 => (spec_RestDo.j0 k a0 (!t138) a1_0 a1_1 a2_0 a2_1)) else (spec_RestDo.j0 k a0 true a1_0 a1_1 a2_0 a2_1)) = some (r1, r2) := H
   have A10 := Aside0.mk A100
   clear A100
   by_cases c11 : t137 = true
   ·subst c11
    have H1 : ((spec_RestOk.f a2_0 a2_1).bind fun t138 => (spec_RestDo.j0 k a0 (!t138) a1_0 a1_1 a2_0 a2_1)) = some (r1, r2) := by rw [if_pos rfl] at H; exact H
    clear H
    have H := H1
    clear H1
    replace H := Option.bind_eq_some_iff.mp H
    obtain ⟨t138, A120, H⟩ := H
    replace H : (spec_RestDo.j0 k a0 (!t138) a1_0 a1_1 a2_0 a2_1) = some (r1, r2) := H
    have A12 := Aside0.mk A120
    clear A120
    have H' := Aside0.mk H
    clear H
    go_wp2_with (first | ((with_reducible refine gate_callee (f := 64) rfl ?_); refine goesL_ (some 13) rfl rfl Try.func64 (by kernel_rfl) rfl #[.int .i64 a0, .int .i64 1, .int .i64 13] rfl mz ?_; (with_reducible refine (spec_l1In.calls a0 1 13 true _ A8.out).mono ?_); rintro e w' ⟨rfl, ⟨nd, rfl⟩⟩; refine ⟨_, rfl, ?_⟩; have hnb13 := NB133_134.out; have hnc13 := NB134_133.out; have hnb14 := NB133_135.out; have hnc14 := NB135_133.out; have hcz15_0 : w7.cell? ⟨gb133, 0, none⟩ = some (.int .i64 a1_0) := (blk_cell BK133.out 0).trans rfl; have hcz15_1 : w7.cell? ⟨gb133, 1, none⟩ = some (.int .i64 a1_1) := (blk_cell BK133.out 1).trans rfl; have hfz15_0 := blk_frozen BK133.out 0; have hfz15_1 := blk_frozen BK133.out 1) | (go_at_call 27; (with_reducible refine (spec_RestOk.calls a1_0 a1_1 true _ A10.out).mono ?_); rintro e w16 ⟨rfl, hb⟩; have n0_ := Aside0.mk (blk_below (g := gb133) (o := .cells #[.int .i64 a1_0, .int .i64 a1_1] 40 (0, 0)) (bz BK133.out) hb); have n1_ := Aside0.mk (blk_below (g := gb134) (o := .cells #[.int .i64 a2_0, .int .i64 a2_1] 40 (0, 0)) (bz BK134.out) hb); have n2_ := Aside0.mk (blk_below (g := gb135) (o := .cells #[.int .i64 0, .int .i64 0] 40 (0, 0)) (bz BK135.out) hb); have n3_ := Aside0.mk (below_step (hz3 HB.out GE133.out GE134.out GE135.out) hb); clear BK133; clear BK134; clear BK135; clear HB; have BK133 := n0_; have BK134 := n1_; have BK135 := n2_; have HB := n3_; clear n0_ n1_ n2_ n3_; (try clear hb); (try clear hb2); (try clear hk); (try clear hi); have hnb17 := NB134_135.out; have hnc17 := NB135_134.out; have hcz18_0 : w16.cell? ⟨gb134, 0, none⟩ = some (.int .i64 a2_0) := (blk_cell BK134.out 0).trans rfl; have hcz18_1 : w16.cell? ⟨gb134, 1, none⟩ = some (.int .i64 a2_1) := (blk_cell BK134.out 1).trans rfl; have hfz18_0 := blk_frozen BK134.out 0; have hfz18_1 := blk_frozen BK134.out 1) | (go_at_call 27; (with_reducible refine (spec_RestOk.calls a2_0 a2_1 t138 _ A12.out).mono ?_); rintro e w19 ⟨rfl, hb⟩; have n0_ := Aside0.mk (blk_below (g := gb133) (o := .cells #[.int .i64 a1_0, .int .i64 a1_1] 40 (0, 0)) (bz BK133.out) hb); have n1_ := Aside0.mk (blk_below (g := gb134) (o := .cells #[.int .i64 a2_0, .int .i64 a2_1] 40 (0, 0)) (bz BK134.out) hb); have n2_ := Aside0.mk (blk_below (g := gb135) (o := .cells #[.int .i64 0, .int .i64 0] 40 (0, 0)) (bz BK135.out) hb); have n3_ := Aside0.mk (below_step (hz3 HB.out GE133.out GE134.out GE135.out) hb); clear BK133; clear BK134; clear BK135; clear HB; have BK133 := n0_; have BK134 := n1_; have BK135 := n2_; have HB := n3_; clear n0_ n1_ n2_ n3_; (try clear hb); (try clear hb2); (try clear hk); (try clear hi)))
    go_meet
    case rel => exact ⟨_, (!t138), (by first | rfl | (simp; done) | (simp [*]; done)), H', ⟨by first | omega | exact Nat.le_refl _⟩, ⟨bz BK133.out⟩, ⟨bz BK134.out⟩, ⟨bz BK135.out⟩, ⟨hz3 HB.out GE133.out GE134.out GE135.out⟩⟩
   ·replace c11 := Bool.eq_false_iff.mpr c11
    subst c11
    have H1 : (spec_RestDo.j0 k a0 true a1_0 a1_1 a2_0 a2_1) = some (r1, r2) := by rw [if_neg (show ¬ (false = true) by decide)] at H; exact H
    clear H
    have H := H1
    clear H1
    have H' := Aside0.mk H
    clear H
    go_wp2_with (first | ((with_reducible refine gate_callee (f := 64) rfl ?_); refine goesL_ (some 13) rfl rfl Try.func64 (by kernel_rfl) rfl #[.int .i64 a0, .int .i64 1, .int .i64 13] rfl mz ?_; (with_reducible refine (spec_l1In.calls a0 1 13 true _ A8.out).mono ?_); rintro e w' ⟨rfl, ⟨nd, rfl⟩⟩; refine ⟨_, rfl, ?_⟩; have hnb20 := NB133_134.out; have hnc20 := NB134_133.out; have hnb21 := NB133_135.out; have hnc21 := NB135_133.out; have hcz22_0 : w7.cell? ⟨gb133, 0, none⟩ = some (.int .i64 a1_0) := (blk_cell BK133.out 0).trans rfl; have hcz22_1 : w7.cell? ⟨gb133, 1, none⟩ = some (.int .i64 a1_1) := (blk_cell BK133.out 1).trans rfl; have hfz22_0 := blk_frozen BK133.out 0; have hfz22_1 := blk_frozen BK133.out 1) | (go_at_call 27; (with_reducible refine (spec_RestOk.calls a1_0 a1_1 false _ A10.out).mono ?_); rintro e w23 ⟨rfl, hb⟩; have n0_ := Aside0.mk (blk_below (g := gb133) (o := .cells #[.int .i64 a1_0, .int .i64 a1_1] 40 (0, 0)) (bz BK133.out) hb); have n1_ := Aside0.mk (blk_below (g := gb134) (o := .cells #[.int .i64 a2_0, .int .i64 a2_1] 40 (0, 0)) (bz BK134.out) hb); have n2_ := Aside0.mk (blk_below (g := gb135) (o := .cells #[.int .i64 0, .int .i64 0] 40 (0, 0)) (bz BK135.out) hb); have n3_ := Aside0.mk (below_step (hz3 HB.out GE133.out GE134.out GE135.out) hb); clear BK133; clear BK134; clear BK135; clear HB; have BK133 := n0_; have BK134 := n1_; have BK135 := n2_; have HB := n3_; clear n0_ n1_ n2_ n3_; (try clear hb); (try clear hb2); (try clear hk); (try clear hi)))
    go_meet
    case rel => exact ⟨_, (true), (by first | rfl | (simp; done) | (simp [*]; done)), H', ⟨by first | omega | exact Nat.le_refl _⟩, ⟨bz BK133.out⟩, ⟨bz BK134.out⟩, ⟨bz BK135.out⟩, ⟨hz3 HB.out GE133.out GE134.out GE135.out⟩⟩
  ·replace c9 := Bool.eq_false_iff.mpr c9
   subst c9
   have H1 : (spec_RestDo.j0 k a0 true a1_0 a1_1 a2_0 a2_1) = some (r1, r2) := by rw [if_neg (show ¬ (false = true) by decide)] at H; exact H
   clear H
   have H := H1
   clear H1
   have H' := Aside0.mk H
   clear H
   go_wp2_with (first | ((with_reducible refine gate_callee (f := 64) rfl ?_); refine goesL_ (some 13) rfl rfl Try.func64 (by kernel_rfl) rfl #[.int .i64 a0, .int .i64 1, .int .i64 13] rfl mz ?_; (with_reducible refine (spec_l1In.calls a0 1 13 false _ A8.out).mono ?_); rintro e w' ⟨rfl, ⟨nd, rfl⟩⟩; refine ⟨_, rfl, ?_⟩))
   go_meet
   case rel => exact ⟨_, (true), (by first | rfl | (simp; done) | (simp [*]; done)), H', ⟨by first | omega | exact Nat.le_refl _⟩, ⟨bz BK133.out⟩, ⟨bz BK134.out⟩, ⟨bz BK135.out⟩, ⟨hz3 HB.out GE133.out GE134.out GE135.out⟩⟩
 case rest =>
  clear HC4
  try clear c1
  try clear c2
  try clear p2
  try clear c3
  try clear c6
  try clear c9
  try clear c11
  try clear c13
  try clear c14
  try clear c17
  try clear c20
  try clear c21
  try clear hcz15_0
  try clear hcz15_1
  try clear hcz18_0
  try clear hcz18_1
  try clear hcz22_0
  try clear hcz22_1
  try clear hfz15_0
  try clear hfz15_1
  try clear hfz18_0
  try clear hfz18_1
  try clear hfz22_0
  try clear hfz22_1
  obtain ⟨kq, x24_3, rfl, HA, HJ3, BK133, BK134, BK135, HB⟩ := hcut
  cases kq with
  | zero => exact absurd HA.out (by simp [spec_RestDo.j0])
  | succ kj3 =>
   have H := HA.out
   clear HA
   simp only [spec_RestDo.j0] at H
   by_cases c24 : x24_3 = true
   ·subst c24
    have H1 : ((spec_l9All.f).bind fun bt139 => (some (bt139.1, bt139.2))) = some (r1, r2) := by rw [if_pos rfl] at H; exact H
    clear H
    have H := H1
    clear H1
    replace H := Option.bind_eq_some_iff.mp H
    obtain ⟨⟨t139, t140⟩, A250, H⟩ := H
    replace H : (some (t139, t140)) = some (r1, r2) := H
    have A25 := Aside0.mk A250
    clear A250
    simp only [Option.some.injEq, Prod.mk.injEq] at H
    obtain ⟨rfl, rfl⟩ := H
    go_wp2_with (first | ((with_reducible refine gate_callee (f := 67) rfl ?_); refine goesL_ (some 25) rfl rfl Try.func67 (by kernel_rfl) rfl #[] rfl mz ?_; (with_reducible refine (spec_l9All.calls  t139 t140 _ A25.out).mono ?_); rintro e w26 ⟨rfl, hb⟩; refine ⟨_, rfl, ?_⟩; have n0_ := Aside0.mk (blk_below (g := gb133) (o := .cells #[.int .i64 a1_0, .int .i64 a1_1] 40 (0, 0)) (bz BK133.out) hb); have n1_ := Aside0.mk (blk_below (g := gb134) (o := .cells #[.int .i64 a2_0, .int .i64 a2_1] 40 (0, 0)) (bz BK134.out) hb); have n2_ := Aside0.mk (blk_below (g := gb135) (o := .cells #[.int .i64 0, .int .i64 0] 40 (0, 0)) (bz BK135.out) hb); have n3_ := Aside0.mk (below_step (hz3 HB.out GE133.out GE134.out GE135.out) hb); clear BK133; clear BK134; clear BK135; clear HB; have BK133 := n0_; have BK134 := n1_; have BK135 := n2_; have HB := n3_; clear n0_ n1_ n2_ n3_; (try clear hb); (try clear hb2); (try clear hk); (try clear hi); have hnb27 := NB135_133.out; have hnc27 := NB133_135.out; have hnb28 := NB135_134.out; have hnc28 := NB134_135.out; have hcz29_0 : w26.cell? ⟨gb135, 0, none⟩ = some (.int .i64 0) := (blk_cell BK135.out 0).trans rfl; have hcz29_1 : w26.cell? ⟨gb135, 1, none⟩ = some (.int .i64 0) := (blk_cell BK135.out 1).trans rfl; have hfz29_0 := blk_frozen BK135.out 0; have hfz29_1 := blk_frozen BK135.out 1))
    refine bodyPost_ret (results_cell_row rfl _ _ gb135 40 #[.int .i64 t139, .int .i64 t140] (0, 0) _ rfl (by (with_reducible repeat (first | refine blk_drewN ?_ _ | refine blk_drew ?_ | refine blk_alloc ?_ _)); refine blk_put (cs := #[.int .i64 t139, .int .i64 0]) ?_ 1 _ rfl; (with_reducible repeat (first | refine blk_drewN ?_ _ | refine blk_drew ?_ | refine blk_alloc ?_ _)); refine blk_put (cs := #[.int .i64 0, .int .i64 0]) ?_ 0 _ rfl; (with_reducible repeat (first | refine blk_drewN ?_ _ | refine blk_drew ?_ | refine blk_alloc ?_ _)); exact BK135.out) Try.underlying40 rfl (by kernel_rfl)) rfl ?_
    exact ⟨by first | rfl | (simp [errW_none, errW_some] <;> rfl) | (simp [*, errW_none, errW_some] <;> rfl), hz3 HB.out GE133.out GE134.out GE135.out⟩
   ·replace c24 := Bool.eq_false_iff.mpr c24
    subst c24
    have H1 : (if a1_0 = 0 then (spec_RestDo.j1 kj3 a0 (a2_0 == 0) a1_0 a1_1 a2_0 a2_1) else (spec_RestDo.j1 kj3 a0 false a1_0 a1_1 a2_0 a2_1)) = some (r1, r2) := by rw [if_neg (show ¬ (false = true) by decide)] at H; exact H
    clear H
    have H := H1
    clear H1
    have HC30 := Aside0.mk H
    clear H
    go_upto_region 3 with (fail)
    go_cut [33] (fun v33 wc => ∃ (kq : Nat) (x33_29 : Bool), v33 = .bool x33_29 ∧ Aside0 (spec_RestDo.j1 kq a0 x33_29 a1_0 a1_1 a2_0 a2_1 = some (r1, r2)) ∧ Aside0 (kq ≤ kj3) ∧ Aside0 (wc.heap[gb133]? = some (.cells #[.int .i64 a1_0, .int .i64 a1_1] 40 (0, 0))) ∧ Aside0 (wc.heap[gb134]? = some (.cells #[.int .i64 a2_0, .int .i64 a2_1] 40 (0, 0))) ∧ Aside0 (wc.heap[gb135]? = some (.cells #[.int .i64 0, .int .i64 0] 40 (0, 0))) ∧ Aside0 (Below w.heap.size w wc))
    case first =>
     have H := HC30.out
     clear HC30
     by_cases c31 : a1_0 = 0
     ·rw [if_pos c31] at H
      have c31b0 : (a1_0 == 0) = true := beq_iff_eq.mpr c31
      have c31b1 : (a1_0 != 0) = false := bne_eq_false_iff_eq.mpr c31
      clear c31
      (first | rw [c31b0] | (simp only [i64_w, i32_w]; rw [c31b0]) | skip)
      have H' := Aside0.mk H
      clear H
      have hnb32 := NB133_134.out
      have hnc32 := NB134_133.out
      have hnb33 := NB133_135.out
      have hnc33 := NB135_133.out
      have hcz34_0 : wc.cell? ⟨gb133, 0, none⟩ = some (.int .i64 a1_0) := (blk_cell BK133.out 0).trans rfl
      have hcz34_1 : wc.cell? ⟨gb133, 1, none⟩ = some (.int .i64 a1_1) := (blk_cell BK133.out 1).trans rfl
      have hfz34_0 := blk_frozen BK133.out 0
      have hfz34_1 := blk_frozen BK133.out 1
      have hnb35 := NB134_135.out
      have hnc35 := NB135_134.out
      have hcz36_0 : wc.cell? ⟨gb134, 0, none⟩ = some (.int .i64 a2_0) := (blk_cell BK134.out 0).trans rfl
      have hcz36_1 : wc.cell? ⟨gb134, 1, none⟩ = some (.int .i64 a2_1) := (blk_cell BK134.out 1).trans rfl
      have hfz36_0 := blk_frozen BK134.out 0
      have hfz36_1 := blk_frozen BK134.out 1
      go_wp2
      go_meet
      case rel => exact ⟨_, ((a2_0 == 0)), (by first | rfl | (simp; done) | (simp [*]; done)), H', ⟨by have := HJ3.out; first | omega | exact Nat.le_refl _⟩, ⟨bz BK133.out⟩, ⟨bz BK134.out⟩, ⟨bz BK135.out⟩, ⟨hz3 HB.out GE133.out GE134.out GE135.out⟩⟩
     ·rw [if_neg c31] at H
      have c31b0 : (a1_0 == 0) = false := beq_eq_false_iff_ne.mpr c31
      have c31b1 : (a1_0 != 0) = true := bne_iff_ne.mpr c31
      (first | rw [c31b0] | (simp only [i64_w, i32_w]; rw [c31b0]) | skip)
      have H' := Aside0.mk H
      clear H
      have hnb37 := NB133_134.out
      have hnc37 := NB134_133.out
      have hnb38 := NB133_135.out
      have hnc38 := NB135_133.out
      have hcz39_0 : wc.cell? ⟨gb133, 0, none⟩ = some (.int .i64 a1_0) := (blk_cell BK133.out 0).trans rfl
      have hcz39_1 : wc.cell? ⟨gb133, 1, none⟩ = some (.int .i64 a1_1) := (blk_cell BK133.out 1).trans rfl
      have hfz39_0 := blk_frozen BK133.out 0
      have hfz39_1 := blk_frozen BK133.out 1
      go_wp2
      go_meet
      case rel => exact ⟨_, (false), (by first | rfl | (simp; done) | (simp [*]; done)), H', ⟨by have := HJ3.out; first | omega | exact Nat.le_refl _⟩, ⟨bz BK133.out⟩, ⟨bz BK134.out⟩, ⟨bz BK135.out⟩, ⟨hz3 HB.out GE133.out GE134.out GE135.out⟩⟩
    case rest =>
     clear HC30
     try clear c1
     try clear c2
     try clear p2
     try clear c3
     try clear c6
     try clear c9
     try clear c11
     try clear c13
     try clear c14
     try clear c17
     try clear c20
     try clear c21
     try clear c24
     try clear c27
     try clear c28
     try clear c31
     try clear c31b0
     try clear c31b1
     try clear c32
     try clear c33
     try clear c35
     try clear c37
     try clear c38
     try clear c39
     try clear hcz15_0
     try clear hcz15_1
     try clear hcz18_0
     try clear hcz18_1
     try clear hcz22_0
     try clear hcz22_1
     try clear hcz29_0
     try clear hcz29_1
     try clear hcz34_0
     try clear hcz34_1
     try clear hcz36_0
     try clear hcz36_1
     try clear hcz39_0
     try clear hcz39_1
     try clear hfz15_0
     try clear hfz15_1
     try clear hfz18_0
     try clear hfz18_1
     try clear hfz22_0
     try clear hfz22_1
     try clear hfz29_0
     try clear hfz29_1
     try clear hfz34_0
     try clear hfz34_1
     try clear hfz36_0
     try clear hfz36_1
     try clear hfz39_0
     try clear hfz39_1
     try clear p2
     obtain ⟨kq, x33_29, rfl, HA, HJ29, BK133, BK134, BK135, HB⟩ := hcut
     cases kq with
     | zero => exact absurd HA.out (by simp [spec_RestDo.j1])
     | succ kj29 =>
      have H := HA.out
      clear HA
      simp only [spec_RestDo.j1] at H
      by_cases c40 : x33_29 = true
      ·subst c40
       have H1 : ((spec_NumDo.f kj29 a0 a1_1 a2_1).bind fun bt141 => (if bt141.2 = 0 then (some (0, bt141.1)) else ((spec_l9All.f).bind fun bt143 => (some (bt143.1, bt143.2))))) = some (r1, r2) := by rw [if_pos rfl] at H; exact H
       clear H
       have H := H1
       clear H1
       replace H := Option.bind_eq_some_iff.mp H
       obtain ⟨⟨t141, t142⟩, A410, H⟩ := H
       replace H : (if t142 = 0 then (some (0, t141)) else ((spec_l9All.f).bind fun bt143 => (some (bt143.1, bt143.2)))) = some (r1, r2) := H
       have A41 := Aside0.mk A410
       clear A410
       by_cases c42 : t142 = 0
       ·rw [if_pos c42] at H
        have c42b0 : (t142 == 0) = true := beq_iff_eq.mpr c42
        have c42b1 : (t142 != 0) = false := bne_eq_false_iff_eq.mpr c42
        clear c42
        simp only [Option.some.injEq, Prod.mk.injEq] at H
        obtain ⟨rfl, rfl⟩ := H
        have hnb43 := NB133_134.out
        have hnc43 := NB134_133.out
        have hnb44 := NB133_135.out
        have hnc44 := NB135_133.out
        have hcz45_0 : wc.cell? ⟨gb133, 0, none⟩ = some (.int .i64 a1_0) := (blk_cell BK133.out 0).trans rfl
        have hcz45_1 : wc.cell? ⟨gb133, 1, none⟩ = some (.int .i64 a1_1) := (blk_cell BK133.out 1).trans rfl
        have hfz45_0 := blk_frozen BK133.out 0
        have hfz45_1 := blk_frozen BK133.out 1
        have hnb46 := NB134_135.out
        have hnc46 := NB135_134.out
        have hcz47_0 : wc.cell? ⟨gb134, 0, none⟩ = some (.int .i64 a2_0) := (blk_cell BK134.out 0).trans rfl
        have hcz47_1 : wc.cell? ⟨gb134, 1, none⟩ = some (.int .i64 a2_1) := (blk_cell BK134.out 1).trans rfl
        have hfz47_0 := blk_frozen BK134.out 0
        have hfz47_1 := blk_frozen BK134.out 1
        go_wp2_with (first | ((with_reducible refine gate_callee (f := 73) rfl ?_); refine goesL_ (some 40) rfl rfl Try.func73 (by kernel_rfl) rfl #[.int .i64 a0, .int .i64 a1_1, .int .i64 a2_1] rfl mz ?_; (with_reducible refine (spec_NumDo.calls kj29 a0 a1_1 a2_1 t141 t142 _ A41.out).mono ?_); rintro e w' ⟨rfl, ⟨nd, rfl⟩⟩; refine ⟨_, rfl, ?_⟩; (try (rw [drewN_self wc]; generalize hq_ : World.drewN wc _ = wc; have n0_ : Aside0 (wc.heap[gb133]? = some (.cells #[.int .i64 a1_0, .int .i64 a1_1] 40 (0, 0))) := ⟨by rw [← hq_]; exact (bz BK133.out)⟩; have n1_ : Aside0 (wc.heap[gb134]? = some (.cells #[.int .i64 a2_0, .int .i64 a2_1] 40 (0, 0))) := ⟨by rw [← hq_]; exact (bz BK134.out)⟩; have n2_ : Aside0 (wc.heap[gb135]? = some (.cells #[.int .i64 0, .int .i64 0] 40 (0, 0))) := ⟨by rw [← hq_]; exact (bz BK135.out)⟩; have n3_ : Aside0 (Below w.heap.size w wc) := ⟨by rw [← hq_]; exact (hz3 HB.out GE133.out GE134.out GE135.out)⟩; clear BK133 BK134 BK135 HB hq_; have BK133 := n0_; have BK134 := n1_; have BK135 := n2_; have HB := n3_; clear n0_ n1_ n2_ n3_)); have hcz48_0 : wc.cell? ⟨gb135, 0, none⟩ = some (.int .i64 0) := (blk_cell BK135.out 0).trans rfl; have hcz48_1 : wc.cell? ⟨gb135, 1, none⟩ = some (.int .i64 0) := (blk_cell BK135.out 1).trans rfl; have hfz48_0 := blk_frozen BK135.out 0; have hfz48_1 := blk_frozen BK135.out 1))
        refine bodyPost_ret (results_cell_row rfl _ _ gb135 40 #[.int .i64 0, .int .i64 t141] (0, 0) _ rfl (by (with_reducible repeat (first | refine blk_drewN ?_ _ | refine blk_drew ?_ | refine blk_alloc ?_ _)); refine blk_put (cs := #[.int .i64 0, .int .i64 0]) ?_ 1 _ rfl; (with_reducible repeat (first | refine blk_drewN ?_ _ | refine blk_drew ?_ | refine blk_alloc ?_ _)); refine blk_put (cs := #[.int .i64 0, .int .i64 0]) ?_ 0 _ rfl; (with_reducible repeat (first | refine blk_drewN ?_ _ | refine blk_drew ?_ | refine blk_alloc ?_ _)); exact BK135.out) Try.underlying40 rfl (by kernel_rfl)) rfl ?_
        exact ⟨by first | rfl | (simp [errW_none, errW_some] <;> rfl) | (simp [*, errW_none, errW_some] <;> rfl), hz3 HB.out GE133.out GE134.out GE135.out⟩
       ·rw [if_neg c42] at H
        have c42b0 : (t142 == 0) = false := beq_eq_false_iff_ne.mpr c42
        have c42b1 : (t142 != 0) = true := bne_iff_ne.mpr c42
        replace H := Option.bind_eq_some_iff.mp H
        obtain ⟨⟨t143, t144⟩, A490, H⟩ := H
        replace H : (some (t143, t144)) = some (r1, r2) := H
        have A49 := Aside0.mk A490
        clear A490
        simp only [Option.some.injEq, Prod.mk.injEq] at H
        obtain ⟨rfl, rfl⟩ := H
        have hnb50 := NB133_134.out
        have hnc50 := NB134_133.out
        have hnb51 := NB133_135.out
        have hnc51 := NB135_133.out
        have hcz52_0 : wc.cell? ⟨gb133, 0, none⟩ = some (.int .i64 a1_0) := (blk_cell BK133.out 0).trans rfl
        have hcz52_1 : wc.cell? ⟨gb133, 1, none⟩ = some (.int .i64 a1_1) := (blk_cell BK133.out 1).trans rfl
        have hfz52_0 := blk_frozen BK133.out 0
        have hfz52_1 := blk_frozen BK133.out 1
        have hnb53 := NB134_135.out
        have hnc53 := NB135_134.out
        have hcz54_0 : wc.cell? ⟨gb134, 0, none⟩ = some (.int .i64 a2_0) := (blk_cell BK134.out 0).trans rfl
        have hcz54_1 : wc.cell? ⟨gb134, 1, none⟩ = some (.int .i64 a2_1) := (blk_cell BK134.out 1).trans rfl
        have hfz54_0 := blk_frozen BK134.out 0
        have hfz54_1 := blk_frozen BK134.out 1
        go_wp2_with (first | ((with_reducible refine gate_callee (f := 73) rfl ?_); refine goesL_ (some 40) rfl rfl Try.func73 (by kernel_rfl) rfl #[.int .i64 a0, .int .i64 a1_1, .int .i64 a2_1] rfl mz ?_; (with_reducible refine (spec_NumDo.calls kj29 a0 a1_1 a2_1 t141 t142 _ A41.out).mono ?_); rintro e w' ⟨rfl, ⟨nd, rfl⟩⟩; refine ⟨_, rfl, ?_⟩; (try (rw [drewN_self wc]; generalize hq_ : World.drewN wc _ = wc; have n0_ : Aside0 (wc.heap[gb133]? = some (.cells #[.int .i64 a1_0, .int .i64 a1_1] 40 (0, 0))) := ⟨by rw [← hq_]; exact (bz BK133.out)⟩; have n1_ : Aside0 (wc.heap[gb134]? = some (.cells #[.int .i64 a2_0, .int .i64 a2_1] 40 (0, 0))) := ⟨by rw [← hq_]; exact (bz BK134.out)⟩; have n2_ : Aside0 (wc.heap[gb135]? = some (.cells #[.int .i64 0, .int .i64 0] 40 (0, 0))) := ⟨by rw [← hq_]; exact (bz BK135.out)⟩; have n3_ : Aside0 (Below w.heap.size w wc) := ⟨by rw [← hq_]; exact (hz3 HB.out GE133.out GE134.out GE135.out)⟩; clear BK133 BK134 BK135 HB hq_; have BK133 := n0_; have BK134 := n1_; have BK135 := n2_; have HB := n3_; clear n0_ n1_ n2_ n3_))) | ((with_reducible refine gate_callee (f := 67) rfl ?_); refine goesL_ (some 45) rfl rfl Try.func67 (by kernel_rfl) rfl #[] rfl mz ?_; (with_reducible refine (spec_l9All.calls  t143 t144 _ A49.out).mono ?_); rintro e w55 ⟨rfl, hb⟩; refine ⟨_, rfl, ?_⟩; have n0_ := Aside0.mk (blk_below (g := gb133) (o := .cells #[.int .i64 a1_0, .int .i64 a1_1] 40 (0, 0)) (bz BK133.out) hb); have n1_ := Aside0.mk (blk_below (g := gb134) (o := .cells #[.int .i64 a2_0, .int .i64 a2_1] 40 (0, 0)) (bz BK134.out) hb); have n2_ := Aside0.mk (blk_below (g := gb135) (o := .cells #[.int .i64 0, .int .i64 0] 40 (0, 0)) (bz BK135.out) hb); have n3_ := Aside0.mk (below_step (hz3 HB.out GE133.out GE134.out GE135.out) hb); clear BK133; clear BK134; clear BK135; clear HB; have BK133 := n0_; have BK134 := n1_; have BK135 := n2_; have HB := n3_; clear n0_ n1_ n2_ n3_; (try clear hb); (try clear hb2); (try clear hk); (try clear hi); have hcz56_0 : w55.cell? ⟨gb135, 0, none⟩ = some (.int .i64 0) := (blk_cell BK135.out 0).trans rfl; have hcz56_1 : w55.cell? ⟨gb135, 1, none⟩ = some (.int .i64 0) := (blk_cell BK135.out 1).trans rfl; have hfz56_0 := blk_frozen BK135.out 0; have hfz56_1 := blk_frozen BK135.out 1))
        refine bodyPost_ret (results_cell_row rfl _ _ gb135 40 #[.int .i64 t143, .int .i64 t144] (0, 0) _ rfl (by (with_reducible repeat (first | refine blk_drewN ?_ _ | refine blk_drew ?_ | refine blk_alloc ?_ _)); refine blk_put (cs := #[.int .i64 t143, .int .i64 0]) ?_ 1 _ rfl; (with_reducible repeat (first | refine blk_drewN ?_ _ | refine blk_drew ?_ | refine blk_alloc ?_ _)); refine blk_put (cs := #[.int .i64 0, .int .i64 0]) ?_ 0 _ rfl; (with_reducible repeat (first | refine blk_drewN ?_ _ | refine blk_drew ?_ | refine blk_alloc ?_ _)); exact BK135.out) Try.underlying40 rfl (by kernel_rfl)) rfl ?_
        exact ⟨by first | rfl | (simp [errW_none, errW_some] <;> rfl) | (simp [*, errW_none, errW_some] <;> rfl), hz3 HB.out GE133.out GE134.out GE135.out⟩
      ·replace c40 := Bool.eq_false_iff.mpr c40
       subst c40
       have H1 : ((spec_l9Wraps.f a0).bind fun t145 => (if a0 = 1 then (spec_RestDo.j2 kj29 a0 t145 true a1_0 a1_1 a2_0 a2_1) else (spec_RestDo.j2 kj29 a0 t145 (a0 == 11) a1_0 a1_1 a2_0 a2_1))) = some (r1, r2) := by rw [if_neg (show ¬ (false = true) by decide)] at H; exact H
       clear H
       have H := H1
       clear H1
       replace H := Option.bind_eq_some_iff.mp H
       obtain ⟨t145, A570, H⟩ := H
       replace H : (if a0 = 1 then (spec_RestDo.j2 kj29 a0 t145 true a1_0 a1_1 a2_0 a2_1) else (spec_RestDo.j2 kj29 a0 t145 (a0 == 11) a1_0 a1_1 a2_0 a2_1)) = some (r1, r2) := H
       have A57 := Aside0.mk A570
       clear A570
       have HC58 := Aside0.mk H
       clear H
       go_upto_region 9 with (first | ((with_reducible refine gate_callee (f := 74) rfl ?_); refine goesL_ (some 49) rfl rfl Try.func74 (by kernel_rfl) rfl #[.int .i64 a0] rfl mz ?_; (with_reducible refine (spec_l9Wraps.calls a0 t145 _ A57.out).mono ?_); rintro e w' ⟨rfl, ⟨nd, rfl⟩⟩; refine ⟨_, rfl, ?_⟩))
       (try simp only [Act.put, List.setIfInBounds_toArray, List.set_cons_zero, List.set_cons_succ])
       go_cut [55] (fun v55 wc => ∃ (kq : Nat) (x55_57 : Bool), v55 = .bool x55_57 ∧ Aside0 (spec_RestDo.j2 kq a0 t145 x55_57 a1_0 a1_1 a2_0 a2_1 = some (r1, r2)) ∧ Aside0 (kq ≤ kj29) ∧ Aside0 (wc.heap[gb133]? = some (.cells #[.int .i64 a1_0, .int .i64 a1_1] 40 (0, 0))) ∧ Aside0 (wc.heap[gb134]? = some (.cells #[.int .i64 a2_0, .int .i64 a2_1] 40 (0, 0))) ∧ Aside0 (wc.heap[gb135]? = some (.cells #[.int .i64 0, .int .i64 0] 40 (0, 0))) ∧ Aside0 (Below w.heap.size w wc))
       case first =>
        have H := HC58.out
        clear HC58
        by_cases c59 : a0 = 1
        ·rw [if_pos c59] at H
         have c59b0 : (a0 == 1) = true := beq_iff_eq.mpr c59
         have c59b1 : (a0 != 1) = false := bne_eq_false_iff_eq.mpr c59
         clear c59
         (first | rw [c59b0] | (simp only [i64_w, i32_w]; rw [c59b0]) | skip)
         have H' := Aside0.mk H
         clear H
         go_wp2
         go_meet
         case rel => exact ⟨_, (true), (by first | rfl | (simp; done) | (simp [*]; done)), H', ⟨by have := HJ3.out; have := HJ29.out; first | omega | exact Nat.le_refl _⟩, ⟨bz BK133.out⟩, ⟨bz BK134.out⟩, ⟨bz BK135.out⟩, ⟨hz3 HB.out GE133.out GE134.out GE135.out⟩⟩
        ·rw [if_neg c59] at H
         have c59b0 : (a0 == 1) = false := beq_eq_false_iff_ne.mpr c59
         have c59b1 : (a0 != 1) = true := bne_iff_ne.mpr c59
         (first | rw [c59b0] | (simp only [i64_w, i32_w]; rw [c59b0]) | skip)
         have H' := Aside0.mk H
         clear H
         go_wp2
         go_meet
         case rel => exact ⟨_, ((a0 == 11)), (by first | rfl | (simp; done) | (simp [*]; done)), H', ⟨by have := HJ3.out; have := HJ29.out; first | omega | exact Nat.le_refl _⟩, ⟨bz BK133.out⟩, ⟨bz BK134.out⟩, ⟨bz BK135.out⟩, ⟨hz3 HB.out GE133.out GE134.out GE135.out⟩⟩
       case rest =>
        clear HC58
        try clear c1
        try clear c2
        try clear p2
        try clear c3
        try clear c4
        try clear c5
        try clear c6
        try clear c7
        try clear c9
        try clear c11
        try clear c13
        try clear c14
        try clear c17
        try clear c20
        try clear c21
        try clear c24
        try clear c27
        try clear c28
        try clear c31
        try clear c31b0
        try clear c31b1
        try clear c32
        try clear c33
        try clear c35
        try clear c37
        try clear c38
        try clear c39
        try clear c40
        try clear c42
        try clear c42b0
        try clear c42b1
        try clear c43
        try clear c44
        try clear c46
        try clear c50
        try clear c51
        try clear c53
        try clear c59
        try clear c59b0
        try clear c59b1
        try clear hcz15_0
        try clear hcz15_1
        try clear hcz18_0
        try clear hcz18_1
        try clear hcz22_0
        try clear hcz22_1
        try clear hcz29_0
        try clear hcz29_1
        try clear hcz34_0
        try clear hcz34_1
        try clear hcz36_0
        try clear hcz36_1
        try clear hcz39_0
        try clear hcz39_1
        try clear hcz45_0
        try clear hcz45_1
        try clear hcz47_0
        try clear hcz47_1
        try clear hcz48_0
        try clear hcz48_1
        try clear hcz52_0
        try clear hcz52_1
        try clear hcz54_0
        try clear hcz54_1
        try clear hcz56_0
        try clear hcz56_1
        try clear hfz15_0
        try clear hfz15_1
        try clear hfz18_0
        try clear hfz18_1
        try clear hfz22_0
        try clear hfz22_1
        try clear hfz29_0
        try clear hfz29_1
        try clear hfz34_0
        try clear hfz34_1
        try clear hfz36_0
        try clear hfz36_1
        try clear hfz39_0
        try clear hfz39_1
        try clear hfz45_0
        try clear hfz45_1
        try clear hfz47_0
        try clear hfz47_1
        try clear hfz48_0
        try clear hfz48_1
        try clear hfz52_0
        try clear hfz52_1
        try clear hfz54_0
        try clear hfz54_1
        try clear hfz56_0
        try clear hfz56_1
        try clear p2
        obtain ⟨kq, x55_57, rfl, HA, HJ57, BK133, BK134, BK135, HB⟩ := hcut
        cases kq with
        | zero => exact absurd HA.out (by simp [spec_RestDo.j2])
        | succ kj57 =>
         have H := HA.out
         clear HA
         simp only [spec_RestDo.j2] at H
         by_cases c60 : x55_57 = true
         ·subst c60
          have H1 : ((spec_l9Gcd.f kj57 a1_0 a2_0).bind fun t146 => ((spec_l9Gcd.f kj57 t146 t145).bind fun t147 => ((spec_l9Make.f kj57 t147 (wrap64 (a1_1 + a2_1))).bind fun bt148 => (some (bt148.1, bt148.2))))) = some (r1, r2) := by rw [if_pos rfl] at H; exact H
          clear H
          have H := H1
          clear H1
          replace H := Option.bind_eq_some_iff.mp H
          obtain ⟨t146, A610, H⟩ := H
          replace H : ((spec_l9Gcd.f kj57 t146 t145).bind fun t147 => ((spec_l9Make.f kj57 t147 (wrap64 (a1_1 + a2_1))).bind fun bt148 => (some (bt148.1, bt148.2)))) = some (r1, r2) := H
          have A61 := Aside0.mk A610
          clear A610
          replace H := Option.bind_eq_some_iff.mp H
          obtain ⟨t147, A620, H⟩ := H
          replace H : ((spec_l9Make.f kj57 t147 (wrap64 (a1_1 + a2_1))).bind fun bt148 => (some (bt148.1, bt148.2))) = some (r1, r2) := H
          have A62 := Aside0.mk A620
          clear A620
          replace H := Option.bind_eq_some_iff.mp H
          obtain ⟨⟨t148, t149⟩, A630, H⟩ := H
          replace H : (some (t148, t149)) = some (r1, r2) := H
          have A63 := Aside0.mk A630
          clear A630
          simp only [Option.some.injEq, Prod.mk.injEq] at H
          obtain ⟨rfl, rfl⟩ := H
          try go_wp2
          have n0_ := Aside0.mk (blk_drew BK133.out)
          have n1_ := Aside0.mk (blk_drew BK134.out)
          have n2_ := Aside0.mk (blk_drew BK135.out)
          have n3_ := Aside0.mk (below_drew1 HB.out)
          clear BK133
          clear BK134
          clear BK135
          clear HB
          have BK133 := n0_
          have BK134 := n1_
          have BK135 := n2_
          have HB := n3_
          clear n0_ n1_ n2_ n3_
          refine start_ (n := 14) (S := fun w' => w'.cell? ⟨gb133, 0, none⟩ = some (.int .i64 a1_0) ∧ w'.cell? ⟨gb133, 1, none⟩ = some (.int .i64 a1_1) ∧ w'.cell? ⟨gb134, 0, none⟩ = some (.int .i64 a2_0) ∧ w'.cell? ⟨gb134, 1, none⟩ = some (.int .i64 a2_1)) (ds := []) #[false, false, false, false, false, false, false, false, false, false, false, false, false, false] (by kernel_rfl) rfl rfl ⟨(blk_cell BK133.out 0).trans rfl, (blk_cell BK133.out 1).trans rfl, (blk_cell BK134.out 0).trans rfl, (blk_cell BK134.out 1).trans rfl⟩ (fun hHeld => ?_); refine with_tabW spec_RestDo.tab10 spec_RestDo.bits10 (fun HT_ HW_ => ?_)
          generalize wc.drew = w64 at BK133 BK134 BK135 HB hHeld ⊢
          refine pure_ (i := 0) (N := some 56) (v := ?_) (a' := ?_) #[true, false, false, false, false, false, false, false, false, false, false, false, false, false] rfl rfl (any_of HT_.out (by kernel_rfl)) (fun _ _ _ h => h) (Or.inl ⟨by rfl, ?_⟩) ?_ ?_
          rotate_left
          ·intro w'
           go_simp
           with_reducible rfl
          rotate_left
          ·exact pz
          refine pure_ (i := 2) (N := some 58) (v := ?_) (a' := ?_) #[true, false, true, false, false, false, false, false, false, false, false, false, false, false] rfl rfl (any_of HT_.out (by kernel_rfl)) (fun _ _ _ h => h) (Or.inl ⟨by rfl, ?_⟩) ?_ ?_
          rotate_left
          ·intro w'
           go_simp
           with_reducible rfl
          rotate_left
          ·exact pz
          refine pure_ (i := 5) (N := some 61) (v := ?_) (a' := ?_) #[true, false, true, false, false, true, false, false, false, false, false, false, false, false] rfl rfl (any_of HT_.out (by kernel_rfl)) (fun _ _ _ h => h) (Or.inl ⟨by rfl, ?_⟩) ?_ ?_
          rotate_left
          ·intro w'
           go_simp
           with_reducible rfl
          rotate_left
          ·exact pz
          refine pure_ (i := 7) (N := some 63) (v := ?_) (a' := ?_) #[true, false, true, false, false, true, false, true, false, false, false, false, false, false] rfl rfl (any_of HT_.out (by kernel_rfl)) (fun _ _ _ h => h) (Or.inl ⟨by rfl, ?_⟩) ?_ ?_
          rotate_left
          ·intro w'
           go_simp
           with_reducible rfl
          rotate_left
          ·exact pz
          refine pure_ (i := 9) (N := some 65) (v := ?_) (a' := ?_) #[true, false, true, false, false, true, false, true, false, true, false, false, false, false] rfl rfl (any_of HT_.out (by kernel_rfl)) (fun _ _ _ h => h) (Or.inl ⟨by rfl, ?_⟩) ?_ ?_
          rotate_left
          ·intro w'
           go_simp
           with_reducible rfl
          rotate_left
          ·exact pz
          refine take_ (i := 1) (N := some 57) (v := ?_) (a' := ?_) #[true, true, true, false, false, true, false, true, false, true, false, false, false, false] rfl rfl (take_ofW HT_.out HW_.out (by kernel_rfl)) (fun _ _ _ h => h) (Or.inl ⟨by rfl, ?_⟩) hHeld ?_ ?_
          rotate_left
          ·rintro w' ⟨s0, s1, s2, s3⟩
           go_simp
           with_reducible rfl
          rotate_left
          ·exact pz
          refine take_ (i := 3) (N := some 59) (v := ?_) (a' := ?_) #[true, true, true, true, false, true, false, true, false, true, false, false, false, false] rfl rfl (take_ofW HT_.out HW_.out (by kernel_rfl)) (fun _ _ _ h => h) (Or.inl ⟨by rfl, ?_⟩) hHeld ?_ ?_
          rotate_left
          ·rintro w' ⟨s0, s1, s2, s3⟩
           go_simp
           with_reducible rfl
          rotate_left
          ·exact pz
          refine take_ (i := 8) (N := some 64) (v := ?_) (a' := ?_) #[true, true, true, true, false, true, false, true, true, true, false, false, false, false] rfl rfl (take_ofW HT_.out HW_.out (by kernel_rfl)) (fun _ _ _ h => h) (Or.inl ⟨by rfl, ?_⟩) hHeld ?_ ?_
          rotate_left
          ·rintro w' ⟨s0, s1, s2, s3⟩
           go_simp
           with_reducible rfl
          rotate_left
          ·exact pz
          refine take_ (i := 10) (N := some 66) (v := ?_) (a' := ?_) #[true, true, true, true, false, true, false, true, true, true, true, false, false, false] rfl rfl (take_ofW HT_.out HW_.out (by kernel_rfl)) (fun _ _ _ h => h) (Or.inl ⟨by rfl, ?_⟩) hHeld ?_ ?_
          rotate_left
          ·rintro w' ⟨s0, s1, s2, s3⟩
           go_simp
           with_reducible rfl
          rotate_left
          ·exact pz
          refine pure_ (i := 11) (N := some 67) (v := ?_) (a' := ?_) #[true, true, true, true, false, true, false, true, true, true, true, true, false, false] rfl rfl (any_of HT_.out (by kernel_rfl)) (fun _ _ _ h => h) (Or.inl ⟨by rfl, ?_⟩) ?_ ?_
          rotate_left
          ·intro w'
           go_simp
           with_reducible rfl
          rotate_left
          ·exact pz
          refine one_ (i := 4) (N := some 60) #[true, true, true, true, true, true, false, true, true, true, true, true, false, false] rfl rfl (one_of HT_.out (by kernel_rfl)) (by decide) (fun K hK => ?_)
          refine goes_ Try.func69 (by kernel_rfl) rfl #[.int .i64 a1_0, .int .i64 a2_0] (by rfl) rfl rfl mz ?_
          with_reducible refine (spec_l9Gcd.calls kj57 a1_0 a2_0 t146 _ A61.out).mono ?_
          rintro e w' ⟨rfl, ⟨nd, rfl⟩⟩
          refine ⟨_, rfl, ?_⟩
          refine hK.out _ _ ⟨(blk_cell BK133.out 0).trans rfl, (blk_cell BK133.out 1).trans rfl, (blk_cell BK134.out 0).trans rfl, (blk_cell BK134.out 1).trans rfl⟩ (fun hHeld => ?_)
          clear hK K
          refine norm_ (a' := ?_) ?_ ?_
          rotate_left
          ·show Act.put _ (some 60) _ = _
           simp only [Act.put, List.setIfInBounds_toArray, List.set_cons_zero, List.set_cons_succ, i64_w, i32_w]
           rfl
          refine one_ (i := 6) (N := some 62) #[true, true, true, true, true, true, true, true, true, true, true, true, false, false] rfl rfl (one_of HT_.out (by kernel_rfl)) (by decide) (fun K hK => ?_)
          refine goes_ Try.func69 (by kernel_rfl) rfl #[.int .i64 t146, .int .i64 t145] (by rfl) rfl rfl mz ?_
          with_reducible refine (spec_l9Gcd.calls kj57 t146 t145 t147 _ A62.out).mono ?_
          rintro e w' ⟨rfl, ⟨nd, rfl⟩⟩
          refine ⟨_, rfl, ?_⟩
          refine hK.out _ _ ⟨(blk_cell BK133.out 0).trans rfl, (blk_cell BK133.out 1).trans rfl, (blk_cell BK134.out 0).trans rfl, (blk_cell BK134.out 1).trans rfl⟩ (fun hHeld => ?_)
          clear hK K
          refine norm_ (a' := ?_) ?_ ?_
          rotate_left
          ·show Act.put _ (some 62) _ = _
           simp only [Act.put, List.setIfInBounds_toArray, List.set_cons_zero, List.set_cons_succ, i64_w, i32_w]
           rfl
          refine one_ (i := 12) (N := some 68) #[true, true, true, true, true, true, true, true, true, true, true, true, true, false] rfl rfl (one_of HT_.out (by kernel_rfl)) (by decide) (fun K hK => ?_)
          refine goes_ Try.func68 (by kernel_rfl) rfl #[.int .i64 t147, .int .i64 (wrap64 (a1_1 + a2_1))] (by rfl) rfl rfl mz ?_
          with_reducible refine (spec_l9Make.calls kj57 t147 (wrap64 (a1_1 + a2_1)) t148 t149 _ A63.out).mono ?_
          rintro e w65 ⟨rfl, hb⟩
          refine ⟨_, rfl, ?_⟩
          have n0_ := Aside0.mk (blk_below (g := gb133) (o := .cells #[.int .i64 a1_0, .int .i64 a1_1] 40 (0, 0)) (bz BK133.out) hb)
          have n1_ := Aside0.mk (blk_below (g := gb134) (o := .cells #[.int .i64 a2_0, .int .i64 a2_1] 40 (0, 0)) (bz BK134.out) hb)
          have n2_ := Aside0.mk (blk_below (g := gb135) (o := .cells #[.int .i64 0, .int .i64 0] 40 (0, 0)) (bz BK135.out) hb)
          have n3_ := Aside0.mk (below_step (hz3 HB.out GE133.out GE134.out GE135.out) hb)
          clear BK133
          clear BK134
          clear BK135
          clear HB
          have BK133 := n0_
          have BK134 := n1_
          have BK135 := n2_
          have HB := n3_
          clear n0_ n1_ n2_ n3_
          (try clear hb)
          (try clear hb2)
          (try clear hk)
          (try clear hi)
          refine hK.out _ _ ⟨(blk_cell BK133.out 0).trans rfl, (blk_cell BK133.out 1).trans rfl, (blk_cell BK134.out 0).trans rfl, (blk_cell BK134.out 1).trans rfl⟩ (fun hHeld => ?_)
          clear hK K
          refine norm_ (a' := ?_) ?_ ?_
          rotate_left
          ·show Act.put _ (some 68) _ = _
           simp only [Act.put, List.setIfInBounds_toArray, List.set_cons_zero, List.set_cons_succ, i64_w, i32_w]
           rfl
          refine one_ (i := 13) (N := none) #[true, true, true, true, true, true, true, true, true, true, true, true, true, true] rfl rfl (one_of HT_.out (by kernel_rfl)) (by decide) (fun K hK => ?_)
          have hs66 : w65.cell? ⟨gb135, 0, none⟩ = some (.int .i64 0) := (blk_cell BK135.out 0).trans rfl
          have hfs66 := blk_frozen BK135.out 0
          have hns66_0 := NB133_135.out
          have hns66_1 := NB134_135.out
          have hms66_0 := NB135_133.out
          have hms66_1 := NB135_134.out
          have hs67 : w65.cell? ⟨gb135, 1, none⟩ = some (.int .i64 0) := (blk_cell BK135.out 1).trans rfl
          have hfs67 := blk_frozen BK135.out 1
          have hns67_0 := NB133_135.out
          have hns67_1 := NB134_135.out
          have hms67_0 := NB135_133.out
          have hms67_1 := NB135_134.out
          refine skip_ (w1 := ?_) (by rfl) rfl ?_ ?_
          rotate_left
          ·go_simp
           rfl
          refine hK.out _ _ ⟨((cell_far (p := ⟨gb135, _, none⟩) NB133_135.out _).trans (((cell_far (p := ⟨gb135, _, none⟩) NB133_135.out _).trans (hHeld.1)))), ((cell_far (p := ⟨gb135, _, none⟩) NB133_135.out _).trans (((cell_far (p := ⟨gb135, _, none⟩) NB133_135.out _).trans (hHeld.2.1)))), ((cell_far (p := ⟨gb135, _, none⟩) NB134_135.out _).trans (((cell_far (p := ⟨gb135, _, none⟩) NB134_135.out _).trans (hHeld.2.2.1)))), ((cell_far (p := ⟨gb135, _, none⟩) NB134_135.out _).trans (((cell_far (p := ⟨gb135, _, none⟩) NB134_135.out _).trans (hHeld.2.2.2))))⟩ (fun hHeld => ?_)
          clear hK K
          refine done_ (done_of HT_.out (by kernel_rfl)) ?_
          try go_wp2
          refine bodyPost_ret (results_cell_row rfl _ _ gb135 40 #[.int .i64 t148, .int .i64 t149] (0, 0) _ rfl (by (with_reducible repeat (first | refine blk_drewN ?_ _ | refine blk_drew ?_ | refine blk_alloc ?_ _)); refine blk_put (cs := #[.int .i64 t148, .int .i64 0]) ?_ 1 _ rfl; (with_reducible repeat (first | refine blk_drewN ?_ _ | refine blk_drew ?_ | refine blk_alloc ?_ _)); refine blk_put (cs := #[.int .i64 0, .int .i64 0]) ?_ 0 _ rfl; (with_reducible repeat (first | refine blk_drewN ?_ _ | refine blk_drew ?_ | refine blk_alloc ?_ _)); exact BK135.out) Try.underlying40 rfl (by kernel_rfl)) rfl ?_
          exact ⟨by first | rfl | (simp [errW_none, errW_some] <;> rfl) | (simp [*, errW_none, errW_some] <;> rfl), hz3 HB.out GE133.out GE134.out GE135.out⟩
         ·replace c60 := Bool.eq_false_iff.mpr c60
          subst c60
          have H1 : (if a0 = 2 then (spec_RestDo.j3 kj57 a0 t145 true a1_0 a1_1 a2_0 a2_1) else (spec_RestDo.j3 kj57 a0 t145 (a0 == 12) a1_0 a1_1 a2_0 a2_1)) = some (r1, r2) := by rw [if_neg (show ¬ (false = true) by decide)] at H; exact H
          clear H
          have H := H1
          clear H1
          have HC68 := Aside0.mk H
          clear H
          go_upto_region 11 with (fail)
          go_cut [74] (fun v74 wc => ∃ (kq : Nat) (x74_67 : Bool), v74 = .bool x74_67 ∧ Aside0 (spec_RestDo.j3 kq a0 t145 x74_67 a1_0 a1_1 a2_0 a2_1 = some (r1, r2)) ∧ Aside0 (kq ≤ kj57) ∧ Aside0 (wc.heap[gb133]? = some (.cells #[.int .i64 a1_0, .int .i64 a1_1] 40 (0, 0))) ∧ Aside0 (wc.heap[gb134]? = some (.cells #[.int .i64 a2_0, .int .i64 a2_1] 40 (0, 0))) ∧ Aside0 (wc.heap[gb135]? = some (.cells #[.int .i64 0, .int .i64 0] 40 (0, 0))) ∧ Aside0 (Below w.heap.size w wc))
          case first =>
           have H := HC68.out
           clear HC68
           by_cases c69 : a0 = 2
           ·rw [if_pos c69] at H
            have c69b0 : (a0 == 2) = true := beq_iff_eq.mpr c69
            have c69b1 : (a0 != 2) = false := bne_eq_false_iff_eq.mpr c69
            clear c69
            (first | rw [c69b0] | (simp only [i64_w, i32_w]; rw [c69b0]) | skip)
            have H' := Aside0.mk H
            clear H
            go_wp2
            go_meet
            case rel => exact ⟨_, (true), (by first | rfl | (simp; done) | (simp [*]; done)), H', ⟨by have := HJ3.out; have := HJ29.out; have := HJ57.out; first | omega | exact Nat.le_refl _⟩, ⟨bz BK133.out⟩, ⟨bz BK134.out⟩, ⟨bz BK135.out⟩, ⟨hz3 HB.out GE133.out GE134.out GE135.out⟩⟩
           ·rw [if_neg c69] at H
            have c69b0 : (a0 == 2) = false := beq_eq_false_iff_ne.mpr c69
            have c69b1 : (a0 != 2) = true := bne_iff_ne.mpr c69
            (first | rw [c69b0] | (simp only [i64_w, i32_w]; rw [c69b0]) | skip)
            have H' := Aside0.mk H
            clear H
            go_wp2
            go_meet
            case rel => exact ⟨_, ((a0 == 12)), (by first | rfl | (simp; done) | (simp [*]; done)), H', ⟨by have := HJ3.out; have := HJ29.out; have := HJ57.out; first | omega | exact Nat.le_refl _⟩, ⟨bz BK133.out⟩, ⟨bz BK134.out⟩, ⟨bz BK135.out⟩, ⟨hz3 HB.out GE133.out GE134.out GE135.out⟩⟩
          case rest =>
           clear HC68
           try clear c1
           try clear c2
           try clear p2
           try clear c3
           try clear c4
           try clear c5
           try clear c6
           try clear p6
           try clear c7
           try clear c9
           try clear c11
           try clear c13
           try clear c14
           try clear c17
           try clear c20
           try clear c21
           try clear c24
           try clear c27
           try clear c28
           try clear c31
           try clear c31b0
           try clear c31b1
           try clear c32
           try clear c33
           try clear c35
           try clear c37
           try clear c38
           try clear c39
           try clear c40
           try clear c42
           try clear c42b0
           try clear c42b1
           try clear c43
           try clear c44
           try clear c46
           try clear c50
           try clear c51
           try clear c53
           try clear c59
           try clear c59b0
           try clear c59b1
           try clear c60
           try clear p64
           try clear c67
           try clear c68
           try clear c69
           try clear c69b0
           try clear c69b1
           try clear hcz15_0
           try clear hcz15_1
           try clear hcz18_0
           try clear hcz18_1
           try clear hcz22_0
           try clear hcz22_1
           try clear hcz29_0
           try clear hcz29_1
           try clear hcz34_0
           try clear hcz34_1
           try clear hcz36_0
           try clear hcz36_1
           try clear hcz39_0
           try clear hcz39_1
           try clear hcz45_0
           try clear hcz45_1
           try clear hcz47_0
           try clear hcz47_1
           try clear hcz48_0
           try clear hcz48_1
           try clear hcz52_0
           try clear hcz52_1
           try clear hcz54_0
           try clear hcz54_1
           try clear hcz56_0
           try clear hcz56_1
           try clear hfz15_0
           try clear hfz15_1
           try clear hfz18_0
           try clear hfz18_1
           try clear hfz22_0
           try clear hfz22_1
           try clear hfz29_0
           try clear hfz29_1
           try clear hfz34_0
           try clear hfz34_1
           try clear hfz36_0
           try clear hfz36_1
           try clear hfz39_0
           try clear hfz39_1
           try clear hfz45_0
           try clear hfz45_1
           try clear hfz47_0
           try clear hfz47_1
           try clear hfz48_0
           try clear hfz48_1
           try clear hfz52_0
           try clear hfz52_1
           try clear hfz54_0
           try clear hfz54_1
           try clear hfz56_0
           try clear hfz56_1
           try clear p2
           obtain ⟨kq, x74_67, rfl, HA, HJ67, BK133, BK134, BK135, HB⟩ := hcut
           cases kq with
           | zero => exact absurd HA.out (by simp [spec_RestDo.j3])
           | succ kj67 =>
            have H := HA.out
            clear HA
            simp only [spec_RestDo.j3] at H
            by_cases c70 : x74_67 = true
            ·subst c70
             have H1 : ((spec_l9Gcd.f kj67 a1_0 a2_0).bind fun t150 => ((spec_l9Gcd.f kj67 t150 t145).bind fun t151 => ((spec_l9Make.f kj67 t151 (wrap64 (a1_1 - a2_1))).bind fun bt152 => (some (bt152.1, bt152.2))))) = some (r1, r2) := by rw [if_pos rfl] at H; exact H
             clear H
             have H := H1
             clear H1
             replace H := Option.bind_eq_some_iff.mp H
             obtain ⟨t150, A710, H⟩ := H
             replace H : ((spec_l9Gcd.f kj67 t150 t145).bind fun t151 => ((spec_l9Make.f kj67 t151 (wrap64 (a1_1 - a2_1))).bind fun bt152 => (some (bt152.1, bt152.2)))) = some (r1, r2) := H
             have A71 := Aside0.mk A710
             clear A710
             replace H := Option.bind_eq_some_iff.mp H
             obtain ⟨t151, A720, H⟩ := H
             replace H : ((spec_l9Make.f kj67 t151 (wrap64 (a1_1 - a2_1))).bind fun bt152 => (some (bt152.1, bt152.2))) = some (r1, r2) := H
             have A72 := Aside0.mk A720
             clear A720
             replace H := Option.bind_eq_some_iff.mp H
             obtain ⟨⟨t152, t153⟩, A730, H⟩ := H
             replace H : (some (t152, t153)) = some (r1, r2) := H
             have A73 := Aside0.mk A730
             clear A730
             simp only [Option.some.injEq, Prod.mk.injEq] at H
             obtain ⟨rfl, rfl⟩ := H
             try go_wp2
             have n0_ := Aside0.mk (blk_drew BK133.out)
             have n1_ := Aside0.mk (blk_drew BK134.out)
             have n2_ := Aside0.mk (blk_drew BK135.out)
             have n3_ := Aside0.mk (below_drew1 HB.out)
             clear BK133
             clear BK134
             clear BK135
             clear HB
             have BK133 := n0_
             have BK134 := n1_
             have BK135 := n2_
             have HB := n3_
             clear n0_ n1_ n2_ n3_
             refine start_ (n := 14) (S := fun w' => w'.cell? ⟨gb133, 0, none⟩ = some (.int .i64 a1_0) ∧ w'.cell? ⟨gb133, 1, none⟩ = some (.int .i64 a1_1) ∧ w'.cell? ⟨gb134, 0, none⟩ = some (.int .i64 a2_0) ∧ w'.cell? ⟨gb134, 1, none⟩ = some (.int .i64 a2_1)) (ds := []) #[false, false, false, false, false, false, false, false, false, false, false, false, false, false] (by kernel_rfl) rfl rfl ⟨(blk_cell BK133.out 0).trans rfl, (blk_cell BK133.out 1).trans rfl, (blk_cell BK134.out 0).trans rfl, (blk_cell BK134.out 1).trans rfl⟩ (fun hHeld => ?_); refine with_tabW spec_RestDo.tab12 spec_RestDo.bits12 (fun HT_ HW_ => ?_)
             generalize wc.drew = w74 at BK133 BK134 BK135 HB hHeld ⊢
             refine pure_ (i := 0) (N := some 75) (v := ?_) (a' := ?_) #[true, false, false, false, false, false, false, false, false, false, false, false, false, false] rfl rfl (any_of HT_.out (by kernel_rfl)) (fun _ _ _ h => h) (Or.inl ⟨by rfl, ?_⟩) ?_ ?_
             rotate_left
             ·intro w'
              go_simp
              with_reducible rfl
             rotate_left
             ·exact pz
             refine pure_ (i := 2) (N := some 77) (v := ?_) (a' := ?_) #[true, false, true, false, false, false, false, false, false, false, false, false, false, false] rfl rfl (any_of HT_.out (by kernel_rfl)) (fun _ _ _ h => h) (Or.inl ⟨by rfl, ?_⟩) ?_ ?_
             rotate_left
             ·intro w'
              go_simp
              with_reducible rfl
             rotate_left
             ·exact pz
             refine pure_ (i := 5) (N := some 80) (v := ?_) (a' := ?_) #[true, false, true, false, false, true, false, false, false, false, false, false, false, false] rfl rfl (any_of HT_.out (by kernel_rfl)) (fun _ _ _ h => h) (Or.inl ⟨by rfl, ?_⟩) ?_ ?_
             rotate_left
             ·intro w'
              go_simp
              with_reducible rfl
             rotate_left
             ·exact pz
             refine pure_ (i := 7) (N := some 82) (v := ?_) (a' := ?_) #[true, false, true, false, false, true, false, true, false, false, false, false, false, false] rfl rfl (any_of HT_.out (by kernel_rfl)) (fun _ _ _ h => h) (Or.inl ⟨by rfl, ?_⟩) ?_ ?_
             rotate_left
             ·intro w'
              go_simp
              with_reducible rfl
             rotate_left
             ·exact pz
             refine pure_ (i := 9) (N := some 84) (v := ?_) (a' := ?_) #[true, false, true, false, false, true, false, true, false, true, false, false, false, false] rfl rfl (any_of HT_.out (by kernel_rfl)) (fun _ _ _ h => h) (Or.inl ⟨by rfl, ?_⟩) ?_ ?_
             rotate_left
             ·intro w'
              go_simp
              with_reducible rfl
             rotate_left
             ·exact pz
             refine take_ (i := 1) (N := some 76) (v := ?_) (a' := ?_) #[true, true, true, false, false, true, false, true, false, true, false, false, false, false] rfl rfl (take_ofW HT_.out HW_.out (by kernel_rfl)) (fun _ _ _ h => h) (Or.inl ⟨by rfl, ?_⟩) hHeld ?_ ?_
             rotate_left
             ·rintro w' ⟨s0, s1, s2, s3⟩
              go_simp
              with_reducible rfl
             rotate_left
             ·exact pz
             refine take_ (i := 3) (N := some 78) (v := ?_) (a' := ?_) #[true, true, true, true, false, true, false, true, false, true, false, false, false, false] rfl rfl (take_ofW HT_.out HW_.out (by kernel_rfl)) (fun _ _ _ h => h) (Or.inl ⟨by rfl, ?_⟩) hHeld ?_ ?_
             rotate_left
             ·rintro w' ⟨s0, s1, s2, s3⟩
              go_simp
              with_reducible rfl
             rotate_left
             ·exact pz
             refine take_ (i := 8) (N := some 83) (v := ?_) (a' := ?_) #[true, true, true, true, false, true, false, true, true, true, false, false, false, false] rfl rfl (take_ofW HT_.out HW_.out (by kernel_rfl)) (fun _ _ _ h => h) (Or.inl ⟨by rfl, ?_⟩) hHeld ?_ ?_
             rotate_left
             ·rintro w' ⟨s0, s1, s2, s3⟩
              go_simp
              with_reducible rfl
             rotate_left
             ·exact pz
             refine take_ (i := 10) (N := some 85) (v := ?_) (a' := ?_) #[true, true, true, true, false, true, false, true, true, true, true, false, false, false] rfl rfl (take_ofW HT_.out HW_.out (by kernel_rfl)) (fun _ _ _ h => h) (Or.inl ⟨by rfl, ?_⟩) hHeld ?_ ?_
             rotate_left
             ·rintro w' ⟨s0, s1, s2, s3⟩
              go_simp
              with_reducible rfl
             rotate_left
             ·exact pz
             refine pure_ (i := 11) (N := some 86) (v := ?_) (a' := ?_) #[true, true, true, true, false, true, false, true, true, true, true, true, false, false] rfl rfl (any_of HT_.out (by kernel_rfl)) (fun _ _ _ h => h) (Or.inl ⟨by rfl, ?_⟩) ?_ ?_
             rotate_left
             ·intro w'
              go_simp
              with_reducible rfl
             rotate_left
             ·exact pz
             refine one_ (i := 4) (N := some 79) #[true, true, true, true, true, true, false, true, true, true, true, true, false, false] rfl rfl (one_of HT_.out (by kernel_rfl)) (by decide) (fun K hK => ?_)
             refine goes_ Try.func69 (by kernel_rfl) rfl #[.int .i64 a1_0, .int .i64 a2_0] (by rfl) rfl rfl mz ?_
             with_reducible refine (spec_l9Gcd.calls kj67 a1_0 a2_0 t150 _ A71.out).mono ?_
             rintro e w' ⟨rfl, ⟨nd, rfl⟩⟩
             refine ⟨_, rfl, ?_⟩
             refine hK.out _ _ ⟨(blk_cell BK133.out 0).trans rfl, (blk_cell BK133.out 1).trans rfl, (blk_cell BK134.out 0).trans rfl, (blk_cell BK134.out 1).trans rfl⟩ (fun hHeld => ?_)
             clear hK K
             refine norm_ (a' := ?_) ?_ ?_
             rotate_left
             ·show Act.put _ (some 79) _ = _
              simp only [Act.put, List.setIfInBounds_toArray, List.set_cons_zero, List.set_cons_succ, i64_w, i32_w]
              rfl
             refine one_ (i := 6) (N := some 81) #[true, true, true, true, true, true, true, true, true, true, true, true, false, false] rfl rfl (one_of HT_.out (by kernel_rfl)) (by decide) (fun K hK => ?_)
             refine goes_ Try.func69 (by kernel_rfl) rfl #[.int .i64 t150, .int .i64 t145] (by rfl) rfl rfl mz ?_
             with_reducible refine (spec_l9Gcd.calls kj67 t150 t145 t151 _ A72.out).mono ?_
             rintro e w' ⟨rfl, ⟨nd, rfl⟩⟩
             refine ⟨_, rfl, ?_⟩
             refine hK.out _ _ ⟨(blk_cell BK133.out 0).trans rfl, (blk_cell BK133.out 1).trans rfl, (blk_cell BK134.out 0).trans rfl, (blk_cell BK134.out 1).trans rfl⟩ (fun hHeld => ?_)
             clear hK K
             refine norm_ (a' := ?_) ?_ ?_
             rotate_left
             ·show Act.put _ (some 81) _ = _
              simp only [Act.put, List.setIfInBounds_toArray, List.set_cons_zero, List.set_cons_succ, i64_w, i32_w]
              rfl
             refine one_ (i := 12) (N := some 87) #[true, true, true, true, true, true, true, true, true, true, true, true, true, false] rfl rfl (one_of HT_.out (by kernel_rfl)) (by decide) (fun K hK => ?_)
             refine goes_ Try.func68 (by kernel_rfl) rfl #[.int .i64 t151, .int .i64 (wrap64 (a1_1 - a2_1))] (by rfl) rfl rfl mz ?_
             with_reducible refine (spec_l9Make.calls kj67 t151 (wrap64 (a1_1 - a2_1)) t152 t153 _ A73.out).mono ?_
             rintro e w75 ⟨rfl, hb⟩
             refine ⟨_, rfl, ?_⟩
             have n0_ := Aside0.mk (blk_below (g := gb133) (o := .cells #[.int .i64 a1_0, .int .i64 a1_1] 40 (0, 0)) (bz BK133.out) hb)
             have n1_ := Aside0.mk (blk_below (g := gb134) (o := .cells #[.int .i64 a2_0, .int .i64 a2_1] 40 (0, 0)) (bz BK134.out) hb)
             have n2_ := Aside0.mk (blk_below (g := gb135) (o := .cells #[.int .i64 0, .int .i64 0] 40 (0, 0)) (bz BK135.out) hb)
             have n3_ := Aside0.mk (below_step (hz3 HB.out GE133.out GE134.out GE135.out) hb)
             clear BK133
             clear BK134
             clear BK135
             clear HB
             have BK133 := n0_
             have BK134 := n1_
             have BK135 := n2_
             have HB := n3_
             clear n0_ n1_ n2_ n3_
             (try clear hb)
             (try clear hb2)
             (try clear hk)
             (try clear hi)
             refine hK.out _ _ ⟨(blk_cell BK133.out 0).trans rfl, (blk_cell BK133.out 1).trans rfl, (blk_cell BK134.out 0).trans rfl, (blk_cell BK134.out 1).trans rfl⟩ (fun hHeld => ?_)
             clear hK K
             refine norm_ (a' := ?_) ?_ ?_
             rotate_left
             ·show Act.put _ (some 87) _ = _
              simp only [Act.put, List.setIfInBounds_toArray, List.set_cons_zero, List.set_cons_succ, i64_w, i32_w]
              rfl
             refine one_ (i := 13) (N := none) #[true, true, true, true, true, true, true, true, true, true, true, true, true, true] rfl rfl (one_of HT_.out (by kernel_rfl)) (by decide) (fun K hK => ?_)
             have hs76 : w75.cell? ⟨gb135, 0, none⟩ = some (.int .i64 0) := (blk_cell BK135.out 0).trans rfl
             have hfs76 := blk_frozen BK135.out 0
             have hns76_0 := NB133_135.out
             have hns76_1 := NB134_135.out
             have hms76_0 := NB135_133.out
             have hms76_1 := NB135_134.out
             have hs77 : w75.cell? ⟨gb135, 1, none⟩ = some (.int .i64 0) := (blk_cell BK135.out 1).trans rfl
             have hfs77 := blk_frozen BK135.out 1
             have hns77_0 := NB133_135.out
             have hns77_1 := NB134_135.out
             have hms77_0 := NB135_133.out
             have hms77_1 := NB135_134.out
             refine skip_ (w1 := ?_) (by rfl) rfl ?_ ?_
             rotate_left
             ·go_simp
              rfl
             refine hK.out _ _ ⟨((cell_far (p := ⟨gb135, _, none⟩) NB133_135.out _).trans (((cell_far (p := ⟨gb135, _, none⟩) NB133_135.out _).trans (hHeld.1)))), ((cell_far (p := ⟨gb135, _, none⟩) NB133_135.out _).trans (((cell_far (p := ⟨gb135, _, none⟩) NB133_135.out _).trans (hHeld.2.1)))), ((cell_far (p := ⟨gb135, _, none⟩) NB134_135.out _).trans (((cell_far (p := ⟨gb135, _, none⟩) NB134_135.out _).trans (hHeld.2.2.1)))), ((cell_far (p := ⟨gb135, _, none⟩) NB134_135.out _).trans (((cell_far (p := ⟨gb135, _, none⟩) NB134_135.out _).trans (hHeld.2.2.2))))⟩ (fun hHeld => ?_)
             clear hK K
             refine done_ (done_of HT_.out (by kernel_rfl)) ?_
             try go_wp2
             refine bodyPost_ret (results_cell_row rfl _ _ gb135 40 #[.int .i64 t152, .int .i64 t153] (0, 0) _ rfl (by (with_reducible repeat (first | refine blk_drewN ?_ _ | refine blk_drew ?_ | refine blk_alloc ?_ _)); refine blk_put (cs := #[.int .i64 t152, .int .i64 0]) ?_ 1 _ rfl; (with_reducible repeat (first | refine blk_drewN ?_ _ | refine blk_drew ?_ | refine blk_alloc ?_ _)); refine blk_put (cs := #[.int .i64 0, .int .i64 0]) ?_ 0 _ rfl; (with_reducible repeat (first | refine blk_drewN ?_ _ | refine blk_drew ?_ | refine blk_alloc ?_ _)); exact BK135.out) Try.underlying40 rfl (by kernel_rfl)) rfl ?_
             exact ⟨by first | rfl | (simp [errW_none, errW_some] <;> rfl) | (simp [*, errW_none, errW_some] <;> rfl), hz3 HB.out GE133.out GE134.out GE135.out⟩
            ·replace c70 := Bool.eq_false_iff.mpr c70
             subst c70
             have H1 : (if a0 = 9 then (if a2_0 = 0 then ((spec_l1In.f a2_1 0 31).bind fun t154 => (spec_RestDo.j4 kj67 a0 t145 t154 a1_0 a1_1 a2_0 a2_1)) else (spec_RestDo.j4 kj67 a0 t145 false a1_0 a1_1 a2_0 a2_1)) else (spec_RestDo.j4 kj67 a0 t145 false a1_0 a1_1 a2_0 a2_1)) = some (r1, r2) := by rw [if_neg (show ¬ (false = true) by decide)] at H; exact H
             clear H
             have H := H1
             clear H1
             have HC78 := Aside0.mk H
             clear H
             go_upto_region 13 with (fail)
             go_cut [99] (fun v99 wc => ∃ (kq : Nat) (x99_77 : Bool), v99 = .bool x99_77 ∧ Aside0 (spec_RestDo.j4 kq a0 t145 x99_77 a1_0 a1_1 a2_0 a2_1 = some (r1, r2)) ∧ Aside0 (kq ≤ kj67) ∧ Aside0 (wc.heap[gb133]? = some (.cells #[.int .i64 a1_0, .int .i64 a1_1] 40 (0, 0))) ∧ Aside0 (wc.heap[gb134]? = some (.cells #[.int .i64 a2_0, .int .i64 a2_1] 40 (0, 0))) ∧ Aside0 (wc.heap[gb135]? = some (.cells #[.int .i64 0, .int .i64 0] 40 (0, 0))) ∧ Aside0 (Below w.heap.size w wc))
             case first =>
              have H := HC78.out
              clear HC78
              by_cases c79 : a0 = 9
              ·rw [if_pos c79] at H
               have c79b0 : (a0 == 9) = true := beq_iff_eq.mpr c79
               have c79b1 : (a0 != 9) = false := bne_eq_false_iff_eq.mpr c79
               clear c79
               (first | rw [c79b0] | (simp only [i64_w, i32_w]; rw [c79b0]) | skip)
               by_cases c80 : a2_0 = 0
               ·rw [if_pos c80] at H
                have c80b0 : (a2_0 == 0) = true := beq_iff_eq.mpr c80
                have c80b1 : (a2_0 != 0) = false := bne_eq_false_iff_eq.mpr c80
                clear c80
                replace H := Option.bind_eq_some_iff.mp H
                obtain ⟨t154, A810, H⟩ := H
                replace H : (spec_RestDo.j4 kj67 a0 t145 t154 a1_0 a1_1 a2_0 a2_1) = some (r1, r2) := H
                have A81 := Aside0.mk A810
                clear A810
                have H' := Aside0.mk H
                clear H
                have hnb82 := NB134_133.out
                have hnc82 := NB133_134.out
                have hnb83 := NB134_135.out
                have hnc83 := NB135_134.out
                have hcz84_0 : wc.cell? ⟨gb134, 0, none⟩ = some (.int .i64 a2_0) := (blk_cell BK134.out 0).trans rfl
                have hcz84_1 : wc.cell? ⟨gb134, 1, none⟩ = some (.int .i64 a2_1) := (blk_cell BK134.out 1).trans rfl
                have hfz84_0 := blk_frozen BK134.out 0
                have hfz84_1 := blk_frozen BK134.out 1
                go_wp2_with (first | (go_at_call 64; (with_reducible refine (spec_l1In.calls a2_1 0 31 t154 _ A81.out).mono ?_); rintro e w' ⟨rfl, ⟨nd, rfl⟩⟩))
                go_meet
                case rel => exact ⟨_, (t154), (by first | rfl | (simp; done) | (simp [*]; done)), H', ⟨by have := HJ3.out; have := HJ29.out; have := HJ57.out; have := HJ67.out; first | omega | exact Nat.le_refl _⟩, ⟨bz BK133.out⟩, ⟨bz BK134.out⟩, ⟨bz BK135.out⟩, ⟨hz3 HB.out GE133.out GE134.out GE135.out⟩⟩
               ·rw [if_neg c80] at H
                have c80b0 : (a2_0 == 0) = false := beq_eq_false_iff_ne.mpr c80
                have c80b1 : (a2_0 != 0) = true := bne_iff_ne.mpr c80
                have H' := Aside0.mk H
                clear H
                have hnb85 := NB134_133.out
                have hnc85 := NB133_134.out
                have hnb86 := NB134_135.out
                have hnc86 := NB135_134.out
                have hcz87_0 : wc.cell? ⟨gb134, 0, none⟩ = some (.int .i64 a2_0) := (blk_cell BK134.out 0).trans rfl
                have hcz87_1 : wc.cell? ⟨gb134, 1, none⟩ = some (.int .i64 a2_1) := (blk_cell BK134.out 1).trans rfl
                have hfz87_0 := blk_frozen BK134.out 0
                have hfz87_1 := blk_frozen BK134.out 1
                go_wp2
                go_meet
                case rel => exact ⟨_, (false), (by first | rfl | (simp; done) | (simp [*]; done)), H', ⟨by have := HJ3.out; have := HJ29.out; have := HJ57.out; have := HJ67.out; first | omega | exact Nat.le_refl _⟩, ⟨bz BK133.out⟩, ⟨bz BK134.out⟩, ⟨bz BK135.out⟩, ⟨hz3 HB.out GE133.out GE134.out GE135.out⟩⟩
              ·rw [if_neg c79] at H
               have c79b0 : (a0 == 9) = false := beq_eq_false_iff_ne.mpr c79
               have c79b1 : (a0 != 9) = true := bne_iff_ne.mpr c79
               (first | rw [c79b0] | (simp only [i64_w, i32_w]; rw [c79b0]) | skip)
               have H' := Aside0.mk H
               clear H
               go_wp2
               go_meet
               case rel => exact ⟨_, (false), (by first | rfl | (simp; done) | (simp [*]; done)), H', ⟨by have := HJ3.out; have := HJ29.out; have := HJ57.out; have := HJ67.out; first | omega | exact Nat.le_refl _⟩, ⟨bz BK133.out⟩, ⟨bz BK134.out⟩, ⟨bz BK135.out⟩, ⟨hz3 HB.out GE133.out GE134.out GE135.out⟩⟩
             case rest =>
              clear HC78
              try clear c1
              try clear c2
              try clear p2
              try clear c3
              try clear c4
              try clear c5
              try clear c6
              try clear p6
              try clear c7
              try clear c8
              try clear c9
              try clear c11
              try clear c13
              try clear c14
              try clear c17
              try clear c20
              try clear c21
              try clear c24
              try clear c27
              try clear c28
              try clear c31
              try clear c31b0
              try clear c31b1
              try clear c32
              try clear c33
              try clear c35
              try clear c37
              try clear c38
              try clear c39
              try clear c40
              try clear c42
              try clear c42b0
              try clear c42b1
              try clear c43
              try clear c44
              try clear c46
              try clear c50
              try clear c51
              try clear c53
              try clear c59
              try clear c59b0
              try clear c59b1
              try clear c60
              try clear p64
              try clear c67
              try clear c68
              try clear c69
              try clear c69b0
              try clear c69b1
              try clear c70
              try clear c79
              try clear c79b0
              try clear c79b1
              try clear c80
              try clear c80b0
              try clear c80b1
              try clear c82
              try clear c83
              try clear c85
              try clear c86
              try clear hcz15_0
              try clear hcz15_1
              try clear hcz18_0
              try clear hcz18_1
              try clear hcz22_0
              try clear hcz22_1
              try clear hcz29_0
              try clear hcz29_1
              try clear hcz34_0
              try clear hcz34_1
              try clear hcz36_0
              try clear hcz36_1
              try clear hcz39_0
              try clear hcz39_1
              try clear hcz45_0
              try clear hcz45_1
              try clear hcz47_0
              try clear hcz47_1
              try clear hcz48_0
              try clear hcz48_1
              try clear hcz52_0
              try clear hcz52_1
              try clear hcz54_0
              try clear hcz54_1
              try clear hcz56_0
              try clear hcz56_1
              try clear hcz84_0
              try clear hcz84_1
              try clear hcz87_0
              try clear hcz87_1
              try clear hfz15_0
              try clear hfz15_1
              try clear hfz18_0
              try clear hfz18_1
              try clear hfz22_0
              try clear hfz22_1
              try clear hfz29_0
              try clear hfz29_1
              try clear hfz34_0
              try clear hfz34_1
              try clear hfz36_0
              try clear hfz36_1
              try clear hfz39_0
              try clear hfz39_1
              try clear hfz45_0
              try clear hfz45_1
              try clear hfz47_0
              try clear hfz47_1
              try clear hfz48_0
              try clear hfz48_1
              try clear hfz52_0
              try clear hfz52_1
              try clear hfz54_0
              try clear hfz54_1
              try clear hfz56_0
              try clear hfz56_1
              try clear hfz84_0
              try clear hfz84_1
              try clear hfz87_0
              try clear hfz87_1
              try clear p2
              try clear p6
              try clear p64
              obtain ⟨kq, x99_77, rfl, HA, HJ77, BK133, BK134, BK135, HB⟩ := hcut
              cases kq with
              | zero => exact absurd HA.out (by simp [spec_RestDo.j4])
              | succ kj77 =>
               have H := HA.out
               clear HA
               simp only [spec_RestDo.j4] at H
               by_cases c88 : x99_77 = true
               ·subst c88
                have H1 : ((spec_l1Power.f kj77 a2_1).bind fun t155 => ((spec_l1Power.f kj77 a2_1).bind fun t156 => ((spec_l9Make.f kj77 (wrap64 (a1_0 * t155)) (wrap64 (a1_1 * t156))).bind fun bt157 => (some (bt157.1, bt157.2))))) = some (r1, r2) := by rw [if_pos rfl] at H; exact H
                clear H
                have H := H1
                clear H1
                replace H := Option.bind_eq_some_iff.mp H
                obtain ⟨t155, A890, H⟩ := H
                replace H : ((spec_l1Power.f kj77 a2_1).bind fun t156 => ((spec_l9Make.f kj77 (wrap64 (a1_0 * t155)) (wrap64 (a1_1 * t156))).bind fun bt157 => (some (bt157.1, bt157.2)))) = some (r1, r2) := H
                have A89 := Aside0.mk A890
                clear A890
                replace H := Option.bind_eq_some_iff.mp H
                obtain ⟨t156, A900, H⟩ := H
                replace H : ((spec_l9Make.f kj77 (wrap64 (a1_0 * t155)) (wrap64 (a1_1 * t156))).bind fun bt157 => (some (bt157.1, bt157.2))) = some (r1, r2) := H
                have A90 := Aside0.mk A900
                clear A900
                replace H := Option.bind_eq_some_iff.mp H
                obtain ⟨⟨t157, t158⟩, A910, H⟩ := H
                replace H : (some (t157, t158)) = some (r1, r2) := H
                have A91 := Aside0.mk A910
                clear A910
                simp only [Option.some.injEq, Prod.mk.injEq] at H
                obtain ⟨rfl, rfl⟩ := H
                try go_wp2
                have n0_ := Aside0.mk (blk_drew BK133.out)
                have n1_ := Aside0.mk (blk_drew BK134.out)
                have n2_ := Aside0.mk (blk_drew BK135.out)
                have n3_ := Aside0.mk (below_drew1 HB.out)
                clear BK133
                clear BK134
                clear BK135
                clear HB
                have BK133 := n0_
                have BK134 := n1_
                have BK135 := n2_
                have HB := n3_
                clear n0_ n1_ n2_ n3_
                refine start_ (n := 14) (S := fun w' => w'.cell? ⟨gb133, 0, none⟩ = some (.int .i64 a1_0) ∧ w'.cell? ⟨gb133, 1, none⟩ = some (.int .i64 a1_1) ∧ w'.cell? ⟨gb134, 0, none⟩ = some (.int .i64 a2_0) ∧ w'.cell? ⟨gb134, 1, none⟩ = some (.int .i64 a2_1)) (ds := []) #[false, false, false, false, false, false, false, false, false, false, false, false, false, false] (by kernel_rfl) rfl rfl ⟨(blk_cell BK133.out 0).trans rfl, (blk_cell BK133.out 1).trans rfl, (blk_cell BK134.out 0).trans rfl, (blk_cell BK134.out 1).trans rfl⟩ (fun hHeld => ?_); refine with_tabW spec_RestDo.tab14 spec_RestDo.bits14 (fun HT_ HW_ => ?_)
                generalize wc.drew = w92 at BK133 BK134 BK135 HB hHeld ⊢
                refine pure_ (i := 0) (N := some 100) (v := ?_) (a' := ?_) #[true, false, false, false, false, false, false, false, false, false, false, false, false, false] rfl rfl (any_of HT_.out (by kernel_rfl)) (fun _ _ _ h => h) (Or.inl ⟨by rfl, ?_⟩) ?_ ?_
                rotate_left
                ·intro w'
                 go_simp
                 with_reducible rfl
                rotate_left
                ·exact pz
                refine pure_ (i := 2) (N := some 102) (v := ?_) (a' := ?_) #[true, false, true, false, false, false, false, false, false, false, false, false, false, false] rfl rfl (any_of HT_.out (by kernel_rfl)) (fun _ _ _ h => h) (Or.inl ⟨by rfl, ?_⟩) ?_ ?_
                rotate_left
                ·intro w'
                 go_simp
                 with_reducible rfl
                rotate_left
                ·exact pz
                refine pure_ (i := 6) (N := some 106) (v := ?_) (a' := ?_) #[true, false, true, false, false, false, true, false, false, false, false, false, false, false] rfl rfl (any_of HT_.out (by kernel_rfl)) (fun _ _ _ h => h) (Or.inl ⟨by rfl, ?_⟩) ?_ ?_
                rotate_left
                ·intro w'
                 go_simp
                 with_reducible rfl
                rotate_left
                ·exact pz
                refine pure_ (i := 8) (N := some 108) (v := ?_) (a' := ?_) #[true, false, true, false, false, false, true, false, true, false, false, false, false, false] rfl rfl (any_of HT_.out (by kernel_rfl)) (fun _ _ _ h => h) (Or.inl ⟨by rfl, ?_⟩) ?_ ?_
                rotate_left
                ·intro w'
                 go_simp
                 with_reducible rfl
                rotate_left
                ·exact pz
                refine take_ (i := 1) (N := some 101) (v := ?_) (a' := ?_) #[true, true, true, false, false, false, true, false, true, false, false, false, false, false] rfl rfl (take_ofW HT_.out HW_.out (by kernel_rfl)) (fun _ _ _ h => h) (Or.inl ⟨by rfl, ?_⟩) hHeld ?_ ?_
                rotate_left
                ·rintro w' ⟨s0, s1, s2, s3⟩
                 go_simp
                 with_reducible rfl
                rotate_left
                ·exact pz
                refine take_ (i := 3) (N := some 103) (v := ?_) (a' := ?_) #[true, true, true, true, false, false, true, false, true, false, false, false, false, false] rfl rfl (take_ofW HT_.out HW_.out (by kernel_rfl)) (fun _ _ _ h => h) (Or.inl ⟨by rfl, ?_⟩) hHeld ?_ ?_
                rotate_left
                ·rintro w' ⟨s0, s1, s2, s3⟩
                 go_simp
                 with_reducible rfl
                rotate_left
                ·exact pz
                refine take_ (i := 7) (N := some 107) (v := ?_) (a' := ?_) #[true, true, true, true, false, false, true, true, true, false, false, false, false, false] rfl rfl (take_ofW HT_.out HW_.out (by kernel_rfl)) (fun _ _ _ h => h) (Or.inl ⟨by rfl, ?_⟩) hHeld ?_ ?_
                rotate_left
                ·rintro w' ⟨s0, s1, s2, s3⟩
                 go_simp
                 with_reducible rfl
                rotate_left
                ·exact pz
                refine take_ (i := 9) (N := some 109) (v := ?_) (a' := ?_) #[true, true, true, true, false, false, true, true, true, true, false, false, false, false] rfl rfl (take_ofW HT_.out HW_.out (by kernel_rfl)) (fun _ _ _ h => h) (Or.inl ⟨by rfl, ?_⟩) hHeld ?_ ?_
                rotate_left
                ·rintro w' ⟨s0, s1, s2, s3⟩
                 go_simp
                 with_reducible rfl
                rotate_left
                ·exact pz
                refine one_ (i := 4) (N := some 104) #[true, true, true, true, true, false, true, true, true, true, false, false, false, false] rfl rfl (one_of HT_.out (by kernel_rfl)) (by decide) (fun K hK => ?_)
                refine goes_ Try.func75 (by kernel_rfl) rfl #[.int .i64 a2_1] (by rfl) rfl rfl mz ?_
                with_reducible refine (spec_l1Power.calls kj77 a2_1 t155 _ A89.out).mono ?_
                rintro e w' ⟨rfl, ⟨nd, rfl⟩⟩
                refine ⟨_, rfl, ?_⟩
                refine hK.out _ _ ⟨(blk_cell BK133.out 0).trans rfl, (blk_cell BK133.out 1).trans rfl, (blk_cell BK134.out 0).trans rfl, (blk_cell BK134.out 1).trans rfl⟩ (fun hHeld => ?_)
                clear hK K
                refine norm_ (a' := ?_) ?_ ?_
                rotate_left
                ·show Act.put _ (some 104) _ = _
                 simp only [Act.put, List.setIfInBounds_toArray, List.set_cons_zero, List.set_cons_succ, i64_w, i32_w]
                 rfl
                refine pure_ (i := 5) (N := some 105) (v := ?_) (a' := ?_) #[true, true, true, true, true, true, true, true, true, true, false, false, false, false] rfl rfl (any_of HT_.out (by kernel_rfl)) (fun _ _ _ h => h) (Or.inl ⟨by rfl, ?_⟩) ?_ ?_
                rotate_left
                ·intro w'
                 go_simp
                 with_reducible rfl
                rotate_left
                ·exact pz
                refine one_ (i := 10) (N := some 110) #[true, true, true, true, true, true, true, true, true, true, true, false, false, false] rfl rfl (one_of HT_.out (by kernel_rfl)) (by decide) (fun K hK => ?_)
                refine goes_ Try.func75 (by kernel_rfl) rfl #[.int .i64 a2_1] (by rfl) rfl rfl mz ?_
                with_reducible refine (spec_l1Power.calls kj77 a2_1 t156 _ A90.out).mono ?_
                rintro e w' ⟨rfl, ⟨nd, rfl⟩⟩
                refine ⟨_, rfl, ?_⟩
                refine hK.out _ _ ⟨(blk_cell BK133.out 0).trans rfl, (blk_cell BK133.out 1).trans rfl, (blk_cell BK134.out 0).trans rfl, (blk_cell BK134.out 1).trans rfl⟩ (fun hHeld => ?_)
                clear hK K
                refine norm_ (a' := ?_) ?_ ?_
                rotate_left
                ·show Act.put _ (some 110) _ = _
                 simp only [Act.put, List.setIfInBounds_toArray, List.set_cons_zero, List.set_cons_succ, i64_w, i32_w]
                 rfl
                refine pure_ (i := 11) (N := some 111) (v := ?_) (a' := ?_) #[true, true, true, true, true, true, true, true, true, true, true, true, false, false] rfl rfl (any_of HT_.out (by kernel_rfl)) (fun _ _ _ h => h) (Or.inl ⟨by rfl, ?_⟩) ?_ ?_
                rotate_left
                ·intro w'
                 go_simp
                 with_reducible rfl
                rotate_left
                ·exact pz
                refine one_ (i := 12) (N := some 112) #[true, true, true, true, true, true, true, true, true, true, true, true, true, false] rfl rfl (one_of HT_.out (by kernel_rfl)) (by decide) (fun K hK => ?_)
                refine goes_ Try.func68 (by kernel_rfl) rfl #[.int .i64 (wrap64 (a1_0 * t155)), .int .i64 (wrap64 (a1_1 * t156))] (by rfl) rfl rfl mz ?_
                with_reducible refine (spec_l9Make.calls kj77 (wrap64 (a1_0 * t155)) (wrap64 (a1_1 * t156)) t157 t158 _ A91.out).mono ?_
                rintro e w93 ⟨rfl, hb⟩
                refine ⟨_, rfl, ?_⟩
                have n0_ := Aside0.mk (blk_below (g := gb133) (o := .cells #[.int .i64 a1_0, .int .i64 a1_1] 40 (0, 0)) (bz BK133.out) hb)
                have n1_ := Aside0.mk (blk_below (g := gb134) (o := .cells #[.int .i64 a2_0, .int .i64 a2_1] 40 (0, 0)) (bz BK134.out) hb)
                have n2_ := Aside0.mk (blk_below (g := gb135) (o := .cells #[.int .i64 0, .int .i64 0] 40 (0, 0)) (bz BK135.out) hb)
                have n3_ := Aside0.mk (below_step (hz3 HB.out GE133.out GE134.out GE135.out) hb)
                clear BK133
                clear BK134
                clear BK135
                clear HB
                have BK133 := n0_
                have BK134 := n1_
                have BK135 := n2_
                have HB := n3_
                clear n0_ n1_ n2_ n3_
                (try clear hb)
                (try clear hb2)
                (try clear hk)
                (try clear hi)
                refine hK.out _ _ ⟨(blk_cell BK133.out 0).trans rfl, (blk_cell BK133.out 1).trans rfl, (blk_cell BK134.out 0).trans rfl, (blk_cell BK134.out 1).trans rfl⟩ (fun hHeld => ?_)
                clear hK K
                refine norm_ (a' := ?_) ?_ ?_
                rotate_left
                ·show Act.put _ (some 112) _ = _
                 simp only [Act.put, List.setIfInBounds_toArray, List.set_cons_zero, List.set_cons_succ, i64_w, i32_w]
                 rfl
                refine one_ (i := 13) (N := none) #[true, true, true, true, true, true, true, true, true, true, true, true, true, true] rfl rfl (one_of HT_.out (by kernel_rfl)) (by decide) (fun K hK => ?_)
                have hs94 : w93.cell? ⟨gb135, 0, none⟩ = some (.int .i64 0) := (blk_cell BK135.out 0).trans rfl
                have hfs94 := blk_frozen BK135.out 0
                have hns94_0 := NB133_135.out
                have hns94_1 := NB134_135.out
                have hms94_0 := NB135_133.out
                have hms94_1 := NB135_134.out
                have hs95 : w93.cell? ⟨gb135, 1, none⟩ = some (.int .i64 0) := (blk_cell BK135.out 1).trans rfl
                have hfs95 := blk_frozen BK135.out 1
                have hns95_0 := NB133_135.out
                have hns95_1 := NB134_135.out
                have hms95_0 := NB135_133.out
                have hms95_1 := NB135_134.out
                refine skip_ (w1 := ?_) (by rfl) rfl ?_ ?_
                rotate_left
                ·go_simp
                 rfl
                refine hK.out _ _ ⟨((cell_far (p := ⟨gb135, _, none⟩) NB133_135.out _).trans (((cell_far (p := ⟨gb135, _, none⟩) NB133_135.out _).trans (hHeld.1)))), ((cell_far (p := ⟨gb135, _, none⟩) NB133_135.out _).trans (((cell_far (p := ⟨gb135, _, none⟩) NB133_135.out _).trans (hHeld.2.1)))), ((cell_far (p := ⟨gb135, _, none⟩) NB134_135.out _).trans (((cell_far (p := ⟨gb135, _, none⟩) NB134_135.out _).trans (hHeld.2.2.1)))), ((cell_far (p := ⟨gb135, _, none⟩) NB134_135.out _).trans (((cell_far (p := ⟨gb135, _, none⟩) NB134_135.out _).trans (hHeld.2.2.2))))⟩ (fun hHeld => ?_)
                clear hK K
                refine done_ (done_of HT_.out (by kernel_rfl)) ?_
                try go_wp2
                refine bodyPost_ret (results_cell_row rfl _ _ gb135 40 #[.int .i64 t157, .int .i64 t158] (0, 0) _ rfl (by (with_reducible repeat (first | refine blk_drewN ?_ _ | refine blk_drew ?_ | refine blk_alloc ?_ _)); refine blk_put (cs := #[.int .i64 t157, .int .i64 0]) ?_ 1 _ rfl; (with_reducible repeat (first | refine blk_drewN ?_ _ | refine blk_drew ?_ | refine blk_alloc ?_ _)); refine blk_put (cs := #[.int .i64 0, .int .i64 0]) ?_ 0 _ rfl; (with_reducible repeat (first | refine blk_drewN ?_ _ | refine blk_drew ?_ | refine blk_alloc ?_ _)); exact BK135.out) Try.underlying40 rfl (by kernel_rfl)) rfl ?_
                exact ⟨by first | rfl | (simp [errW_none, errW_some] <;> rfl) | (simp [*, errW_none, errW_some] <;> rfl), hz3 HB.out GE133.out GE134.out GE135.out⟩
               ·replace c88 := Bool.eq_false_iff.mpr c88
                subst c88
                have H1 : (if a0 = 3 then (spec_RestDo.j5 kj77 a0 t145 true a1_0 a1_1 a2_0 a2_1) else (spec_RestDo.j5 kj77 a0 t145 (a0 == 13) a1_0 a1_1 a2_0 a2_1)) = some (r1, r2) := by rw [if_neg (show ¬ (false = true) by decide)] at H; exact H
                clear H
                have H := H1
                clear H1
                have HC96 := Aside0.mk H
                clear H
                go_upto_region 15 with (fail)
                go_cut [118] (fun v118 wc => ∃ (kq : Nat) (x118_95 : Bool), v118 = .bool x118_95 ∧ Aside0 (spec_RestDo.j5 kq a0 t145 x118_95 a1_0 a1_1 a2_0 a2_1 = some (r1, r2)) ∧ Aside0 (kq ≤ kj77) ∧ Aside0 (wc.heap[gb133]? = some (.cells #[.int .i64 a1_0, .int .i64 a1_1] 40 (0, 0))) ∧ Aside0 (wc.heap[gb134]? = some (.cells #[.int .i64 a2_0, .int .i64 a2_1] 40 (0, 0))) ∧ Aside0 (wc.heap[gb135]? = some (.cells #[.int .i64 0, .int .i64 0] 40 (0, 0))) ∧ Aside0 (Below w.heap.size w wc))
                case first =>
                 have H := HC96.out
                 clear HC96
                 by_cases c97 : a0 = 3
                 ·rw [if_pos c97] at H
                  have c97b0 : (a0 == 3) = true := beq_iff_eq.mpr c97
                  have c97b1 : (a0 != 3) = false := bne_eq_false_iff_eq.mpr c97
                  clear c97
                  (first | rw [c97b0] | (simp only [i64_w, i32_w]; rw [c97b0]) | skip)
                  have H' := Aside0.mk H
                  clear H
                  go_wp2
                  go_meet
                  case rel => exact ⟨_, (true), (by first | rfl | (simp; done) | (simp [*]; done)), H', ⟨by have := HJ3.out; have := HJ29.out; have := HJ57.out; have := HJ67.out; have := HJ77.out; first | omega | exact Nat.le_refl _⟩, ⟨bz BK133.out⟩, ⟨bz BK134.out⟩, ⟨bz BK135.out⟩, ⟨hz3 HB.out GE133.out GE134.out GE135.out⟩⟩
                 ·rw [if_neg c97] at H
                  have c97b0 : (a0 == 3) = false := beq_eq_false_iff_ne.mpr c97
                  have c97b1 : (a0 != 3) = true := bne_iff_ne.mpr c97
                  (first | rw [c97b0] | (simp only [i64_w, i32_w]; rw [c97b0]) | skip)
                  have H' := Aside0.mk H
                  clear H
                  go_wp2
                  go_meet
                  case rel => exact ⟨_, ((a0 == 13)), (by first | rfl | (simp; done) | (simp [*]; done)), H', ⟨by have := HJ3.out; have := HJ29.out; have := HJ57.out; have := HJ67.out; have := HJ77.out; first | omega | exact Nat.le_refl _⟩, ⟨bz BK133.out⟩, ⟨bz BK134.out⟩, ⟨bz BK135.out⟩, ⟨hz3 HB.out GE133.out GE134.out GE135.out⟩⟩
                case rest =>
                 clear HC96
                 try clear c1
                 try clear c2
                 try clear p2
                 try clear c3
                 try clear c4
                 try clear c5
                 try clear c6
                 try clear p6
                 try clear c7
                 try clear c8
                 try clear c9
                 try clear c11
                 try clear c13
                 try clear c14
                 try clear c17
                 try clear c20
                 try clear c21
                 try clear c24
                 try clear c27
                 try clear c28
                 try clear c31
                 try clear c31b0
                 try clear c31b1
                 try clear c32
                 try clear c33
                 try clear c35
                 try clear c37
                 try clear c38
                 try clear c39
                 try clear c40
                 try clear c42
                 try clear c42b0
                 try clear c42b1
                 try clear c43
                 try clear c44
                 try clear c46
                 try clear c50
                 try clear c51
                 try clear c53
                 try clear c59
                 try clear c59b0
                 try clear c59b1
                 try clear c60
                 try clear p64
                 try clear c67
                 try clear c68
                 try clear c69
                 try clear c69b0
                 try clear c69b1
                 try clear c70
                 try clear c75
                 try clear c79
                 try clear c79b0
                 try clear c79b1
                 try clear c80
                 try clear c80b0
                 try clear c80b1
                 try clear c82
                 try clear c83
                 try clear c85
                 try clear c86
                 try clear c88
                 try clear c97
                 try clear c97b0
                 try clear c97b1
                 try clear hcz15_0
                 try clear hcz15_1
                 try clear hcz18_0
                 try clear hcz18_1
                 try clear hcz22_0
                 try clear hcz22_1
                 try clear hcz29_0
                 try clear hcz29_1
                 try clear hcz34_0
                 try clear hcz34_1
                 try clear hcz36_0
                 try clear hcz36_1
                 try clear hcz39_0
                 try clear hcz39_1
                 try clear hcz45_0
                 try clear hcz45_1
                 try clear hcz47_0
                 try clear hcz47_1
                 try clear hcz48_0
                 try clear hcz48_1
                 try clear hcz52_0
                 try clear hcz52_1
                 try clear hcz54_0
                 try clear hcz54_1
                 try clear hcz56_0
                 try clear hcz56_1
                 try clear hcz84_0
                 try clear hcz84_1
                 try clear hcz87_0
                 try clear hcz87_1
                 try clear hfz15_0
                 try clear hfz15_1
                 try clear hfz18_0
                 try clear hfz18_1
                 try clear hfz22_0
                 try clear hfz22_1
                 try clear hfz29_0
                 try clear hfz29_1
                 try clear hfz34_0
                 try clear hfz34_1
                 try clear hfz36_0
                 try clear hfz36_1
                 try clear hfz39_0
                 try clear hfz39_1
                 try clear hfz45_0
                 try clear hfz45_1
                 try clear hfz47_0
                 try clear hfz47_1
                 try clear hfz48_0
                 try clear hfz48_1
                 try clear hfz52_0
                 try clear hfz52_1
                 try clear hfz54_0
                 try clear hfz54_1
                 try clear hfz56_0
                 try clear hfz56_1
                 try clear hfz84_0
                 try clear hfz84_1
                 try clear hfz87_0
                 try clear hfz87_1
                 try clear p2
                 try clear p6
                 try clear p64
                 obtain ⟨kq, x118_95, rfl, HA, HJ95, BK133, BK134, BK135, HB⟩ := hcut
                 cases kq with
                 | zero => exact absurd HA.out (by simp [spec_RestDo.j5])
                 | succ kj95 =>
                  have H := HA.out
                  clear HA
                  simp only [spec_RestDo.j5] at H
                  by_cases c98 : x118_95 = true
                  ·subst c98
                   have H1 : ((spec_l9Gcd.f kj95 (wrap64 (a1_0 * a2_0)) (wrap64 (a1_0 * a2_1))).bind fun t159 => ((spec_l9Gcd.f kj95 t159 (wrap64 (a2_0 * a1_1))).bind fun t160 => (if t160 = 0 then (some (0, 0)) else ((spec_l9Gcd.f kj95 t160 t145).bind fun t161 => ((spec_l9Make.f kj95 t161 (wrap64 (a1_1 * a2_1))).bind fun bt162 => (some (bt162.1, bt162.2))))))) = some (r1, r2) := by rw [if_pos rfl] at H; exact H
                   clear H
                   have H := H1
                   clear H1
                   replace H := Option.bind_eq_some_iff.mp H
                   obtain ⟨t159, A990, H⟩ := H
                   replace H : ((spec_l9Gcd.f kj95 t159 (wrap64 (a2_0 * a1_1))).bind fun t160 => (if t160 = 0 then (some (0, 0)) else ((spec_l9Gcd.f kj95 t160 t145).bind fun t161 => ((spec_l9Make.f kj95 t161 (wrap64 (a1_1 * a2_1))).bind fun bt162 => (some (bt162.1, bt162.2)))))) = some (r1, r2) := H
                   have A99 := Aside0.mk A990
                   clear A990
                   replace H := Option.bind_eq_some_iff.mp H
                   obtain ⟨t160, A1000, H⟩ := H
                   replace H : (if t160 = 0 then (some (0, 0)) else ((spec_l9Gcd.f kj95 t160 t145).bind fun t161 => ((spec_l9Make.f kj95 t161 (wrap64 (a1_1 * a2_1))).bind fun bt162 => (some (bt162.1, bt162.2))))) = some (r1, r2) := H
                   have A100 := Aside0.mk A1000
                   clear A1000
                   by_cases c101 : t160 = 0
                   ·rw [if_pos c101] at H
                    have c101b0 : (t160 == 0) = true := beq_iff_eq.mpr c101
                    have c101b1 : (t160 != 0) = false := bne_eq_false_iff_eq.mpr c101
                    clear c101
                    simp only [Option.some.injEq, Prod.mk.injEq] at H
                    obtain ⟨rfl, rfl⟩ := H
                    try go_wp2
                    have n0_ := Aside0.mk (blk_drew BK133.out)
                    have n1_ := Aside0.mk (blk_drew BK134.out)
                    have n2_ := Aside0.mk (blk_drew BK135.out)
                    have n3_ := Aside0.mk (below_drew1 HB.out)
                    clear BK133
                    clear BK134
                    clear BK135
                    clear HB
                    have BK133 := n0_
                    have BK134 := n1_
                    have BK135 := n2_
                    have HB := n3_
                    clear n0_ n1_ n2_ n3_
                    refine start_ (n := 18) (S := fun w' => w'.cell? ⟨gb133, 0, none⟩ = some (.int .i64 a1_0) ∧ w'.cell? ⟨gb133, 1, none⟩ = some (.int .i64 a1_1) ∧ w'.cell? ⟨gb134, 0, none⟩ = some (.int .i64 a2_0) ∧ w'.cell? ⟨gb134, 1, none⟩ = some (.int .i64 a2_1)) (ds := []) #[false, false, false, false, false, false, false, false, false, false, false, false, false, false, false, false, false, false] (by kernel_rfl) rfl rfl ⟨(blk_cell BK133.out 0).trans rfl, (blk_cell BK133.out 1).trans rfl, (blk_cell BK134.out 0).trans rfl, (blk_cell BK134.out 1).trans rfl⟩ (fun hHeld => ?_); refine with_tabW spec_RestDo.tab16 spec_RestDo.bits16 (fun HT_ HW_ => ?_)
                    generalize wc.drew = w102 at BK133 BK134 BK135 HB hHeld ⊢
                    refine pure_ (i := 0) (N := some 119) (v := ?_) (a' := ?_) #[true, false, false, false, false, false, false, false, false, false, false, false, false, false, false, false, false, false] rfl rfl (any_of HT_.out (by kernel_rfl)) (fun _ _ _ h => h) (Or.inl ⟨by rfl, ?_⟩) ?_ ?_
                    rotate_left
                    ·intro w'
                     go_simp
                     with_reducible rfl
                    rotate_left
                    ·exact pz
                    refine pure_ (i := 2) (N := some 121) (v := ?_) (a' := ?_) #[true, false, true, false, false, false, false, false, false, false, false, false, false, false, false, false, false, false] rfl rfl (any_of HT_.out (by kernel_rfl)) (fun _ _ _ h => h) (Or.inl ⟨by rfl, ?_⟩) ?_ ?_
                    rotate_left
                    ·intro w'
                     go_simp
                     with_reducible rfl
                    rotate_left
                    ·exact pz
                    refine pure_ (i := 5) (N := some 124) (v := ?_) (a' := ?_) #[true, false, true, false, false, true, false, false, false, false, false, false, false, false, false, false, false, false] rfl rfl (any_of HT_.out (by kernel_rfl)) (fun _ _ _ h => h) (Or.inl ⟨by rfl, ?_⟩) ?_ ?_
                    rotate_left
                    ·intro w'
                     go_simp
                     with_reducible rfl
                    rotate_left
                    ·exact pz
                    refine pure_ (i := 7) (N := some 126) (v := ?_) (a' := ?_) #[true, false, true, false, false, true, false, true, false, false, false, false, false, false, false, false, false, false] rfl rfl (any_of HT_.out (by kernel_rfl)) (fun _ _ _ h => h) (Or.inl ⟨by rfl, ?_⟩) ?_ ?_
                    rotate_left
                    ·intro w'
                     go_simp
                     with_reducible rfl
                    rotate_left
                    ·exact pz
                    refine pure_ (i := 11) (N := some 130) (v := ?_) (a' := ?_) #[true, false, true, false, false, true, false, true, false, false, false, true, false, false, false, false, false, false] rfl rfl (any_of HT_.out (by kernel_rfl)) (fun _ _ _ h => h) (Or.inl ⟨by rfl, ?_⟩) ?_ ?_
                    rotate_left
                    ·intro w'
                     go_simp
                     with_reducible rfl
                    rotate_left
                    ·exact pz
                    refine pure_ (i := 13) (N := some 132) (v := ?_) (a' := ?_) #[true, false, true, false, false, true, false, true, false, false, false, true, false, true, false, false, false, false] rfl rfl (any_of HT_.out (by kernel_rfl)) (fun _ _ _ h => h) (Or.inl ⟨by rfl, ?_⟩) ?_ ?_
                    rotate_left
                    ·intro w'
                     go_simp
                     with_reducible rfl
                    rotate_left
                    ·exact pz
                    refine take_ (i := 1) (N := some 120) (v := ?_) (a' := ?_) #[true, true, true, false, false, true, false, true, false, false, false, true, false, true, false, false, false, false] rfl rfl (take_ofW HT_.out HW_.out (by kernel_rfl)) (fun _ _ _ h => h) (Or.inl ⟨by rfl, ?_⟩) hHeld ?_ ?_
                    rotate_left
                    ·rintro w' ⟨s0, s1, s2, s3⟩
                     go_simp
                     with_reducible rfl
                    rotate_left
                    ·exact pz
                    refine take_ (i := 3) (N := some 122) (v := ?_) (a' := ?_) #[true, true, true, true, false, true, false, true, false, false, false, true, false, true, false, false, false, false] rfl rfl (take_ofW HT_.out HW_.out (by kernel_rfl)) (fun _ _ _ h => h) (Or.inl ⟨by rfl, ?_⟩) hHeld ?_ ?_
                    rotate_left
                    ·rintro w' ⟨s0, s1, s2, s3⟩
                     go_simp
                     with_reducible rfl
                    rotate_left
                    ·exact pz
                    refine pure_ (i := 4) (N := some 123) (v := ?_) (a' := ?_) #[true, true, true, true, true, true, false, true, false, false, false, true, false, true, false, false, false, false] rfl rfl (any_of HT_.out (by kernel_rfl)) (fun _ _ _ h => h) (Or.inl ⟨by rfl, ?_⟩) ?_ ?_
                    rotate_left
                    ·intro w'
                     go_simp
                     with_reducible rfl
                    rotate_left
                    ·exact pz
                    refine take_ (i := 6) (N := some 125) (v := ?_) (a' := ?_) #[true, true, true, true, true, true, true, true, false, false, false, true, false, true, false, false, false, false] rfl rfl (take_ofW HT_.out HW_.out (by kernel_rfl)) (fun _ _ _ h => h) (Or.inl ⟨by rfl, ?_⟩) hHeld ?_ ?_
                    rotate_left
                    ·rintro w' ⟨s0, s1, s2, s3⟩
                     go_simp
                     with_reducible rfl
                    rotate_left
                    ·exact pz
                    refine take_ (i := 8) (N := some 127) (v := ?_) (a' := ?_) #[true, true, true, true, true, true, true, true, true, false, false, true, false, true, false, false, false, false] rfl rfl (take_ofW HT_.out HW_.out (by kernel_rfl)) (fun _ _ _ h => h) (Or.inl ⟨by rfl, ?_⟩) hHeld ?_ ?_
                    rotate_left
                    ·rintro w' ⟨s0, s1, s2, s3⟩
                     go_simp
                     with_reducible rfl
                    rotate_left
                    ·exact pz
                    refine pure_ (i := 9) (N := some 128) (v := ?_) (a' := ?_) #[true, true, true, true, true, true, true, true, true, true, false, true, false, true, false, false, false, false] rfl rfl (any_of HT_.out (by kernel_rfl)) (fun _ _ _ h => h) (Or.inl ⟨by rfl, ?_⟩) ?_ ?_
                    rotate_left
                    ·intro w'
                     go_simp
                     with_reducible rfl
                    rotate_left
                    ·exact pz
                    refine take_ (i := 12) (N := some 131) (v := ?_) (a' := ?_) #[true, true, true, true, true, true, true, true, true, true, false, true, true, true, false, false, false, false] rfl rfl (take_ofW HT_.out HW_.out (by kernel_rfl)) (fun _ _ _ h => h) (Or.inl ⟨by rfl, ?_⟩) hHeld ?_ ?_
                    rotate_left
                    ·rintro w' ⟨s0, s1, s2, s3⟩
                     go_simp
                     with_reducible rfl
                    rotate_left
                    ·exact pz
                    refine take_ (i := 14) (N := some 133) (v := ?_) (a' := ?_) #[true, true, true, true, true, true, true, true, true, true, false, true, true, true, true, false, false, false] rfl rfl (take_ofW HT_.out HW_.out (by kernel_rfl)) (fun _ _ _ h => h) (Or.inl ⟨by rfl, ?_⟩) hHeld ?_ ?_
                    rotate_left
                    ·rintro w' ⟨s0, s1, s2, s3⟩
                     go_simp
                     with_reducible rfl
                    rotate_left
                    ·exact pz
                    refine pure_ (i := 15) (N := some 134) (v := ?_) (a' := ?_) #[true, true, true, true, true, true, true, true, true, true, false, true, true, true, true, true, false, false] rfl rfl (any_of HT_.out (by kernel_rfl)) (fun _ _ _ h => h) (Or.inl ⟨by rfl, ?_⟩) ?_ ?_
                    rotate_left
                    ·intro w'
                     go_simp
                     with_reducible rfl
                    rotate_left
                    ·exact pz
                    refine one_ (i := 10) (N := some 129) #[true, true, true, true, true, true, true, true, true, true, true, true, true, true, true, true, false, false] rfl rfl (one_of HT_.out (by kernel_rfl)) (by decide) (fun K hK => ?_)
                    refine goes_ Try.func69 (by kernel_rfl) rfl #[.int .i64 (wrap64 (a1_0 * a2_0)), .int .i64 (wrap64 (a1_0 * a2_1))] (by rfl) rfl rfl mz ?_
                    with_reducible refine (spec_l9Gcd.calls kj95 (wrap64 (a1_0 * a2_0)) (wrap64 (a1_0 * a2_1)) t159 _ A99.out).mono ?_
                    rintro e w' ⟨rfl, ⟨nd, rfl⟩⟩
                    refine ⟨_, rfl, ?_⟩
                    refine hK.out _ _ ⟨(blk_cell BK133.out 0).trans rfl, (blk_cell BK133.out 1).trans rfl, (blk_cell BK134.out 0).trans rfl, (blk_cell BK134.out 1).trans rfl⟩ (fun hHeld => ?_)
                    clear hK K
                    refine norm_ (a' := ?_) ?_ ?_
                    rotate_left
                    ·show Act.put _ (some 129) _ = _
                     simp only [Act.put, List.setIfInBounds_toArray, List.set_cons_zero, List.set_cons_succ, i64_w, i32_w]
                     rfl
                    refine one_ (i := 16) (N := some 135) #[true, true, true, true, true, true, true, true, true, true, true, true, true, true, true, true, true, false] rfl rfl (one_of HT_.out (by kernel_rfl)) (by decide) (fun K hK => ?_)
                    refine goes_ Try.func69 (by kernel_rfl) rfl #[.int .i64 t159, .int .i64 (wrap64 (a2_0 * a1_1))] (by rfl) rfl rfl mz ?_
                    with_reducible refine (spec_l9Gcd.calls kj95 t159 (wrap64 (a2_0 * a1_1)) t160 _ A100.out).mono ?_
                    rintro e w' ⟨rfl, ⟨nd, rfl⟩⟩
                    refine ⟨_, rfl, ?_⟩
                    refine hK.out _ _ ⟨(blk_cell BK133.out 0).trans rfl, (blk_cell BK133.out 1).trans rfl, (blk_cell BK134.out 0).trans rfl, (blk_cell BK134.out 1).trans rfl⟩ (fun hHeld => ?_)
                    clear hK K
                    refine norm_ (a' := ?_) ?_ ?_
                    rotate_left
                    ·show Act.put _ (some 135) _ = _
                     simp only [Act.put, List.setIfInBounds_toArray, List.set_cons_zero, List.set_cons_succ, i64_w, i32_w]
                     rfl
                    refine pure_ (i := 17) (N := some 10) (v := ?_) (a' := ?_) #[true, true, true, true, true, true, true, true, true, true, true, true, true, true, true, true, true, true] rfl rfl (any_of HT_.out (by kernel_rfl)) (fun _ _ _ h => h) (Or.inl ⟨by rfl, ?_⟩) ?_ ?_
                    rotate_left
                    ·intro w'
                     go_simp
                     with_reducible rfl
                    rotate_left
                    ·exact pz
                    refine done_ (done_of HT_.out (by kernel_rfl)) ?_
                    have hnb103 := NB135_133.out
                    have hnc103 := NB133_135.out
                    have hnb104 := NB135_134.out
                    have hnc104 := NB134_135.out
                    have hcz105_0 : w102.cell? ⟨gb135, 0, none⟩ = some (.int .i64 0) := (blk_cell BK135.out 0).trans rfl
                    have hcz105_1 : w102.cell? ⟨gb135, 1, none⟩ = some (.int .i64 0) := (blk_cell BK135.out 1).trans rfl
                    have hfz105_0 := blk_frozen BK135.out 0
                    have hfz105_1 := blk_frozen BK135.out 1
                    try go_wp2
                    refine bodyPost_ret (results_cell_row rfl _ _ gb135 40 #[.int .i64 0, .int .i64 0] (0, 0) _ rfl (by (with_reducible repeat (first | refine blk_drewN ?_ _ | refine blk_drew ?_ | refine blk_alloc ?_ _)); refine blk_put (cs := #[.int .i64 0, .int .i64 0]) ?_ 1 _ rfl; (with_reducible repeat (first | refine blk_drewN ?_ _ | refine blk_drew ?_ | refine blk_alloc ?_ _)); refine blk_put (cs := #[.int .i64 0, .int .i64 0]) ?_ 0 _ rfl; (with_reducible repeat (first | refine blk_drewN ?_ _ | refine blk_drew ?_ | refine blk_alloc ?_ _)); exact BK135.out) Try.underlying40 rfl (by kernel_rfl)) rfl ?_
                    exact ⟨by first | rfl | (simp [errW_none, errW_some] <;> rfl) | (simp [*, errW_none, errW_some] <;> rfl), hz3 HB.out GE133.out GE134.out GE135.out⟩
                   ·rw [if_neg c101] at H
                    have c101b0 : (t160 == 0) = false := beq_eq_false_iff_ne.mpr c101
                    have c101b1 : (t160 != 0) = true := bne_iff_ne.mpr c101
                    replace H := Option.bind_eq_some_iff.mp H
                    obtain ⟨t161, A1060, H⟩ := H
                    replace H : ((spec_l9Make.f kj95 t161 (wrap64 (a1_1 * a2_1))).bind fun bt162 => (some (bt162.1, bt162.2))) = some (r1, r2) := H
                    have A106 := Aside0.mk A1060
                    clear A1060
                    replace H := Option.bind_eq_some_iff.mp H
                    obtain ⟨⟨t162, t163⟩, A1070, H⟩ := H
                    replace H : (some (t162, t163)) = some (r1, r2) := H
                    have A107 := Aside0.mk A1070
                    clear A1070
                    simp only [Option.some.injEq, Prod.mk.injEq] at H
                    obtain ⟨rfl, rfl⟩ := H
                    try go_wp2
                    have n0_ := Aside0.mk (blk_drew BK133.out)
                    have n1_ := Aside0.mk (blk_drew BK134.out)
                    have n2_ := Aside0.mk (blk_drew BK135.out)
                    have n3_ := Aside0.mk (below_drew1 HB.out)
                    clear BK133
                    clear BK134
                    clear BK135
                    clear HB
                    have BK133 := n0_
                    have BK134 := n1_
                    have BK135 := n2_
                    have HB := n3_
                    clear n0_ n1_ n2_ n3_
                    refine start_ (n := 18) (S := fun w' => w'.cell? ⟨gb133, 0, none⟩ = some (.int .i64 a1_0) ∧ w'.cell? ⟨gb133, 1, none⟩ = some (.int .i64 a1_1) ∧ w'.cell? ⟨gb134, 0, none⟩ = some (.int .i64 a2_0) ∧ w'.cell? ⟨gb134, 1, none⟩ = some (.int .i64 a2_1)) (ds := []) #[false, false, false, false, false, false, false, false, false, false, false, false, false, false, false, false, false, false] (by kernel_rfl) rfl rfl ⟨(blk_cell BK133.out 0).trans rfl, (blk_cell BK133.out 1).trans rfl, (blk_cell BK134.out 0).trans rfl, (blk_cell BK134.out 1).trans rfl⟩ (fun hHeld => ?_); refine with_tabW spec_RestDo.tab16 spec_RestDo.bits16 (fun HT_ HW_ => ?_)
                    generalize wc.drew = w108 at BK133 BK134 BK135 HB hHeld ⊢
                    refine pure_ (i := 0) (N := some 119) (v := ?_) (a' := ?_) #[true, false, false, false, false, false, false, false, false, false, false, false, false, false, false, false, false, false] rfl rfl (any_of HT_.out (by kernel_rfl)) (fun _ _ _ h => h) (Or.inl ⟨by rfl, ?_⟩) ?_ ?_
                    rotate_left
                    ·intro w'
                     go_simp
                     with_reducible rfl
                    rotate_left
                    ·exact pz
                    refine pure_ (i := 2) (N := some 121) (v := ?_) (a' := ?_) #[true, false, true, false, false, false, false, false, false, false, false, false, false, false, false, false, false, false] rfl rfl (any_of HT_.out (by kernel_rfl)) (fun _ _ _ h => h) (Or.inl ⟨by rfl, ?_⟩) ?_ ?_
                    rotate_left
                    ·intro w'
                     go_simp
                     with_reducible rfl
                    rotate_left
                    ·exact pz
                    refine pure_ (i := 5) (N := some 124) (v := ?_) (a' := ?_) #[true, false, true, false, false, true, false, false, false, false, false, false, false, false, false, false, false, false] rfl rfl (any_of HT_.out (by kernel_rfl)) (fun _ _ _ h => h) (Or.inl ⟨by rfl, ?_⟩) ?_ ?_
                    rotate_left
                    ·intro w'
                     go_simp
                     with_reducible rfl
                    rotate_left
                    ·exact pz
                    refine pure_ (i := 7) (N := some 126) (v := ?_) (a' := ?_) #[true, false, true, false, false, true, false, true, false, false, false, false, false, false, false, false, false, false] rfl rfl (any_of HT_.out (by kernel_rfl)) (fun _ _ _ h => h) (Or.inl ⟨by rfl, ?_⟩) ?_ ?_
                    rotate_left
                    ·intro w'
                     go_simp
                     with_reducible rfl
                    rotate_left
                    ·exact pz
                    refine pure_ (i := 11) (N := some 130) (v := ?_) (a' := ?_) #[true, false, true, false, false, true, false, true, false, false, false, true, false, false, false, false, false, false] rfl rfl (any_of HT_.out (by kernel_rfl)) (fun _ _ _ h => h) (Or.inl ⟨by rfl, ?_⟩) ?_ ?_
                    rotate_left
                    ·intro w'
                     go_simp
                     with_reducible rfl
                    rotate_left
                    ·exact pz
                    refine pure_ (i := 13) (N := some 132) (v := ?_) (a' := ?_) #[true, false, true, false, false, true, false, true, false, false, false, true, false, true, false, false, false, false] rfl rfl (any_of HT_.out (by kernel_rfl)) (fun _ _ _ h => h) (Or.inl ⟨by rfl, ?_⟩) ?_ ?_
                    rotate_left
                    ·intro w'
                     go_simp
                     with_reducible rfl
                    rotate_left
                    ·exact pz
                    refine take_ (i := 1) (N := some 120) (v := ?_) (a' := ?_) #[true, true, true, false, false, true, false, true, false, false, false, true, false, true, false, false, false, false] rfl rfl (take_ofW HT_.out HW_.out (by kernel_rfl)) (fun _ _ _ h => h) (Or.inl ⟨by rfl, ?_⟩) hHeld ?_ ?_
                    rotate_left
                    ·rintro w' ⟨s0, s1, s2, s3⟩
                     go_simp
                     with_reducible rfl
                    rotate_left
                    ·exact pz
                    refine take_ (i := 3) (N := some 122) (v := ?_) (a' := ?_) #[true, true, true, true, false, true, false, true, false, false, false, true, false, true, false, false, false, false] rfl rfl (take_ofW HT_.out HW_.out (by kernel_rfl)) (fun _ _ _ h => h) (Or.inl ⟨by rfl, ?_⟩) hHeld ?_ ?_
                    rotate_left
                    ·rintro w' ⟨s0, s1, s2, s3⟩
                     go_simp
                     with_reducible rfl
                    rotate_left
                    ·exact pz
                    refine pure_ (i := 4) (N := some 123) (v := ?_) (a' := ?_) #[true, true, true, true, true, true, false, true, false, false, false, true, false, true, false, false, false, false] rfl rfl (any_of HT_.out (by kernel_rfl)) (fun _ _ _ h => h) (Or.inl ⟨by rfl, ?_⟩) ?_ ?_
                    rotate_left
                    ·intro w'
                     go_simp
                     with_reducible rfl
                    rotate_left
                    ·exact pz
                    refine take_ (i := 6) (N := some 125) (v := ?_) (a' := ?_) #[true, true, true, true, true, true, true, true, false, false, false, true, false, true, false, false, false, false] rfl rfl (take_ofW HT_.out HW_.out (by kernel_rfl)) (fun _ _ _ h => h) (Or.inl ⟨by rfl, ?_⟩) hHeld ?_ ?_
                    rotate_left
                    ·rintro w' ⟨s0, s1, s2, s3⟩
                     go_simp
                     with_reducible rfl
                    rotate_left
                    ·exact pz
                    refine take_ (i := 8) (N := some 127) (v := ?_) (a' := ?_) #[true, true, true, true, true, true, true, true, true, false, false, true, false, true, false, false, false, false] rfl rfl (take_ofW HT_.out HW_.out (by kernel_rfl)) (fun _ _ _ h => h) (Or.inl ⟨by rfl, ?_⟩) hHeld ?_ ?_
                    rotate_left
                    ·rintro w' ⟨s0, s1, s2, s3⟩
                     go_simp
                     with_reducible rfl
                    rotate_left
                    ·exact pz
                    refine pure_ (i := 9) (N := some 128) (v := ?_) (a' := ?_) #[true, true, true, true, true, true, true, true, true, true, false, true, false, true, false, false, false, false] rfl rfl (any_of HT_.out (by kernel_rfl)) (fun _ _ _ h => h) (Or.inl ⟨by rfl, ?_⟩) ?_ ?_
                    rotate_left
                    ·intro w'
                     go_simp
                     with_reducible rfl
                    rotate_left
                    ·exact pz
                    refine take_ (i := 12) (N := some 131) (v := ?_) (a' := ?_) #[true, true, true, true, true, true, true, true, true, true, false, true, true, true, false, false, false, false] rfl rfl (take_ofW HT_.out HW_.out (by kernel_rfl)) (fun _ _ _ h => h) (Or.inl ⟨by rfl, ?_⟩) hHeld ?_ ?_
                    rotate_left
                    ·rintro w' ⟨s0, s1, s2, s3⟩
                     go_simp
                     with_reducible rfl
                    rotate_left
                    ·exact pz
                    refine take_ (i := 14) (N := some 133) (v := ?_) (a' := ?_) #[true, true, true, true, true, true, true, true, true, true, false, true, true, true, true, false, false, false] rfl rfl (take_ofW HT_.out HW_.out (by kernel_rfl)) (fun _ _ _ h => h) (Or.inl ⟨by rfl, ?_⟩) hHeld ?_ ?_
                    rotate_left
                    ·rintro w' ⟨s0, s1, s2, s3⟩
                     go_simp
                     with_reducible rfl
                    rotate_left
                    ·exact pz
                    refine pure_ (i := 15) (N := some 134) (v := ?_) (a' := ?_) #[true, true, true, true, true, true, true, true, true, true, false, true, true, true, true, true, false, false] rfl rfl (any_of HT_.out (by kernel_rfl)) (fun _ _ _ h => h) (Or.inl ⟨by rfl, ?_⟩) ?_ ?_
                    rotate_left
                    ·intro w'
                     go_simp
                     with_reducible rfl
                    rotate_left
                    ·exact pz
                    refine one_ (i := 10) (N := some 129) #[true, true, true, true, true, true, true, true, true, true, true, true, true, true, true, true, false, false] rfl rfl (one_of HT_.out (by kernel_rfl)) (by decide) (fun K hK => ?_)
                    refine goes_ Try.func69 (by kernel_rfl) rfl #[.int .i64 (wrap64 (a1_0 * a2_0)), .int .i64 (wrap64 (a1_0 * a2_1))] (by rfl) rfl rfl mz ?_
                    with_reducible refine (spec_l9Gcd.calls kj95 (wrap64 (a1_0 * a2_0)) (wrap64 (a1_0 * a2_1)) t159 _ A99.out).mono ?_
                    rintro e w' ⟨rfl, ⟨nd, rfl⟩⟩
                    refine ⟨_, rfl, ?_⟩
                    refine hK.out _ _ ⟨(blk_cell BK133.out 0).trans rfl, (blk_cell BK133.out 1).trans rfl, (blk_cell BK134.out 0).trans rfl, (blk_cell BK134.out 1).trans rfl⟩ (fun hHeld => ?_)
                    clear hK K
                    refine norm_ (a' := ?_) ?_ ?_
                    rotate_left
                    ·show Act.put _ (some 129) _ = _
                     simp only [Act.put, List.setIfInBounds_toArray, List.set_cons_zero, List.set_cons_succ, i64_w, i32_w]
                     rfl
                    refine one_ (i := 16) (N := some 135) #[true, true, true, true, true, true, true, true, true, true, true, true, true, true, true, true, true, false] rfl rfl (one_of HT_.out (by kernel_rfl)) (by decide) (fun K hK => ?_)
                    refine goes_ Try.func69 (by kernel_rfl) rfl #[.int .i64 t159, .int .i64 (wrap64 (a2_0 * a1_1))] (by rfl) rfl rfl mz ?_
                    with_reducible refine (spec_l9Gcd.calls kj95 t159 (wrap64 (a2_0 * a1_1)) t160 _ A100.out).mono ?_
                    rintro e w' ⟨rfl, ⟨nd, rfl⟩⟩
                    refine ⟨_, rfl, ?_⟩
                    refine hK.out _ _ ⟨(blk_cell BK133.out 0).trans rfl, (blk_cell BK133.out 1).trans rfl, (blk_cell BK134.out 0).trans rfl, (blk_cell BK134.out 1).trans rfl⟩ (fun hHeld => ?_)
                    clear hK K
                    refine norm_ (a' := ?_) ?_ ?_
                    rotate_left
                    ·show Act.put _ (some 135) _ = _
                     simp only [Act.put, List.setIfInBounds_toArray, List.set_cons_zero, List.set_cons_succ, i64_w, i32_w]
                     rfl
                    refine pure_ (i := 17) (N := some 10) (v := ?_) (a' := ?_) #[true, true, true, true, true, true, true, true, true, true, true, true, true, true, true, true, true, true] rfl rfl (any_of HT_.out (by kernel_rfl)) (fun _ _ _ h => h) (Or.inl ⟨by rfl, ?_⟩) ?_ ?_
                    rotate_left
                    ·intro w'
                     go_simp
                     with_reducible rfl
                    rotate_left
                    ·exact pz
                    refine done_ (done_of HT_.out (by kernel_rfl)) ?_
                    try go_wp2
                    (try (rw [drewN_self w108]; generalize hq_ : World.drewN w108 _ = w108; have n0_ : Aside0 (w108.heap[gb133]? = some (.cells #[.int .i64 a1_0, .int .i64 a1_1] 40 (0, 0))) := ⟨by rw [← hq_]; exact (bz BK133.out)⟩; have n1_ : Aside0 (w108.heap[gb134]? = some (.cells #[.int .i64 a2_0, .int .i64 a2_1] 40 (0, 0))) := ⟨by rw [← hq_]; exact (bz BK134.out)⟩; have n2_ : Aside0 (w108.heap[gb135]? = some (.cells #[.int .i64 0, .int .i64 0] 40 (0, 0))) := ⟨by rw [← hq_]; exact (bz BK135.out)⟩; have n3_ : Aside0 (Below w.heap.size w w108) := ⟨by rw [← hq_]; exact (hz3 HB.out GE133.out GE134.out GE135.out)⟩; clear BK133 BK134 BK135 HB hq_; have BK133 := n0_; have BK134 := n1_; have BK135 := n2_; have HB := n3_; clear n0_ n1_ n2_ n3_))
                    have n0_ := Aside0.mk (blk_drew BK133.out)
                    have n1_ := Aside0.mk (blk_drew BK134.out)
                    have n2_ := Aside0.mk (blk_drew BK135.out)
                    have n3_ := Aside0.mk (below_drew1 HB.out)
                    clear BK133
                    clear BK134
                    clear BK135
                    clear HB
                    have BK133 := n0_
                    have BK134 := n1_
                    have BK135 := n2_
                    have HB := n3_
                    clear n0_ n1_ n2_ n3_
                    refine start_ (n := 10) (S := fun w' => w'.cell? ⟨gb133, 0, none⟩ = some (.int .i64 a1_0) ∧ w'.cell? ⟨gb133, 1, none⟩ = some (.int .i64 a1_1) ∧ w'.cell? ⟨gb134, 0, none⟩ = some (.int .i64 a2_0) ∧ w'.cell? ⟨gb134, 1, none⟩ = some (.int .i64 a2_1)) (ds := []) #[false, false, false, false, false, false, false, false, false, false] (by kernel_rfl) rfl rfl ⟨(blk_cell BK133.out 0).trans rfl, (blk_cell BK133.out 1).trans rfl, (blk_cell BK134.out 0).trans rfl, (blk_cell BK134.out 1).trans rfl⟩ (fun hHeld => ?_); refine with_tabW spec_RestDo.tab19 spec_RestDo.bits19 (fun HT_ HW_ => ?_)
                    generalize w108.drew = w109 at BK133 BK134 BK135 HB hHeld ⊢
                    refine pure_ (i := 0) (N := some 139) (v := ?_) (a' := ?_) #[true, false, false, false, false, false, false, false, false, false] rfl rfl (any_of HT_.out (by kernel_rfl)) (fun _ _ _ h => h) (Or.inl ⟨by rfl, ?_⟩) ?_ ?_
                    rotate_left
                    ·intro w'
                     go_simp
                     with_reducible rfl
                    rotate_left
                    ·exact pz
                    refine pure_ (i := 1) (N := some 140) (v := ?_) (a' := ?_) #[true, true, false, false, false, false, false, false, false, false] rfl rfl (any_of HT_.out (by kernel_rfl)) (fun _ _ _ h => h) (Or.inl ⟨by rfl, ?_⟩) ?_ ?_
                    rotate_left
                    ·intro w'
                     go_simp
                     with_reducible rfl
                    rotate_left
                    ·exact pz
                    refine pure_ (i := 3) (N := some 142) (v := ?_) (a' := ?_) #[true, true, false, true, false, false, false, false, false, false] rfl rfl (any_of HT_.out (by kernel_rfl)) (fun _ _ _ h => h) (Or.inl ⟨by rfl, ?_⟩) ?_ ?_
                    rotate_left
                    ·intro w'
                     go_simp
                     with_reducible rfl
                    rotate_left
                    ·exact pz
                    refine pure_ (i := 5) (N := some 144) (v := ?_) (a' := ?_) #[true, true, false, true, false, true, false, false, false, false] rfl rfl (any_of HT_.out (by kernel_rfl)) (fun _ _ _ h => h) (Or.inl ⟨by rfl, ?_⟩) ?_ ?_
                    rotate_left
                    ·intro w'
                     go_simp
                     with_reducible rfl
                    rotate_left
                    ·exact pz
                    refine take_ (i := 4) (N := some 143) (v := ?_) (a' := ?_) #[true, true, false, true, true, true, false, false, false, false] rfl rfl (take_ofW HT_.out HW_.out (by kernel_rfl)) (fun _ _ _ h => h) (Or.inl ⟨by rfl, ?_⟩) hHeld ?_ ?_
                    rotate_left
                    ·rintro w' ⟨s0, s1, s2, s3⟩
                     go_simp
                     with_reducible rfl
                    rotate_left
                    ·exact pz
                    refine take_ (i := 6) (N := some 145) (v := ?_) (a' := ?_) #[true, true, false, true, true, true, true, false, false, false] rfl rfl (take_ofW HT_.out HW_.out (by kernel_rfl)) (fun _ _ _ h => h) (Or.inl ⟨by rfl, ?_⟩) hHeld ?_ ?_
                    rotate_left
                    ·rintro w' ⟨s0, s1, s2, s3⟩
                     go_simp
                     with_reducible rfl
                    rotate_left
                    ·exact pz
                    refine pure_ (i := 7) (N := some 146) (v := ?_) (a' := ?_) #[true, true, false, true, true, true, true, true, false, false] rfl rfl (any_of HT_.out (by kernel_rfl)) (fun _ _ _ h => h) (Or.inl ⟨by rfl, ?_⟩) ?_ ?_
                    rotate_left
                    ·intro w'
                     go_simp
                     with_reducible rfl
                    rotate_left
                    ·exact pz
                    refine one_ (i := 2) (N := some 141) #[true, true, true, true, true, true, true, true, false, false] rfl rfl (one_of HT_.out (by kernel_rfl)) (by decide) (fun K hK => ?_)
                    refine goes_ Try.func69 (by kernel_rfl) rfl #[.int .i64 t160, .int .i64 t145] (by rfl) rfl rfl mz ?_
                    with_reducible refine (spec_l9Gcd.calls kj95 t160 t145 t161 _ A106.out).mono ?_
                    rintro e w' ⟨rfl, ⟨nd, rfl⟩⟩
                    refine ⟨_, rfl, ?_⟩
                    refine hK.out _ _ ⟨(blk_cell BK133.out 0).trans rfl, (blk_cell BK133.out 1).trans rfl, (blk_cell BK134.out 0).trans rfl, (blk_cell BK134.out 1).trans rfl⟩ (fun hHeld => ?_)
                    clear hK K
                    refine norm_ (a' := ?_) ?_ ?_
                    rotate_left
                    ·show Act.put _ (some 141) _ = _
                     simp only [Act.put, List.setIfInBounds_toArray, List.set_cons_zero, List.set_cons_succ, i64_w, i32_w]
                     rfl
                    refine one_ (i := 8) (N := some 147) #[true, true, true, true, true, true, true, true, true, false] rfl rfl (one_of HT_.out (by kernel_rfl)) (by decide) (fun K hK => ?_)
                    refine goes_ Try.func68 (by kernel_rfl) rfl #[.int .i64 t161, .int .i64 (wrap64 (a1_1 * a2_1))] (by rfl) rfl rfl mz ?_
                    with_reducible refine (spec_l9Make.calls kj95 t161 (wrap64 (a1_1 * a2_1)) t162 t163 _ A107.out).mono ?_
                    rintro e w110 ⟨rfl, hb⟩
                    refine ⟨_, rfl, ?_⟩
                    have n0_ := Aside0.mk (blk_below (g := gb133) (o := .cells #[.int .i64 a1_0, .int .i64 a1_1] 40 (0, 0)) (bz BK133.out) hb)
                    have n1_ := Aside0.mk (blk_below (g := gb134) (o := .cells #[.int .i64 a2_0, .int .i64 a2_1] 40 (0, 0)) (bz BK134.out) hb)
                    have n2_ := Aside0.mk (blk_below (g := gb135) (o := .cells #[.int .i64 0, .int .i64 0] 40 (0, 0)) (bz BK135.out) hb)
                    have n3_ := Aside0.mk (below_step (hz3 HB.out GE133.out GE134.out GE135.out) hb)
                    clear BK133
                    clear BK134
                    clear BK135
                    clear HB
                    have BK133 := n0_
                    have BK134 := n1_
                    have BK135 := n2_
                    have HB := n3_
                    clear n0_ n1_ n2_ n3_
                    (try clear hb)
                    (try clear hb2)
                    (try clear hk)
                    (try clear hi)
                    refine hK.out _ _ ⟨(blk_cell BK133.out 0).trans rfl, (blk_cell BK133.out 1).trans rfl, (blk_cell BK134.out 0).trans rfl, (blk_cell BK134.out 1).trans rfl⟩ (fun hHeld => ?_)
                    clear hK K
                    refine norm_ (a' := ?_) ?_ ?_
                    rotate_left
                    ·show Act.put _ (some 147) _ = _
                     simp only [Act.put, List.setIfInBounds_toArray, List.set_cons_zero, List.set_cons_succ, i64_w, i32_w]
                     rfl
                    refine one_ (i := 9) (N := none) #[true, true, true, true, true, true, true, true, true, true] rfl rfl (one_of HT_.out (by kernel_rfl)) (by decide) (fun K hK => ?_)
                    have hs111 : w110.cell? ⟨gb135, 0, none⟩ = some (.int .i64 0) := (blk_cell BK135.out 0).trans rfl
                    have hfs111 := blk_frozen BK135.out 0
                    have hns111_0 := NB133_135.out
                    have hns111_1 := NB134_135.out
                    have hms111_0 := NB135_133.out
                    have hms111_1 := NB135_134.out
                    have hs112 : w110.cell? ⟨gb135, 1, none⟩ = some (.int .i64 0) := (blk_cell BK135.out 1).trans rfl
                    have hfs112 := blk_frozen BK135.out 1
                    have hns112_0 := NB133_135.out
                    have hns112_1 := NB134_135.out
                    have hms112_0 := NB135_133.out
                    have hms112_1 := NB135_134.out
                    refine skip_ (w1 := ?_) (by rfl) rfl ?_ ?_
                    rotate_left
                    ·go_simp
                     rfl
                    refine hK.out _ _ ⟨((cell_far (p := ⟨gb135, _, none⟩) NB133_135.out _).trans (((cell_far (p := ⟨gb135, _, none⟩) NB133_135.out _).trans (hHeld.1)))), ((cell_far (p := ⟨gb135, _, none⟩) NB133_135.out _).trans (((cell_far (p := ⟨gb135, _, none⟩) NB133_135.out _).trans (hHeld.2.1)))), ((cell_far (p := ⟨gb135, _, none⟩) NB134_135.out _).trans (((cell_far (p := ⟨gb135, _, none⟩) NB134_135.out _).trans (hHeld.2.2.1)))), ((cell_far (p := ⟨gb135, _, none⟩) NB134_135.out _).trans (((cell_far (p := ⟨gb135, _, none⟩) NB134_135.out _).trans (hHeld.2.2.2))))⟩ (fun hHeld => ?_)
                    clear hK K
                    refine done_ (done_of HT_.out (by kernel_rfl)) ?_
                    try go_wp2
                    refine bodyPost_ret (results_cell_row rfl _ _ gb135 40 #[.int .i64 t162, .int .i64 t163] (0, 0) _ rfl (by (with_reducible repeat (first | refine blk_drewN ?_ _ | refine blk_drew ?_ | refine blk_alloc ?_ _)); refine blk_put (cs := #[.int .i64 t162, .int .i64 0]) ?_ 1 _ rfl; (with_reducible repeat (first | refine blk_drewN ?_ _ | refine blk_drew ?_ | refine blk_alloc ?_ _)); refine blk_put (cs := #[.int .i64 0, .int .i64 0]) ?_ 0 _ rfl; (with_reducible repeat (first | refine blk_drewN ?_ _ | refine blk_drew ?_ | refine blk_alloc ?_ _)); exact BK135.out) Try.underlying40 rfl (by kernel_rfl)) rfl ?_
                    exact ⟨by first | rfl | (simp [errW_none, errW_some] <;> rfl) | (simp [*, errW_none, errW_some] <;> rfl), hz3 HB.out GE133.out GE134.out GE135.out⟩
                  ·replace c98 := Bool.eq_false_iff.mpr c98
                   subst c98
                   have H1 : (if a0 = 5 then ((spec_l9Gcd.f kj95 a2_0 a2_1).bind fun t164 => ((spec_l9Gcd.f kj95 a1_0 t164).bind fun t165 => (if t165 = 0 then ((spec_l9All.f).bind fun bt166 => (some (bt166.1, bt166.2))) else ((spec_l9Make.f kj95 t165 a1_1).bind fun bt168 => (some (bt168.1, bt168.2)))))) else ((spec_l9All.f).bind fun bt170 => (some (bt170.1, bt170.2)))) = some (r1, r2) := by rw [if_neg (show ¬ (false = true) by decide)] at H; exact H
                   clear H
                   have H := H1
                   clear H1
                   by_cases c113 : a0 = 5
                   ·rw [if_pos c113] at H
                    have c113b0 : (a0 == 5) = true := beq_iff_eq.mpr c113
                    have c113b1 : (a0 != 5) = false := bne_eq_false_iff_eq.mpr c113
                    clear c113
                    replace H := Option.bind_eq_some_iff.mp H
                    obtain ⟨t164, A1140, H⟩ := H
                    replace H : ((spec_l9Gcd.f kj95 a1_0 t164).bind fun t165 => (if t165 = 0 then ((spec_l9All.f).bind fun bt166 => (some (bt166.1, bt166.2))) else ((spec_l9Make.f kj95 t165 a1_1).bind fun bt168 => (some (bt168.1, bt168.2))))) = some (r1, r2) := H
                    have A114 := Aside0.mk A1140
                    clear A1140
                    replace H := Option.bind_eq_some_iff.mp H
                    obtain ⟨t165, A1150, H⟩ := H
                    replace H : (if t165 = 0 then ((spec_l9All.f).bind fun bt166 => (some (bt166.1, bt166.2))) else ((spec_l9Make.f kj95 t165 a1_1).bind fun bt168 => (some (bt168.1, bt168.2)))) = some (r1, r2) := H
                    have A115 := Aside0.mk A1150
                    clear A1150
                    by_cases c116 : t165 = 0
                    ·rw [if_pos c116] at H
                     have c116b0 : (t165 == 0) = true := beq_iff_eq.mpr c116
                     have c116b1 : (t165 != 0) = false := bne_eq_false_iff_eq.mpr c116
                     clear c116
                     replace H := Option.bind_eq_some_iff.mp H
                     obtain ⟨⟨t166, t167⟩, A1170, H⟩ := H
                     replace H : (some (t166, t167)) = some (r1, r2) := H
                     have A117 := Aside0.mk A1170
                     clear A1170
                     simp only [Option.some.injEq, Prod.mk.injEq] at H
                     obtain ⟨rfl, rfl⟩ := H
                     try go_wp2
                     have n0_ := Aside0.mk (blk_drew BK133.out)
                     have n1_ := Aside0.mk (blk_drew BK134.out)
                     have n2_ := Aside0.mk (blk_drew BK135.out)
                     have n3_ := Aside0.mk (below_drew1 HB.out)
                     clear BK133
                     clear BK134
                     clear BK135
                     clear HB
                     have BK133 := n0_
                     have BK134 := n1_
                     have BK135 := n2_
                     have HB := n3_
                     clear n0_ n1_ n2_ n3_
                     refine start_ (n := 9) (S := fun w' => w'.cell? ⟨gb133, 0, none⟩ = some (.int .i64 a1_0) ∧ w'.cell? ⟨gb133, 1, none⟩ = some (.int .i64 a1_1) ∧ w'.cell? ⟨gb134, 0, none⟩ = some (.int .i64 a2_0) ∧ w'.cell? ⟨gb134, 1, none⟩ = some (.int .i64 a2_1)) (ds := []) #[false, false, false, false, false, false, false, false, false] (by kernel_rfl) rfl rfl ⟨(blk_cell BK133.out 0).trans rfl, (blk_cell BK133.out 1).trans rfl, (blk_cell BK134.out 0).trans rfl, (blk_cell BK134.out 1).trans rfl⟩ (fun hHeld => ?_); refine with_tabW spec_RestDo.tab21 spec_RestDo.bits21 (fun HT_ HW_ => ?_)
                     generalize wc.drew = w118 at BK133 BK134 BK135 HB hHeld ⊢
                     refine pure_ (i := 0) (N := some 150) (v := ?_) (a' := ?_) #[true, false, false, false, false, false, false, false, false] rfl rfl (any_of HT_.out (by kernel_rfl)) (fun _ _ _ h => h) (Or.inl ⟨by rfl, ?_⟩) ?_ ?_
                     rotate_left
                     ·intro w'
                      go_simp
                      with_reducible rfl
                     rotate_left
                     ·exact pz
                     refine pure_ (i := 2) (N := some 152) (v := ?_) (a' := ?_) #[true, false, true, false, false, false, false, false, false] rfl rfl (any_of HT_.out (by kernel_rfl)) (fun _ _ _ h => h) (Or.inl ⟨by rfl, ?_⟩) ?_ ?_
                     rotate_left
                     ·intro w'
                      go_simp
                      with_reducible rfl
                     rotate_left
                     ·exact pz
                     refine pure_ (i := 4) (N := some 154) (v := ?_) (a' := ?_) #[true, false, true, false, true, false, false, false, false] rfl rfl (any_of HT_.out (by kernel_rfl)) (fun _ _ _ h => h) (Or.inl ⟨by rfl, ?_⟩) ?_ ?_
                     rotate_left
                     ·intro w'
                      go_simp
                      with_reducible rfl
                     rotate_left
                     ·exact pz
                     refine take_ (i := 1) (N := some 151) (v := ?_) (a' := ?_) #[true, true, true, false, true, false, false, false, false] rfl rfl (take_ofW HT_.out HW_.out (by kernel_rfl)) (fun _ _ _ h => h) (Or.inl ⟨by rfl, ?_⟩) hHeld ?_ ?_
                     rotate_left
                     ·rintro w' ⟨s0, s1, s2, s3⟩
                      go_simp
                      with_reducible rfl
                     rotate_left
                     ·exact pz
                     refine take_ (i := 3) (N := some 153) (v := ?_) (a' := ?_) #[true, true, true, true, true, false, false, false, false] rfl rfl (take_ofW HT_.out HW_.out (by kernel_rfl)) (fun _ _ _ h => h) (Or.inl ⟨by rfl, ?_⟩) hHeld ?_ ?_
                     rotate_left
                     ·rintro w' ⟨s0, s1, s2, s3⟩
                      go_simp
                      with_reducible rfl
                     rotate_left
                     ·exact pz
                     refine take_ (i := 5) (N := some 155) (v := ?_) (a' := ?_) #[true, true, true, true, true, true, false, false, false] rfl rfl (take_ofW HT_.out HW_.out (by kernel_rfl)) (fun _ _ _ h => h) (Or.inl ⟨by rfl, ?_⟩) hHeld ?_ ?_
                     rotate_left
                     ·rintro w' ⟨s0, s1, s2, s3⟩
                      go_simp
                      with_reducible rfl
                     rotate_left
                     ·exact pz
                     refine one_ (i := 6) (N := some 156) #[true, true, true, true, true, true, true, false, false] rfl rfl (one_of HT_.out (by kernel_rfl)) (by decide) (fun K hK => ?_)
                     refine goes_ Try.func69 (by kernel_rfl) rfl #[.int .i64 a2_0, .int .i64 a2_1] (by rfl) rfl rfl mz ?_
                     with_reducible refine (spec_l9Gcd.calls kj95 a2_0 a2_1 t164 _ A114.out).mono ?_
                     rintro e w' ⟨rfl, ⟨nd, rfl⟩⟩
                     refine ⟨_, rfl, ?_⟩
                     refine hK.out _ _ ⟨(blk_cell BK133.out 0).trans rfl, (blk_cell BK133.out 1).trans rfl, (blk_cell BK134.out 0).trans rfl, (blk_cell BK134.out 1).trans rfl⟩ (fun hHeld => ?_)
                     clear hK K
                     refine norm_ (a' := ?_) ?_ ?_
                     rotate_left
                     ·show Act.put _ (some 156) _ = _
                      simp only [Act.put, List.setIfInBounds_toArray, List.set_cons_zero, List.set_cons_succ, i64_w, i32_w]
                      rfl
                     refine one_ (i := 7) (N := some 157) #[true, true, true, true, true, true, true, true, false] rfl rfl (one_of HT_.out (by kernel_rfl)) (by decide) (fun K hK => ?_)
                     refine goes_ Try.func69 (by kernel_rfl) rfl #[.int .i64 a1_0, .int .i64 t164] (by rfl) rfl rfl mz ?_
                     with_reducible refine (spec_l9Gcd.calls kj95 a1_0 t164 t165 _ A115.out).mono ?_
                     rintro e w' ⟨rfl, ⟨nd, rfl⟩⟩
                     refine ⟨_, rfl, ?_⟩
                     refine hK.out _ _ ⟨(blk_cell BK133.out 0).trans rfl, (blk_cell BK133.out 1).trans rfl, (blk_cell BK134.out 0).trans rfl, (blk_cell BK134.out 1).trans rfl⟩ (fun hHeld => ?_)
                     clear hK K
                     refine norm_ (a' := ?_) ?_ ?_
                     rotate_left
                     ·show Act.put _ (some 157) _ = _
                      simp only [Act.put, List.setIfInBounds_toArray, List.set_cons_zero, List.set_cons_succ, i64_w, i32_w]
                      rfl
                     refine pure_ (i := 8) (N := some 11) (v := ?_) (a' := ?_) #[true, true, true, true, true, true, true, true, true] rfl rfl (any_of HT_.out (by kernel_rfl)) (fun _ _ _ h => h) (Or.inl ⟨by rfl, ?_⟩) ?_ ?_
                     rotate_left
                     ·intro w'
                      go_simp
                      with_reducible rfl
                     rotate_left
                     ·exact pz
                     refine done_ (done_of HT_.out (by kernel_rfl)) ?_
                     try go_wp2_with (first | ((with_reducible refine gate_callee (f := 67) rfl ?_); refine goesL_ (some 160) rfl rfl Try.func67 (by kernel_rfl) rfl #[] rfl mz ?_; (with_reducible refine (spec_l9All.calls  t166 t167 _ A117.out).mono ?_); rintro e w119 ⟨rfl, hb⟩; refine ⟨_, rfl, ?_⟩; have n0_ := Aside0.mk (blk_below (g := gb133) (o := .cells #[.int .i64 a1_0, .int .i64 a1_1] 40 (0, 0)) (bz BK133.out) hb); have n1_ := Aside0.mk (blk_below (g := gb134) (o := .cells #[.int .i64 a2_0, .int .i64 a2_1] 40 (0, 0)) (bz BK134.out) hb); have n2_ := Aside0.mk (blk_below (g := gb135) (o := .cells #[.int .i64 0, .int .i64 0] 40 (0, 0)) (bz BK135.out) hb); have n3_ := Aside0.mk (below_step (hz3 HB.out GE133.out GE134.out GE135.out) hb); clear BK133; clear BK134; clear BK135; clear HB; have BK133 := n0_; have BK134 := n1_; have BK135 := n2_; have HB := n3_; clear n0_ n1_ n2_ n3_; (try clear hb); (try clear hb2); (try clear hk); (try clear hi); have hnb120 := NB135_133.out; have hnc120 := NB133_135.out; have hnb121 := NB135_134.out; have hnc121 := NB134_135.out; have hcz122_0 : w119.cell? ⟨gb135, 0, none⟩ = some (.int .i64 0) := (blk_cell BK135.out 0).trans rfl; have hcz122_1 : w119.cell? ⟨gb135, 1, none⟩ = some (.int .i64 0) := (blk_cell BK135.out 1).trans rfl; have hfz122_0 := blk_frozen BK135.out 0; have hfz122_1 := blk_frozen BK135.out 1))
                     refine bodyPost_ret (results_cell_row rfl _ _ gb135 40 #[.int .i64 t166, .int .i64 t167] (0, 0) _ rfl (by (with_reducible repeat (first | refine blk_drewN ?_ _ | refine blk_drew ?_ | refine blk_alloc ?_ _)); refine blk_put (cs := #[.int .i64 t166, .int .i64 0]) ?_ 1 _ rfl; (with_reducible repeat (first | refine blk_drewN ?_ _ | refine blk_drew ?_ | refine blk_alloc ?_ _)); refine blk_put (cs := #[.int .i64 0, .int .i64 0]) ?_ 0 _ rfl; (with_reducible repeat (first | refine blk_drewN ?_ _ | refine blk_drew ?_ | refine blk_alloc ?_ _)); exact BK135.out) Try.underlying40 rfl (by kernel_rfl)) rfl ?_
                     exact ⟨by first | rfl | (simp [errW_none, errW_some] <;> rfl) | (simp [*, errW_none, errW_some] <;> rfl), hz3 HB.out GE133.out GE134.out GE135.out⟩
                    ·rw [if_neg c116] at H
                     have c116b0 : (t165 == 0) = false := beq_eq_false_iff_ne.mpr c116
                     have c116b1 : (t165 != 0) = true := bne_iff_ne.mpr c116
                     replace H := Option.bind_eq_some_iff.mp H
                     obtain ⟨⟨t168, t169⟩, A1230, H⟩ := H
                     replace H : (some (t168, t169)) = some (r1, r2) := H
                     have A123 := Aside0.mk A1230
                     clear A1230
                     simp only [Option.some.injEq, Prod.mk.injEq] at H
                     obtain ⟨rfl, rfl⟩ := H
                     try go_wp2
                     have n0_ := Aside0.mk (blk_drew BK133.out)
                     have n1_ := Aside0.mk (blk_drew BK134.out)
                     have n2_ := Aside0.mk (blk_drew BK135.out)
                     have n3_ := Aside0.mk (below_drew1 HB.out)
                     clear BK133
                     clear BK134
                     clear BK135
                     clear HB
                     have BK133 := n0_
                     have BK134 := n1_
                     have BK135 := n2_
                     have HB := n3_
                     clear n0_ n1_ n2_ n3_
                     refine start_ (n := 9) (S := fun w' => w'.cell? ⟨gb133, 0, none⟩ = some (.int .i64 a1_0) ∧ w'.cell? ⟨gb133, 1, none⟩ = some (.int .i64 a1_1) ∧ w'.cell? ⟨gb134, 0, none⟩ = some (.int .i64 a2_0) ∧ w'.cell? ⟨gb134, 1, none⟩ = some (.int .i64 a2_1)) (ds := []) #[false, false, false, false, false, false, false, false, false] (by kernel_rfl) rfl rfl ⟨(blk_cell BK133.out 0).trans rfl, (blk_cell BK133.out 1).trans rfl, (blk_cell BK134.out 0).trans rfl, (blk_cell BK134.out 1).trans rfl⟩ (fun hHeld => ?_); refine with_tabW spec_RestDo.tab21 spec_RestDo.bits21 (fun HT_ HW_ => ?_)
                     generalize wc.drew = w124 at BK133 BK134 BK135 HB hHeld ⊢
                     refine pure_ (i := 0) (N := some 150) (v := ?_) (a' := ?_) #[true, false, false, false, false, false, false, false, false] rfl rfl (any_of HT_.out (by kernel_rfl)) (fun _ _ _ h => h) (Or.inl ⟨by rfl, ?_⟩) ?_ ?_
                     rotate_left
                     ·intro w'
                      go_simp
                      with_reducible rfl
                     rotate_left
                     ·exact pz
                     refine pure_ (i := 2) (N := some 152) (v := ?_) (a' := ?_) #[true, false, true, false, false, false, false, false, false] rfl rfl (any_of HT_.out (by kernel_rfl)) (fun _ _ _ h => h) (Or.inl ⟨by rfl, ?_⟩) ?_ ?_
                     rotate_left
                     ·intro w'
                      go_simp
                      with_reducible rfl
                     rotate_left
                     ·exact pz
                     refine pure_ (i := 4) (N := some 154) (v := ?_) (a' := ?_) #[true, false, true, false, true, false, false, false, false] rfl rfl (any_of HT_.out (by kernel_rfl)) (fun _ _ _ h => h) (Or.inl ⟨by rfl, ?_⟩) ?_ ?_
                     rotate_left
                     ·intro w'
                      go_simp
                      with_reducible rfl
                     rotate_left
                     ·exact pz
                     refine take_ (i := 1) (N := some 151) (v := ?_) (a' := ?_) #[true, true, true, false, true, false, false, false, false] rfl rfl (take_ofW HT_.out HW_.out (by kernel_rfl)) (fun _ _ _ h => h) (Or.inl ⟨by rfl, ?_⟩) hHeld ?_ ?_
                     rotate_left
                     ·rintro w' ⟨s0, s1, s2, s3⟩
                      go_simp
                      with_reducible rfl
                     rotate_left
                     ·exact pz
                     refine take_ (i := 3) (N := some 153) (v := ?_) (a' := ?_) #[true, true, true, true, true, false, false, false, false] rfl rfl (take_ofW HT_.out HW_.out (by kernel_rfl)) (fun _ _ _ h => h) (Or.inl ⟨by rfl, ?_⟩) hHeld ?_ ?_
                     rotate_left
                     ·rintro w' ⟨s0, s1, s2, s3⟩
                      go_simp
                      with_reducible rfl
                     rotate_left
                     ·exact pz
                     refine take_ (i := 5) (N := some 155) (v := ?_) (a' := ?_) #[true, true, true, true, true, true, false, false, false] rfl rfl (take_ofW HT_.out HW_.out (by kernel_rfl)) (fun _ _ _ h => h) (Or.inl ⟨by rfl, ?_⟩) hHeld ?_ ?_
                     rotate_left
                     ·rintro w' ⟨s0, s1, s2, s3⟩
                      go_simp
                      with_reducible rfl
                     rotate_left
                     ·exact pz
                     refine one_ (i := 6) (N := some 156) #[true, true, true, true, true, true, true, false, false] rfl rfl (one_of HT_.out (by kernel_rfl)) (by decide) (fun K hK => ?_)
                     refine goes_ Try.func69 (by kernel_rfl) rfl #[.int .i64 a2_0, .int .i64 a2_1] (by rfl) rfl rfl mz ?_
                     with_reducible refine (spec_l9Gcd.calls kj95 a2_0 a2_1 t164 _ A114.out).mono ?_
                     rintro e w' ⟨rfl, ⟨nd, rfl⟩⟩
                     refine ⟨_, rfl, ?_⟩
                     refine hK.out _ _ ⟨(blk_cell BK133.out 0).trans rfl, (blk_cell BK133.out 1).trans rfl, (blk_cell BK134.out 0).trans rfl, (blk_cell BK134.out 1).trans rfl⟩ (fun hHeld => ?_)
                     clear hK K
                     refine norm_ (a' := ?_) ?_ ?_
                     rotate_left
                     ·show Act.put _ (some 156) _ = _
                      simp only [Act.put, List.setIfInBounds_toArray, List.set_cons_zero, List.set_cons_succ, i64_w, i32_w]
                      rfl
                     refine one_ (i := 7) (N := some 157) #[true, true, true, true, true, true, true, true, false] rfl rfl (one_of HT_.out (by kernel_rfl)) (by decide) (fun K hK => ?_)
                     refine goes_ Try.func69 (by kernel_rfl) rfl #[.int .i64 a1_0, .int .i64 t164] (by rfl) rfl rfl mz ?_
                     with_reducible refine (spec_l9Gcd.calls kj95 a1_0 t164 t165 _ A115.out).mono ?_
                     rintro e w' ⟨rfl, ⟨nd, rfl⟩⟩
                     refine ⟨_, rfl, ?_⟩
                     refine hK.out _ _ ⟨(blk_cell BK133.out 0).trans rfl, (blk_cell BK133.out 1).trans rfl, (blk_cell BK134.out 0).trans rfl, (blk_cell BK134.out 1).trans rfl⟩ (fun hHeld => ?_)
                     clear hK K
                     refine norm_ (a' := ?_) ?_ ?_
                     rotate_left
                     ·show Act.put _ (some 157) _ = _
                      simp only [Act.put, List.setIfInBounds_toArray, List.set_cons_zero, List.set_cons_succ, i64_w, i32_w]
                      rfl
                     refine pure_ (i := 8) (N := some 11) (v := ?_) (a' := ?_) #[true, true, true, true, true, true, true, true, true] rfl rfl (any_of HT_.out (by kernel_rfl)) (fun _ _ _ h => h) (Or.inl ⟨by rfl, ?_⟩) ?_ ?_
                     rotate_left
                     ·intro w'
                      go_simp
                      with_reducible rfl
                     rotate_left
                     ·exact pz
                     refine done_ (done_of HT_.out (by kernel_rfl)) ?_
                     have hnb125 := NB133_134.out
                     have hnc125 := NB134_133.out
                     have hnb126 := NB133_135.out
                     have hnc126 := NB135_133.out
                     have hcz127_0 : w124.cell? ⟨gb133, 0, none⟩ = some (.int .i64 a1_0) := (blk_cell BK133.out 0).trans rfl
                     have hcz127_1 : w124.cell? ⟨gb133, 1, none⟩ = some (.int .i64 a1_1) := (blk_cell BK133.out 1).trans rfl
                     have hfz127_0 := blk_frozen BK133.out 0
                     have hfz127_1 := blk_frozen BK133.out 1
                     try go_wp2_with (first | ((with_reducible refine gate_callee (f := 68) rfl ?_); refine goesL_ (some 164) rfl rfl Try.func68 (by kernel_rfl) rfl #[.int .i64 t165, .int .i64 a1_1] rfl mz ?_; (with_reducible refine (spec_l9Make.calls kj95 t165 a1_1 t168 t169 _ A123.out).mono ?_); rintro e w128 ⟨rfl, hb⟩; refine ⟨_, rfl, ?_⟩; have n0_ := Aside0.mk (blk_below (g := gb133) (o := .cells #[.int .i64 a1_0, .int .i64 a1_1] 40 (0, 0)) (bz BK133.out) hb); have n1_ := Aside0.mk (blk_below (g := gb134) (o := .cells #[.int .i64 a2_0, .int .i64 a2_1] 40 (0, 0)) (bz BK134.out) hb); have n2_ := Aside0.mk (blk_below (g := gb135) (o := .cells #[.int .i64 0, .int .i64 0] 40 (0, 0)) (bz BK135.out) hb); have n3_ := Aside0.mk (below_step (hz3 HB.out GE133.out GE134.out GE135.out) hb); clear BK133; clear BK134; clear BK135; clear HB; have BK133 := n0_; have BK134 := n1_; have BK135 := n2_; have HB := n3_; clear n0_ n1_ n2_ n3_; (try clear hb); (try clear hb2); (try clear hk); (try clear hi); have hnb129 := NB135_134.out; have hnc129 := NB134_135.out; have hcz130_0 : w128.cell? ⟨gb135, 0, none⟩ = some (.int .i64 0) := (blk_cell BK135.out 0).trans rfl; have hcz130_1 : w128.cell? ⟨gb135, 1, none⟩ = some (.int .i64 0) := (blk_cell BK135.out 1).trans rfl; have hfz130_0 := blk_frozen BK135.out 0; have hfz130_1 := blk_frozen BK135.out 1))
                     refine bodyPost_ret (results_cell_row rfl _ _ gb135 40 #[.int .i64 t168, .int .i64 t169] (0, 0) _ rfl (by (with_reducible repeat (first | refine blk_drewN ?_ _ | refine blk_drew ?_ | refine blk_alloc ?_ _)); refine blk_put (cs := #[.int .i64 t168, .int .i64 0]) ?_ 1 _ rfl; (with_reducible repeat (first | refine blk_drewN ?_ _ | refine blk_drew ?_ | refine blk_alloc ?_ _)); refine blk_put (cs := #[.int .i64 0, .int .i64 0]) ?_ 0 _ rfl; (with_reducible repeat (first | refine blk_drewN ?_ _ | refine blk_drew ?_ | refine blk_alloc ?_ _)); exact BK135.out) Try.underlying40 rfl (by kernel_rfl)) rfl ?_
                     exact ⟨by first | rfl | (simp [errW_none, errW_some] <;> rfl) | (simp [*, errW_none, errW_some] <;> rfl), hz3 HB.out GE133.out GE134.out GE135.out⟩
                   ·rw [if_neg c113] at H
                    have c113b0 : (a0 == 5) = false := beq_eq_false_iff_ne.mpr c113
                    have c113b1 : (a0 != 5) = true := bne_iff_ne.mpr c113
                    replace H := Option.bind_eq_some_iff.mp H
                    obtain ⟨⟨t170, t171⟩, A1310, H⟩ := H
                    replace H : (some (t170, t171)) = some (r1, r2) := H
                    have A131 := Aside0.mk A1310
                    clear A1310
                    simp only [Option.some.injEq, Prod.mk.injEq] at H
                    obtain ⟨rfl, rfl⟩ := H
                    go_wp2_with (first | ((with_reducible refine gate_callee (f := 67) rfl ?_); refine goesL_ (some 165) rfl rfl Try.func67 (by kernel_rfl) rfl #[] rfl mz ?_; (with_reducible refine (spec_l9All.calls  t170 t171 _ A131.out).mono ?_); rintro e w132 ⟨rfl, hb⟩; refine ⟨_, rfl, ?_⟩; have n0_ := Aside0.mk (blk_below (g := gb133) (o := .cells #[.int .i64 a1_0, .int .i64 a1_1] 40 (0, 0)) (bz BK133.out) hb); have n1_ := Aside0.mk (blk_below (g := gb134) (o := .cells #[.int .i64 a2_0, .int .i64 a2_1] 40 (0, 0)) (bz BK134.out) hb); have n2_ := Aside0.mk (blk_below (g := gb135) (o := .cells #[.int .i64 0, .int .i64 0] 40 (0, 0)) (bz BK135.out) hb); have n3_ := Aside0.mk (below_step (hz3 HB.out GE133.out GE134.out GE135.out) hb); clear BK133; clear BK134; clear BK135; clear HB; have BK133 := n0_; have BK134 := n1_; have BK135 := n2_; have HB := n3_; clear n0_ n1_ n2_ n3_; (try clear hb); (try clear hb2); (try clear hk); (try clear hi); have hnb133 := NB135_133.out; have hnc133 := NB133_135.out; have hnb134 := NB135_134.out; have hnc134 := NB134_135.out; have hcz135_0 : w132.cell? ⟨gb135, 0, none⟩ = some (.int .i64 0) := (blk_cell BK135.out 0).trans rfl; have hcz135_1 : w132.cell? ⟨gb135, 1, none⟩ = some (.int .i64 0) := (blk_cell BK135.out 1).trans rfl; have hfz135_0 := blk_frozen BK135.out 0; have hfz135_1 := blk_frozen BK135.out 1))
                    refine bodyPost_ret (results_cell_row rfl _ _ gb135 40 #[.int .i64 t170, .int .i64 t171] (0, 0) _ rfl (by (with_reducible repeat (first | refine blk_drewN ?_ _ | refine blk_drew ?_ | refine blk_alloc ?_ _)); refine blk_put (cs := #[.int .i64 t170, .int .i64 0]) ?_ 1 _ rfl; (with_reducible repeat (first | refine blk_drewN ?_ _ | refine blk_drew ?_ | refine blk_alloc ?_ _)); refine blk_put (cs := #[.int .i64 0, .int .i64 0]) ?_ 0 _ rfl; (with_reducible repeat (first | refine blk_drewN ?_ _ | refine blk_drew ?_ | refine blk_alloc ?_ _)); exact BK135.out) Try.underlying40 rfl (by kernel_rfl)) rfl ?_
                    exact ⟨by first | rfl | (simp [errW_none, errW_some] <;> rfl) | (simp [*, errW_none, errW_some] <;> rfl), hz3 HB.out GE133.out GE134.out GE135.out⟩

end Go.Proofs.Ytlipfemjlicbbaa.PFnExactRestDo
