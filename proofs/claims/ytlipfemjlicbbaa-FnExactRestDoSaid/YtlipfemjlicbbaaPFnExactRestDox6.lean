/- Written by this session's own driver (wip/dprint.py): the functions that the law FnExactRestDo reaches, as Lean functions, each with its contract. -/
import Derived.Test.YtlipfemjlicbbaaPFnExactRestDox0
import Derived.Test.YtlipfemjlicbbaaPFnExactRestDox4
import Derived.Test.YtlipfemjlicbbaaPFnExactRestDox5
import Derived.Test.YtlipfemjlicbbaaSq
namespace Go.Proofs.Ytlipfemjlicbbaa.PFnExactRestDo
open Go.RowKit Go.Proofs.YtlipfemjlicbbaaW.PrintWords Go.Proofs.YtlipfemjlicbbaaW.PrintLast Go.Proofs.YtlipfemjlicbbaaW.PrintMore Go.Proofs.YtlipfemjlicbbaaSq
attribute [local go_sem] max2_int min2_int max_two min_two max_three min_three max_four min_four   -- for this text's walks alone
set_option linter.unusedVariables false
set_option linter.unusedSimpArgs false

/-! ### impl_RestDo: function 40 -/
mutual
def impl_RestDo.j0 : Nat → Int → Bool → Int → Int → Int → Int → Option (Int × Int)
 | 0, _, _, _, _, _, _ => none
 | k + 1, x0, x25, x190000, x190001, x191000, x191001 => if x25 = true then ((impl_restAll.f).bind fun bt195 => (some (bt195.1, bt195.2))) else (if x190000 = 0 then (impl_RestDo.j1 k x0 (x191000 == 0) x190000 x190001 x191000 x191001) else (impl_RestDo.j1 k x0 false x190000 x190001 x191000 x191001))
def impl_RestDo.j1 : Nat → Int → Bool → Int → Int → Int → Int → Option (Int × Int)
 | 0, _, _, _, _, _, _ => none
 | k + 1, x0, x34, x190000, x190001, x191000, x191001 => if x34 = true then ((impl_NumDo.f k x0 x190001 x191001).bind fun bt197 => (if bt197.2 = 0 then (some (0, bt197.1)) else ((impl_restAll.f).bind fun bt199 => (some (bt199.1, bt199.2))))) else (if x0 = 11 then (impl_RestDo.j2 k x0 4294967296 x190000 x190001 x191000 x191001) else (if x0 = 12 then (impl_RestDo.j2 k x0 4294967296 x190000 x190001 x191000 x191001) else (if x0 = 13 then (impl_RestDo.j2 k x0 4294967296 x190000 x190001 x191000 x191001) else (impl_RestDo.j2 k x0 0 x190000 x190001 x191000 x191001))))
def impl_RestDo.j2 : Nat → Int → Int → Int → Int → Int → Int → Option (Int × Int)
 | 0, _, _, _, _, _, _ => none
 | k + 1, x0, x9, x190000, x190001, x191000, x191001 => if x0 = 1 then (impl_RestDo.j3 k x9 x0 (x0 == 1) x190000 x190001 x191000 x191001) else (impl_RestDo.j3 k x9 x0 (x0 == 11) x190000 x190001 x191000 x191001)
def impl_RestDo.j3 : Nat → Int → Int → Bool → Int → Int → Int → Int → Option (Int × Int)
 | 0, _, _, _, _, _, _, _ => none
 | k + 1, x9, x54, x55, x190000, x190001, x191000, x191001 => if x55 = true then ((impl_restGcd.f k (([x190000, x191000, x9] : List Int))).bind fun t204 => ((impl_restOf.f k (wrap64 (x190001 + x191001)) t204).bind fun bt205 => (some (bt205.1, bt205.2)))) else (if x54 = 2 then (impl_RestDo.j4 k x9 x54 (x54 == 2) x190000 x190001 x191000 x191001) else (impl_RestDo.j4 k x9 x54 (x54 == 12) x190000 x190001 x191000 x191001))
def impl_RestDo.j4 : Nat → Int → Int → Bool → Int → Int → Int → Int → Option (Int × Int)
 | 0, _, _, _, _, _, _, _ => none
 | k + 1, x9, x54, x71, x190000, x190001, x191000, x191001 => if x71 = true then ((impl_restGcd.f k (([x190000, x191000, x9] : List Int))).bind fun t210 => ((impl_restOf.f k (wrap64 (x190001 - x191001)) t210).bind fun bt211 => (some (bt211.1, bt211.2)))) else (if x54 = 3 then (impl_RestDo.j5 k x9 x54 (x54 == 3) x190000 x190001 x191000 x191001) else (impl_RestDo.j5 k x9 x54 (x54 == 13) x190000 x190001 x191000 x191001))
def impl_RestDo.j5 : Nat → Int → Int → Bool → Int → Int → Int → Int → Option (Int × Int)
 | 0, _, _, _, _, _, _, _ => none
 | k + 1, x9, x54, x87, x190000, x190001, x191000, x191001 => if x87 = true then ((impl_restGcd.f k (([wrap64 (x190000 * x191000), wrap64 (x190000 * x191001), wrap64 (x191000 * x190001)] : List Int))).bind fun t216 => (if t216 = 0 then (some (0, 0)) else ((impl_restGcd.f k (([t216, x9] : List Int))).bind fun t220 => ((impl_restOf.f k (wrap64 (x190001 * x191001)) t220).bind fun bt221 => (some (bt221.1, bt221.2)))))) else (if x54 = 9 then (if x191000 = 0 then (if x191001 ≥ 0 then (impl_RestDo.j6 k (decide (x191001 ≤ 31)) x190000 x190001 x191000 x191001) else (impl_RestDo.j6 k false x190000 x190001 x191000 x191001)) else (impl_RestDo.j6 k false x190000 x190001 x191000 x191001)) else (if x54 = 5 then ((impl_restGcd.f k (([x190000, x191000, x191001] : List Int))).bind fun t230 => (if t230 = 0 then ((impl_restAll.f).bind fun bt231 => (some (bt231.1, bt231.2))) else ((impl_restOf.f k x190001 t230).bind fun bt233 => (some (bt233.1, bt233.2))))) else ((impl_restAll.f).bind fun bt235 => (some (bt235.1, bt235.2)))))
def impl_RestDo.j6 : Nat → Bool → Int → Int → Int → Int → Option (Int × Int)
 | 0, _, _, _, _, _ => none
 | k + 1, x134, x190000, x190001, x191000, x191001 => if x134 = true then (if 0 ≤ (IntKind.u64.wrap (x191001)) then ((impl_restOf.f k (wrap64 (x190001 * (shl .i64 1 (IntKind.u64.wrap (x191001))))) (wrap64 (x190000 * (shl .i64 1 (IntKind.u64.wrap (x191001)))))).bind fun bt223 => (some (bt223.1, bt223.2))) else (none)) else ((impl_restAll.f).bind fun bt225 => (some (bt225.1, bt225.2)))
end
def impl_RestDo.f (k : Nat) (a0 : Int) (a1_0 : Int) (a1_1 : Int) (a2_0 : Int) (a2_1 : Int) : Option (Int × Int) := (impl_numOp.f a0).bind fun t192 => (if t192 = true then ((impl_RestOk.f a1_0 a1_1).bind fun t193 => (if t193 = true then ((impl_RestOk.f a2_0 a2_1).bind fun t194 => (impl_RestDo.j0 k a0 (!t194) a1_0 a1_1 a2_0 a2_1)) else (impl_RestDo.j0 k a0 true a1_0 a1_1 a2_0 a2_1))) else (impl_RestDo.j0 k a0 true a1_0 a1_1 a2_0 a2_1))
theorem impl_RestDo.mono_l : ∀ k, (∀ y0 y1 y2 y3 y4 y5, LeO (impl_RestDo.j0 k y0 y1 y2 y3 y4 y5) (impl_RestDo.j0 (k + 1) y0 y1 y2 y3 y4 y5)) ∧ (∀ y0 y1 y2 y3 y4 y5, LeO (impl_RestDo.j1 k y0 y1 y2 y3 y4 y5) (impl_RestDo.j1 (k + 1) y0 y1 y2 y3 y4 y5)) ∧ (∀ y0 y1 y2 y3 y4 y5, LeO (impl_RestDo.j2 k y0 y1 y2 y3 y4 y5) (impl_RestDo.j2 (k + 1) y0 y1 y2 y3 y4 y5)) ∧ (∀ y0 y1 y2 y3 y4 y5 y6, LeO (impl_RestDo.j3 k y0 y1 y2 y3 y4 y5 y6) (impl_RestDo.j3 (k + 1) y0 y1 y2 y3 y4 y5 y6)) ∧ (∀ y0 y1 y2 y3 y4 y5 y6, LeO (impl_RestDo.j4 k y0 y1 y2 y3 y4 y5 y6) (impl_RestDo.j4 (k + 1) y0 y1 y2 y3 y4 y5 y6)) ∧ (∀ y0 y1 y2 y3 y4 y5 y6, LeO (impl_RestDo.j5 k y0 y1 y2 y3 y4 y5 y6) (impl_RestDo.j5 (k + 1) y0 y1 y2 y3 y4 y5 y6)) ∧ (∀ y0 y1 y2 y3 y4, LeO (impl_RestDo.j6 k y0 y1 y2 y3 y4) (impl_RestDo.j6 (k + 1) y0 y1 y2 y3 y4))
 | 0 => ⟨fun _ _ _ _ _ _ r h => by simp [impl_RestDo.j0] at h, fun _ _ _ _ _ _ r h => by simp [impl_RestDo.j1] at h, fun _ _ _ _ _ _ r h => by simp [impl_RestDo.j2] at h, fun _ _ _ _ _ _ _ r h => by simp [impl_RestDo.j3] at h, fun _ _ _ _ _ _ _ r h => by simp [impl_RestDo.j4] at h, fun _ _ _ _ _ _ _ r h => by simp [impl_RestDo.j5] at h, fun _ _ _ _ _ r h => by simp [impl_RestDo.j6] at h⟩
 | k + 1 => by
  obtain ⟨ih0, ih1, ih2, ih3, ih4, ih5, ih6⟩ := impl_RestDo.mono_l k
  refine ⟨?_, ?_, ?_, ?_, ?_, ?_, ?_⟩
  ·intro y0 y1 y2 y3 y4 y5
   unfold impl_RestDo.j0
   repeat' first
   | (with_reducible exact ih0 _ _ _ _ _ _)
   | (with_reducible exact ih1 _ _ _ _ _ _)
   | (with_reducible exact ih2 _ _ _ _ _ _)
   | (with_reducible exact ih3 _ _ _ _ _ _ _)
   | (with_reducible exact ih4 _ _ _ _ _ _ _)
   | (with_reducible exact ih5 _ _ _ _ _ _ _)
   | (with_reducible exact ih6 _ _ _ _ _)
   | (with_reducible exact impl_NumDo.mono _ _ _ _)
   | (with_reducible exact impl_restGcd.mono _ _)
   | (with_reducible exact impl_restOf.mono _ _ _)
   | (with_reducible exact LeO.refl _)
   | (with_reducible exact LeO.none _)
   | (with_reducible refine LeO.ite ?_ ?_)
   | (with_reducible refine LeO.bind ?_ (fun _ => ?_))
   | exact ih0 _ _ _ _ _ _
   | exact ih1 _ _ _ _ _ _
   | exact ih2 _ _ _ _ _ _
   | exact ih3 _ _ _ _ _ _ _
   | exact ih4 _ _ _ _ _ _ _
   | exact ih5 _ _ _ _ _ _ _
   | exact ih6 _ _ _ _ _
   | exact impl_NumDo.mono _ _ _ _
   | exact impl_restGcd.mono _ _
   | exact impl_restOf.mono _ _ _
   | exact LeO.none _
   | refine LeO.ite ?_ ?_
   | refine LeO.bind ?_ (fun _ => ?_)
  ·intro y0 y1 y2 y3 y4 y5
   unfold impl_RestDo.j1
   repeat' first
   | (with_reducible exact ih0 _ _ _ _ _ _)
   | (with_reducible exact ih1 _ _ _ _ _ _)
   | (with_reducible exact ih2 _ _ _ _ _ _)
   | (with_reducible exact ih3 _ _ _ _ _ _ _)
   | (with_reducible exact ih4 _ _ _ _ _ _ _)
   | (with_reducible exact ih5 _ _ _ _ _ _ _)
   | (with_reducible exact ih6 _ _ _ _ _)
   | (with_reducible exact impl_NumDo.mono _ _ _ _)
   | (with_reducible exact impl_restGcd.mono _ _)
   | (with_reducible exact impl_restOf.mono _ _ _)
   | (with_reducible exact LeO.refl _)
   | (with_reducible exact LeO.none _)
   | (with_reducible refine LeO.ite ?_ ?_)
   | (with_reducible refine LeO.bind ?_ (fun _ => ?_))
   | exact ih0 _ _ _ _ _ _
   | exact ih1 _ _ _ _ _ _
   | exact ih2 _ _ _ _ _ _
   | exact ih3 _ _ _ _ _ _ _
   | exact ih4 _ _ _ _ _ _ _
   | exact ih5 _ _ _ _ _ _ _
   | exact ih6 _ _ _ _ _
   | exact impl_NumDo.mono _ _ _ _
   | exact impl_restGcd.mono _ _
   | exact impl_restOf.mono _ _ _
   | exact LeO.none _
   | refine LeO.ite ?_ ?_
   | refine LeO.bind ?_ (fun _ => ?_)
  ·intro y0 y1 y2 y3 y4 y5
   unfold impl_RestDo.j2
   repeat' first
   | (with_reducible exact ih0 _ _ _ _ _ _)
   | (with_reducible exact ih1 _ _ _ _ _ _)
   | (with_reducible exact ih2 _ _ _ _ _ _)
   | (with_reducible exact ih3 _ _ _ _ _ _ _)
   | (with_reducible exact ih4 _ _ _ _ _ _ _)
   | (with_reducible exact ih5 _ _ _ _ _ _ _)
   | (with_reducible exact ih6 _ _ _ _ _)
   | (with_reducible exact impl_NumDo.mono _ _ _ _)
   | (with_reducible exact impl_restGcd.mono _ _)
   | (with_reducible exact impl_restOf.mono _ _ _)
   | (with_reducible exact LeO.refl _)
   | (with_reducible exact LeO.none _)
   | (with_reducible refine LeO.ite ?_ ?_)
   | (with_reducible refine LeO.bind ?_ (fun _ => ?_))
   | exact ih0 _ _ _ _ _ _
   | exact ih1 _ _ _ _ _ _
   | exact ih2 _ _ _ _ _ _
   | exact ih3 _ _ _ _ _ _ _
   | exact ih4 _ _ _ _ _ _ _
   | exact ih5 _ _ _ _ _ _ _
   | exact ih6 _ _ _ _ _
   | exact impl_NumDo.mono _ _ _ _
   | exact impl_restGcd.mono _ _
   | exact impl_restOf.mono _ _ _
   | exact LeO.none _
   | refine LeO.ite ?_ ?_
   | refine LeO.bind ?_ (fun _ => ?_)
  ·intro y0 y1 y2 y3 y4 y5 y6
   unfold impl_RestDo.j3
   repeat' first
   | (with_reducible exact ih0 _ _ _ _ _ _)
   | (with_reducible exact ih1 _ _ _ _ _ _)
   | (with_reducible exact ih2 _ _ _ _ _ _)
   | (with_reducible exact ih3 _ _ _ _ _ _ _)
   | (with_reducible exact ih4 _ _ _ _ _ _ _)
   | (with_reducible exact ih5 _ _ _ _ _ _ _)
   | (with_reducible exact ih6 _ _ _ _ _)
   | (with_reducible exact impl_NumDo.mono _ _ _ _)
   | (with_reducible exact impl_restGcd.mono _ _)
   | (with_reducible exact impl_restOf.mono _ _ _)
   | (with_reducible exact LeO.refl _)
   | (with_reducible exact LeO.none _)
   | (with_reducible refine LeO.ite ?_ ?_)
   | (with_reducible refine LeO.bind ?_ (fun _ => ?_))
   | exact ih0 _ _ _ _ _ _
   | exact ih1 _ _ _ _ _ _
   | exact ih2 _ _ _ _ _ _
   | exact ih3 _ _ _ _ _ _ _
   | exact ih4 _ _ _ _ _ _ _
   | exact ih5 _ _ _ _ _ _ _
   | exact ih6 _ _ _ _ _
   | exact impl_NumDo.mono _ _ _ _
   | exact impl_restGcd.mono _ _
   | exact impl_restOf.mono _ _ _
   | exact LeO.none _
   | refine LeO.ite ?_ ?_
   | refine LeO.bind ?_ (fun _ => ?_)
  ·intro y0 y1 y2 y3 y4 y5 y6
   unfold impl_RestDo.j4
   repeat' first
   | (with_reducible exact ih0 _ _ _ _ _ _)
   | (with_reducible exact ih1 _ _ _ _ _ _)
   | (with_reducible exact ih2 _ _ _ _ _ _)
   | (with_reducible exact ih3 _ _ _ _ _ _ _)
   | (with_reducible exact ih4 _ _ _ _ _ _ _)
   | (with_reducible exact ih5 _ _ _ _ _ _ _)
   | (with_reducible exact ih6 _ _ _ _ _)
   | (with_reducible exact impl_NumDo.mono _ _ _ _)
   | (with_reducible exact impl_restGcd.mono _ _)
   | (with_reducible exact impl_restOf.mono _ _ _)
   | (with_reducible exact LeO.refl _)
   | (with_reducible exact LeO.none _)
   | (with_reducible refine LeO.ite ?_ ?_)
   | (with_reducible refine LeO.bind ?_ (fun _ => ?_))
   | exact ih0 _ _ _ _ _ _
   | exact ih1 _ _ _ _ _ _
   | exact ih2 _ _ _ _ _ _
   | exact ih3 _ _ _ _ _ _ _
   | exact ih4 _ _ _ _ _ _ _
   | exact ih5 _ _ _ _ _ _ _
   | exact ih6 _ _ _ _ _
   | exact impl_NumDo.mono _ _ _ _
   | exact impl_restGcd.mono _ _
   | exact impl_restOf.mono _ _ _
   | exact LeO.none _
   | refine LeO.ite ?_ ?_
   | refine LeO.bind ?_ (fun _ => ?_)
  ·intro y0 y1 y2 y3 y4 y5 y6
   unfold impl_RestDo.j5
   repeat' first
   | (with_reducible exact ih0 _ _ _ _ _ _)
   | (with_reducible exact ih1 _ _ _ _ _ _)
   | (with_reducible exact ih2 _ _ _ _ _ _)
   | (with_reducible exact ih3 _ _ _ _ _ _ _)
   | (with_reducible exact ih4 _ _ _ _ _ _ _)
   | (with_reducible exact ih5 _ _ _ _ _ _ _)
   | (with_reducible exact ih6 _ _ _ _ _)
   | (with_reducible exact impl_NumDo.mono _ _ _ _)
   | (with_reducible exact impl_restGcd.mono _ _)
   | (with_reducible exact impl_restOf.mono _ _ _)
   | (with_reducible exact LeO.refl _)
   | (with_reducible exact LeO.none _)
   | (with_reducible refine LeO.ite ?_ ?_)
   | (with_reducible refine LeO.bind ?_ (fun _ => ?_))
   | exact ih0 _ _ _ _ _ _
   | exact ih1 _ _ _ _ _ _
   | exact ih2 _ _ _ _ _ _
   | exact ih3 _ _ _ _ _ _ _
   | exact ih4 _ _ _ _ _ _ _
   | exact ih5 _ _ _ _ _ _ _
   | exact ih6 _ _ _ _ _
   | exact impl_NumDo.mono _ _ _ _
   | exact impl_restGcd.mono _ _
   | exact impl_restOf.mono _ _ _
   | exact LeO.none _
   | refine LeO.ite ?_ ?_
   | refine LeO.bind ?_ (fun _ => ?_)
  ·intro y0 y1 y2 y3 y4
   unfold impl_RestDo.j6
   repeat' first
   | (with_reducible exact ih0 _ _ _ _ _ _)
   | (with_reducible exact ih1 _ _ _ _ _ _)
   | (with_reducible exact ih2 _ _ _ _ _ _)
   | (with_reducible exact ih3 _ _ _ _ _ _ _)
   | (with_reducible exact ih4 _ _ _ _ _ _ _)
   | (with_reducible exact ih5 _ _ _ _ _ _ _)
   | (with_reducible exact ih6 _ _ _ _ _)
   | (with_reducible exact impl_NumDo.mono _ _ _ _)
   | (with_reducible exact impl_restGcd.mono _ _)
   | (with_reducible exact impl_restOf.mono _ _ _)
   | (with_reducible exact LeO.refl _)
   | (with_reducible exact LeO.none _)
   | (with_reducible refine LeO.ite ?_ ?_)
   | (with_reducible refine LeO.bind ?_ (fun _ => ?_))
   | exact ih0 _ _ _ _ _ _
   | exact ih1 _ _ _ _ _ _
   | exact ih2 _ _ _ _ _ _
   | exact ih3 _ _ _ _ _ _ _
   | exact ih4 _ _ _ _ _ _ _
   | exact ih5 _ _ _ _ _ _ _
   | exact ih6 _ _ _ _ _
   | exact impl_NumDo.mono _ _ _ _
   | exact impl_restGcd.mono _ _
   | exact impl_restOf.mono _ _ _
   | exact LeO.none _
   | refine LeO.ite ?_ ?_
   | refine LeO.bind ?_ (fun _ => ?_)
theorem impl_RestDo.mono : ∀ a0 a1 a2 a3 a4 k, LeO (impl_RestDo.f k a0 a1 a2 a3 a4) (impl_RestDo.f (k + 1) a0 a1 a2 a3 a4) := by
 intro a0 a1 a2 a3 a4 k
 obtain ⟨ih0, ih1, ih2, ih3, ih4, ih5, ih6⟩ := impl_RestDo.mono_l k
 unfold impl_RestDo.f
 repeat' first
   | (with_reducible exact ih0 _ _ _ _ _ _)
   | (with_reducible exact ih1 _ _ _ _ _ _)
   | (with_reducible exact ih2 _ _ _ _ _ _)
   | (with_reducible exact ih3 _ _ _ _ _ _ _)
   | (with_reducible exact ih4 _ _ _ _ _ _ _)
   | (with_reducible exact ih5 _ _ _ _ _ _ _)
   | (with_reducible exact ih6 _ _ _ _ _)
   | (with_reducible exact impl_NumDo.mono _ _ _ _)
   | (with_reducible exact impl_restGcd.mono _ _)
   | (with_reducible exact impl_restOf.mono _ _ _)
   | (with_reducible exact LeO.refl _)
   | (with_reducible exact LeO.none _)
   | (with_reducible refine LeO.ite ?_ ?_)
   | (with_reducible refine LeO.bind ?_ (fun _ => ?_))
   | exact ih0 _ _ _ _ _ _
   | exact ih1 _ _ _ _ _ _
   | exact ih2 _ _ _ _ _ _
   | exact ih3 _ _ _ _ _ _ _
   | exact ih4 _ _ _ _ _ _ _
   | exact ih5 _ _ _ _ _ _ _
   | exact ih6 _ _ _ _ _
   | exact impl_NumDo.mono _ _ _ _
   | exact impl_restGcd.mono _ _
   | exact impl_restOf.mono _ _ _
   | exact LeO.none _
   | refine LeO.ite ?_ ?_
   | refine LeO.bind ?_ (fun _ => ?_)
def impl_RestDo.T17 : Bool × List (List Nat × List Nat) := (true, [([], []), ([0], [0]), ([], []), ([2], [2]), ([1, 3], [1, 3]), ([], []), ([5], [5]), ([], []), ([7], [7]), ([], []), ([6, 8, 9], [6, 8, 9]), ([10], [10]), ([4, 11, 11], [4, 11]), ([12, 12, 0, 1, 2, 3, 4, 5, 6, 7, 8, 9, 10, 11, 12], [12])])
def impl_RestDo.B17 : List Nat := [0, 1, 0, 4, 15, 0, 32, 0, 128, 0, 992, 2016, 4095, 8191]
theorem impl_RestDo.tab17 : rtab .any (opsOf Try.f40 17) = impl_RestDo.T17 := by kernel_rfl
theorem impl_RestDo.bits17 : waitsOk impl_RestDo.T17.2 impl_RestDo.B17 = true := by kernel_rfl
def impl_RestDo.T20 : Bool × List (List Nat × List Nat) := (true, [([], []), ([0], [0]), ([], []), ([2], [2]), ([1, 3], [1, 3]), ([], []), ([5], [5]), ([], []), ([7], [7]), ([], []), ([6, 8, 9], [6, 8, 9]), ([10], [10]), ([4, 11, 11], [4, 11]), ([12, 12, 0, 1, 2, 3, 4, 5, 6, 7, 8, 9, 10, 11, 12], [12])])
def impl_RestDo.B20 : List Nat := [0, 1, 0, 4, 15, 0, 32, 0, 128, 0, 992, 2016, 4095, 8191]
theorem impl_RestDo.tab20 : rtab .any (opsOf Try.f40 20) = impl_RestDo.T20 := by kernel_rfl
theorem impl_RestDo.bits20 : waitsOk impl_RestDo.T20.2 impl_RestDo.B20 = true := by kernel_rfl
def impl_RestDo.T26 : Bool × List (List Nat × List Nat) := (true, [([], []), ([0], [0]), ([], []), ([2], [2]), ([1, 3], [1, 3]), ([], []), ([], []), ([5, 6], [5, 6]), ([7], [7]), ([4, 8, 8], [4, 8]), ([9, 9, 0, 1, 2, 3, 4, 5, 6, 7, 8, 9], [9])])
def impl_RestDo.B26 : List Nat := [0, 1, 0, 4, 15, 0, 0, 96, 224, 511, 1023]
theorem impl_RestDo.tab26 : rtab .any (opsOf Try.f40 26) = impl_RestDo.T26 := by kernel_rfl
theorem impl_RestDo.bits26 : waitsOk impl_RestDo.T26.2 impl_RestDo.B26 = true := by kernel_rfl
set_option maxHeartbeats 8000000 in
set_option maxRecDepth 100000 in
theorem impl_RestDo.calls (k : Nat) (a0 : Int) (a1_0 : Int) (a1_1 : Int) (a2_0 : Int) (a2_1 : Int) (r1 : Int) (r2 : Int) (w : World) (h : impl_RestDo.f k a0 a1_0 a1_1 a2_0 a2_1 = some (r1, r2)) :
  Calls Try.prog 40 #[.int .i64 a0, .agg #[.int .i64 a1_0, .int .i64 a1_1], .agg #[.int .i64 a2_0, .int .i64 a2_1]] w fun e w' => e = .returned (.agg #[.int .i64 r1, .int .i64 r2]) ∧ Below w.heap.size w w' := by
 have hu40 := Try.underlying40
 have HB := Aside0.mk (Below.refl w.heap.size w)
 have H : ((impl_numOp.f a0).bind fun t192 => (if t192 = true then ((impl_RestOk.f a1_0 a1_1).bind fun t193 => (if t193 = true then ((impl_RestOk.f a2_0 a2_1).bind fun t194 => (impl_RestDo.j0 k a0 (!t194) a1_0 a1_1 a2_0 a2_1)) else (impl_RestDo.j0 k a0 true a1_0 a1_1 a2_0 a2_1))) else (impl_RestDo.j0 k a0 true a1_0 a1_1 a2_0 a2_1))) = some (r1, r2) := h
 clear h
 have HC4 := Aside0.mk H
 clear H
 go_enter Try.func40, Try.ntmps40
 go_upto_region 1 with (first | ((with_reducible refine gate_dst (N := 4) rfl ?_); refine box_event ?hg (N := 4) ?hd (cs := #[.int .i64 a1_0, .int .i64 a1_1]) (t := 40) ?hr ?_; (case hd => rfl); (case hg => rfl); (case hr => first | (go_simp; done) | (go_simp; rfl)); intro gb189 hg w5 hbox hb; have n0_ := Aside0.mk (below_step (hz HB.out) hb); have n1_ := Aside0.mk (hbox); have n2_ := Aside0.mk ((by rw [hg]; exact (below_size (hz HB.out)) : w.heap.size ≤ gb189)); have n3_ := Aside0.mk ((by rw [hg]; exact (below_size (hz HB.out)) : w.heap.size ≤ gb189)); clear HB; have HB := n0_; have BK189 := n1_; have GW189 := n2_; have GE189 := n3_; clear n0_ n1_ n2_ n3_; clear hb hbox hg) | ((with_reducible refine gate_dst (N := 5) rfl ?_); refine box_event ?hg (N := 5) ?hd (cs := #[.int .i64 a2_0, .int .i64 a2_1]) (t := 40) ?hr ?_; (case hd => rfl); (case hg => rfl); (case hr => first | (go_simp; done) | (go_simp; rfl)); intro gb190 hg w6 hbox hb; have n0_ := Aside0.mk (blk_below (g := gb189) (o := .cells #[.int .i64 a1_0, .int .i64 a1_1] 40 (0, 0)) (bz BK189.out) hb); have n1_ := Aside0.mk (below_step (hz1 HB.out GE189.out) hb); have n2_ := Aside0.mk (hbox); have n3_ := Aside0.mk ((by rw [hg]; exact (below_size (hz1 HB.out GE189.out)) : w.heap.size ≤ gb190)); have n4_ := Aside0.mk ((by rw [hg]; exact (below_size (hz1 HB.out GE189.out)) : w.heap.size ≤ gb190)); have n5_ := Aside0.mk ((by rw [hg]; exact Nat.ne_of_lt (blk_lt (g := gb189) (o := .cells #[.int .i64 a1_0, .int .i64 a1_1] 40 (0, 0)) (bz BK189.out)) : gb189 ≠ gb190)); have n6_ := Aside0.mk ((by rw [hg]; exact Nat.ne_of_gt (blk_lt (g := gb189) (o := .cells #[.int .i64 a1_0, .int .i64 a1_1] 40 (0, 0)) (bz BK189.out)) : gb190 ≠ gb189)); clear BK189; clear HB; have BK189 := n0_; have HB := n1_; have BK190 := n2_; have GW190 := n3_; have GE190 := n4_; have NB189_190 := n5_; have NB190_189 := n6_; clear n0_ n1_ n2_ n3_ n4_ n5_ n6_; clear hb hbox hg) | ((with_reducible refine gate_dst (N := 6) rfl ?_); refine box_event ?hg (N := 6) ?hd (cs := #[.int .i64 0, .int .i64 0]) (t := 40) ?hr ?_; (case hd => rfl); (case hg => rfl); (case hr => first | (go_simp; done) | (go_simp; rfl)); intro gb191 hg w7 hbox hb; have n0_ := Aside0.mk (blk_below (g := gb189) (o := .cells #[.int .i64 a1_0, .int .i64 a1_1] 40 (0, 0)) (bz BK189.out) hb); have n1_ := Aside0.mk (blk_below (g := gb190) (o := .cells #[.int .i64 a2_0, .int .i64 a2_1] 40 (0, 0)) (bz BK190.out) hb); have n2_ := Aside0.mk (below_step (hz2 HB.out GE189.out GE190.out) hb); have n3_ := Aside0.mk (hbox); have n4_ := Aside0.mk ((by rw [hg]; exact (below_size (hz2 HB.out GE189.out GE190.out)) : w.heap.size ≤ gb191)); have n5_ := Aside0.mk ((by rw [hg]; exact (below_size (hz2 HB.out GE189.out GE190.out)) : w.heap.size ≤ gb191)); have n6_ := Aside0.mk ((by rw [hg]; exact Nat.ne_of_lt (blk_lt (g := gb189) (o := .cells #[.int .i64 a1_0, .int .i64 a1_1] 40 (0, 0)) (bz BK189.out)) : gb189 ≠ gb191)); have n7_ := Aside0.mk ((by rw [hg]; exact Nat.ne_of_gt (blk_lt (g := gb189) (o := .cells #[.int .i64 a1_0, .int .i64 a1_1] 40 (0, 0)) (bz BK189.out)) : gb191 ≠ gb189)); have n8_ := Aside0.mk ((by rw [hg]; exact Nat.ne_of_lt (blk_lt (g := gb190) (o := .cells #[.int .i64 a2_0, .int .i64 a2_1] 40 (0, 0)) (bz BK190.out)) : gb190 ≠ gb191)); have n9_ := Aside0.mk ((by rw [hg]; exact Nat.ne_of_gt (blk_lt (g := gb190) (o := .cells #[.int .i64 a2_0, .int .i64 a2_1] 40 (0, 0)) (bz BK190.out)) : gb191 ≠ gb190)); clear BK189; clear BK190; clear HB; have BK189 := n0_; have BK190 := n1_; have HB := n2_; have BK191 := n3_; have GW191 := n4_; have GE191 := n5_; have NB189_191 := n6_; have NB191_189 := n7_; have NB190_191 := n8_; have NB191_190 := n9_; clear n0_ n1_ n2_ n3_ n4_ n5_ n6_ n7_ n8_ n9_; clear hb hbox hg))
 (try simp only [Act.put, List.setIfInBounds_toArray, List.set_cons_zero, List.set_cons_succ])
 go_cut [25] (fun v25 wc => ∃ (kq : Nat) (x25_3 : Bool), v25 = .bool x25_3 ∧ Aside0 (impl_RestDo.j0 kq a0 x25_3 a1_0 a1_1 a2_0 a2_1 = some (r1, r2)) ∧ Aside0 (kq ≤ k) ∧ Aside0 (wc.heap[gb189]? = some (.cells #[.int .i64 a1_0, .int .i64 a1_1] 40 (0, 0))) ∧ Aside0 (wc.heap[gb190]? = some (.cells #[.int .i64 a2_0, .int .i64 a2_1] 40 (0, 0))) ∧ Aside0 (wc.heap[gb191]? = some (.cells #[.int .i64 0, .int .i64 0] 40 (0, 0))) ∧ Aside0 (Below w.heap.size w wc))
 case first =>
  have H := HC4.out
  clear HC4
  replace H := Option.bind_eq_some_iff.mp H
  obtain ⟨t192, A80, H⟩ := H
  replace H : (if t192 = true then ((impl_RestOk.f a1_0 a1_1).bind fun t193 => (if t193 = true then ((impl_RestOk.f a2_0 a2_1).bind fun t194 => (impl_RestDo.j0 k a0 (!t194) a1_0 a1_1 a2_0 a2_1)) else (impl_RestDo.j0 k a0 true a1_0 a1_1 a2_0 a2_1))) else (impl_RestDo.j0 k a0 true a1_0 a1_1 a2_0 a2_1)) = some (r1, r2) := H
  have A8 := Aside0.mk A80
  clear A80
  by_cases c9 : t192 = true
  ·subst c9
   have H1 : ((impl_RestOk.f a1_0 a1_1).bind fun t193 => (if t193 = true then ((impl_RestOk.f a2_0 a2_1).bind fun t194 => (impl_RestDo.j0 k a0 (!t194) a1_0 a1_1 a2_0 a2_1)) else (impl_RestDo.j0 k a0 true a1_0 a1_1 a2_0 a2_1))) = some (r1, r2) := by rw [if_pos rfl] at H; exact H
   clear H
   have H := H1
   clear H1
   replace H := Option.bind_eq_some_iff.mp H
   obtain ⟨t193, A100, H⟩ := H
   replace H : (if t193 = true then ((impl_RestOk.f a2_0 a2_1).bind fun t194 => (impl_RestDo.j0 k a0 (!t194) a1_0 a1_1 a2_0 a2_1)) else (impl_RestDo.j0 k a0 true a1_0 a1_1 a2_0 a2_1)) = some (r1, r2) := H
   have A10 := Aside0.mk A100
   clear A100
   by_cases c11 : t193 = true
   ·subst c11
    have H1 : ((impl_RestOk.f a2_0 a2_1).bind fun t194 => (impl_RestDo.j0 k a0 (!t194) a1_0 a1_1 a2_0 a2_1)) = some (r1, r2) := by rw [if_pos rfl] at H; exact H
    clear H
    have H := H1
    clear H1
    replace H := Option.bind_eq_some_iff.mp H
    obtain ⟨t194, A120, H⟩ := H
    replace H : (impl_RestDo.j0 k a0 (!t194) a1_0 a1_1 a2_0 a2_1) = some (r1, r2) := H
    have A12 := Aside0.mk A120
    clear A120
    have H' := Aside0.mk H
    clear H
    go_wp2_with (first | ((with_reducible refine gate_callee (f := 76) rfl ?_); refine goesL_ (some 14) rfl rfl Try.func76 (by kernel_rfl) rfl #[.int .i64 a0] rfl mz ?_; (with_reducible refine (impl_numOp.calls a0 true _ A8.out).mono ?_); rintro e w' ⟨rfl, ⟨nd, rfl⟩⟩; refine ⟨_, rfl, ?_⟩; have hnb13 := NB189_190.out; have hnc13 := NB190_189.out; have hnb14 := NB189_191.out; have hnc14 := NB191_189.out; have hcz15_0 : w7.cell? ⟨gb189, 0, none⟩ = some (.int .i64 a1_0) := (blk_cell BK189.out 0).trans rfl; have hcz15_1 : w7.cell? ⟨gb189, 1, none⟩ = some (.int .i64 a1_1) := (blk_cell BK189.out 1).trans rfl; have hfz15_0 := blk_frozen BK189.out 0; have hfz15_1 := blk_frozen BK189.out 1) | (go_at_call 29; (with_reducible refine (impl_RestOk.calls a1_0 a1_1 true _ A10.out).mono ?_); rintro e w16 ⟨rfl, hb⟩; have n0_ := Aside0.mk (blk_below (g := gb189) (o := .cells #[.int .i64 a1_0, .int .i64 a1_1] 40 (0, 0)) (bz BK189.out) hb); have n1_ := Aside0.mk (blk_below (g := gb190) (o := .cells #[.int .i64 a2_0, .int .i64 a2_1] 40 (0, 0)) (bz BK190.out) hb); have n2_ := Aside0.mk (blk_below (g := gb191) (o := .cells #[.int .i64 0, .int .i64 0] 40 (0, 0)) (bz BK191.out) hb); have n3_ := Aside0.mk (below_step (hz3 HB.out GE189.out GE190.out GE191.out) hb); clear BK189; clear BK190; clear BK191; clear HB; have BK189 := n0_; have BK190 := n1_; have BK191 := n2_; have HB := n3_; clear n0_ n1_ n2_ n3_; (try clear hb); (try clear hb2); (try clear hk); (try clear hi); have hnb17 := NB190_191.out; have hnc17 := NB191_190.out; have hcz18_0 : w16.cell? ⟨gb190, 0, none⟩ = some (.int .i64 a2_0) := (blk_cell BK190.out 0).trans rfl; have hcz18_1 : w16.cell? ⟨gb190, 1, none⟩ = some (.int .i64 a2_1) := (blk_cell BK190.out 1).trans rfl; have hfz18_0 := blk_frozen BK190.out 0; have hfz18_1 := blk_frozen BK190.out 1) | (go_at_call 29; (with_reducible refine (impl_RestOk.calls a2_0 a2_1 t194 _ A12.out).mono ?_); rintro e w19 ⟨rfl, hb⟩; have n0_ := Aside0.mk (blk_below (g := gb189) (o := .cells #[.int .i64 a1_0, .int .i64 a1_1] 40 (0, 0)) (bz BK189.out) hb); have n1_ := Aside0.mk (blk_below (g := gb190) (o := .cells #[.int .i64 a2_0, .int .i64 a2_1] 40 (0, 0)) (bz BK190.out) hb); have n2_ := Aside0.mk (blk_below (g := gb191) (o := .cells #[.int .i64 0, .int .i64 0] 40 (0, 0)) (bz BK191.out) hb); have n3_ := Aside0.mk (below_step (hz3 HB.out GE189.out GE190.out GE191.out) hb); clear BK189; clear BK190; clear BK191; clear HB; have BK189 := n0_; have BK190 := n1_; have BK191 := n2_; have HB := n3_; clear n0_ n1_ n2_ n3_; (try clear hb); (try clear hb2); (try clear hk); (try clear hi)))
    go_meet
    case rel => exact ⟨_, (!t194), (by first | rfl | (simp; done) | (simp [*]; done)), H', ⟨by first | omega | exact Nat.le_refl _⟩, ⟨bz BK189.out⟩, ⟨bz BK190.out⟩, ⟨bz BK191.out⟩, ⟨hz3 HB.out GE189.out GE190.out GE191.out⟩⟩
   ·replace c11 := Bool.eq_false_iff.mpr c11
    subst c11
    have H1 : (impl_RestDo.j0 k a0 true a1_0 a1_1 a2_0 a2_1) = some (r1, r2) := by rw [if_neg (show ¬ (false = true) by decide)] at H; exact H
    clear H
    have H := H1
    clear H1
    have H' := Aside0.mk H
    clear H
    go_wp2_with (first | ((with_reducible refine gate_callee (f := 76) rfl ?_); refine goesL_ (some 14) rfl rfl Try.func76 (by kernel_rfl) rfl #[.int .i64 a0] rfl mz ?_; (with_reducible refine (impl_numOp.calls a0 true _ A8.out).mono ?_); rintro e w' ⟨rfl, ⟨nd, rfl⟩⟩; refine ⟨_, rfl, ?_⟩; have hnb20 := NB189_190.out; have hnc20 := NB190_189.out; have hnb21 := NB189_191.out; have hnc21 := NB191_189.out; have hcz22_0 : w7.cell? ⟨gb189, 0, none⟩ = some (.int .i64 a1_0) := (blk_cell BK189.out 0).trans rfl; have hcz22_1 : w7.cell? ⟨gb189, 1, none⟩ = some (.int .i64 a1_1) := (blk_cell BK189.out 1).trans rfl; have hfz22_0 := blk_frozen BK189.out 0; have hfz22_1 := blk_frozen BK189.out 1) | (go_at_call 29; (with_reducible refine (impl_RestOk.calls a1_0 a1_1 false _ A10.out).mono ?_); rintro e w23 ⟨rfl, hb⟩; have n0_ := Aside0.mk (blk_below (g := gb189) (o := .cells #[.int .i64 a1_0, .int .i64 a1_1] 40 (0, 0)) (bz BK189.out) hb); have n1_ := Aside0.mk (blk_below (g := gb190) (o := .cells #[.int .i64 a2_0, .int .i64 a2_1] 40 (0, 0)) (bz BK190.out) hb); have n2_ := Aside0.mk (blk_below (g := gb191) (o := .cells #[.int .i64 0, .int .i64 0] 40 (0, 0)) (bz BK191.out) hb); have n3_ := Aside0.mk (below_step (hz3 HB.out GE189.out GE190.out GE191.out) hb); clear BK189; clear BK190; clear BK191; clear HB; have BK189 := n0_; have BK190 := n1_; have BK191 := n2_; have HB := n3_; clear n0_ n1_ n2_ n3_; (try clear hb); (try clear hb2); (try clear hk); (try clear hi)))
    go_meet
    case rel => exact ⟨_, (true), (by first | rfl | (simp; done) | (simp [*]; done)), H', ⟨by first | omega | exact Nat.le_refl _⟩, ⟨bz BK189.out⟩, ⟨bz BK190.out⟩, ⟨bz BK191.out⟩, ⟨hz3 HB.out GE189.out GE190.out GE191.out⟩⟩
  ·replace c9 := Bool.eq_false_iff.mpr c9
   subst c9
   have H1 : (impl_RestDo.j0 k a0 true a1_0 a1_1 a2_0 a2_1) = some (r1, r2) := by rw [if_neg (show ¬ (false = true) by decide)] at H; exact H
   clear H
   have H := H1
   clear H1
   have H' := Aside0.mk H
   clear H
   go_wp2_with (first | ((with_reducible refine gate_callee (f := 76) rfl ?_); refine goesL_ (some 14) rfl rfl Try.func76 (by kernel_rfl) rfl #[.int .i64 a0] rfl mz ?_; (with_reducible refine (impl_numOp.calls a0 false _ A8.out).mono ?_); rintro e w' ⟨rfl, ⟨nd, rfl⟩⟩; refine ⟨_, rfl, ?_⟩))
   go_meet
   case rel => exact ⟨_, (true), (by first | rfl | (simp; done) | (simp [*]; done)), H', ⟨by first | omega | exact Nat.le_refl _⟩, ⟨bz BK189.out⟩, ⟨bz BK190.out⟩, ⟨bz BK191.out⟩, ⟨hz3 HB.out GE189.out GE190.out GE191.out⟩⟩
 case rest =>
  clear HC4
  try clear c1
  try clear c2
  try clear p2
  try clear c4
  try clear c7
  try clear c9
  try clear c11
  try clear c13
  try clear c14
  try clear c17
  try clear c20
  try clear c21
  try clear hcz15_0
  try clear hcz15_1
  try clear hcz18_0
  try clear hcz18_1
  try clear hcz22_0
  try clear hcz22_1
  try clear hfz15_0
  try clear hfz15_1
  try clear hfz18_0
  try clear hfz18_1
  try clear hfz22_0
  try clear hfz22_1
  obtain ⟨kq, x25_3, rfl, HA, HJ3, BK189, BK190, BK191, HB⟩ := hcut
  cases kq with
  | zero => exact absurd HA.out (by simp [impl_RestDo.j0])
  | succ kj3 =>
   have H := HA.out
   clear HA
   simp only [impl_RestDo.j0] at H
   by_cases c24 : x25_3 = true
   ·subst c24
    have H1 : ((impl_restAll.f).bind fun bt195 => (some (bt195.1, bt195.2))) = some (r1, r2) := by rw [if_pos rfl] at H; exact H
    clear H
    have H := H1
    clear H1
    replace H := Option.bind_eq_some_iff.mp H
    obtain ⟨⟨t195, t196⟩, A250, H⟩ := H
    replace H : (some (t195, t196)) = some (r1, r2) := H
    have A25 := Aside0.mk A250
    clear A250
    simp only [Option.some.injEq, Prod.mk.injEq] at H
    obtain ⟨rfl, rfl⟩ := H
    go_wp2_with (first | ((with_reducible refine gate_callee (f := 70) rfl ?_); refine goesL_ (some 26) rfl rfl Try.func70 (by kernel_rfl) rfl #[] rfl mz ?_; (with_reducible refine (impl_restAll.calls  t195 t196 _ A25.out).mono ?_); rintro e w26 ⟨rfl, hb⟩; refine ⟨_, rfl, ?_⟩; have n0_ := Aside0.mk (blk_below (g := gb189) (o := .cells #[.int .i64 a1_0, .int .i64 a1_1] 40 (0, 0)) (bz BK189.out) hb); have n1_ := Aside0.mk (blk_below (g := gb190) (o := .cells #[.int .i64 a2_0, .int .i64 a2_1] 40 (0, 0)) (bz BK190.out) hb); have n2_ := Aside0.mk (blk_below (g := gb191) (o := .cells #[.int .i64 0, .int .i64 0] 40 (0, 0)) (bz BK191.out) hb); have n3_ := Aside0.mk (below_step (hz3 HB.out GE189.out GE190.out GE191.out) hb); clear BK189; clear BK190; clear BK191; clear HB; have BK189 := n0_; have BK190 := n1_; have BK191 := n2_; have HB := n3_; clear n0_ n1_ n2_ n3_; (try clear hb); (try clear hb2); (try clear hk); (try clear hi); have hnb27 := NB191_189.out; have hnc27 := NB189_191.out; have hnb28 := NB191_190.out; have hnc28 := NB190_191.out; have hcz29_0 : w26.cell? ⟨gb191, 0, none⟩ = some (.int .i64 0) := (blk_cell BK191.out 0).trans rfl; have hcz29_1 : w26.cell? ⟨gb191, 1, none⟩ = some (.int .i64 0) := (blk_cell BK191.out 1).trans rfl; have hfz29_0 := blk_frozen BK191.out 0; have hfz29_1 := blk_frozen BK191.out 1))
    refine bodyPost_ret (results_cell_row rfl _ _ gb191 40 #[.int .i64 t195, .int .i64 t196] (0, 0) _ rfl (by (with_reducible repeat (first | refine blk_drewN ?_ _ | refine blk_drew ?_ | refine blk_alloc ?_ _)); refine blk_put (cs := #[.int .i64 t195, .int .i64 0]) ?_ 1 _ rfl; (with_reducible repeat (first | refine blk_drewN ?_ _ | refine blk_drew ?_ | refine blk_alloc ?_ _)); refine blk_put (cs := #[.int .i64 0, .int .i64 0]) ?_ 0 _ rfl; (with_reducible repeat (first | refine blk_drewN ?_ _ | refine blk_drew ?_ | refine blk_alloc ?_ _)); exact BK191.out) Try.underlying40 rfl (by kernel_rfl)) rfl ?_
    exact ⟨by first | rfl | (simp [errW_none, errW_some] <;> rfl) | (simp [*, errW_none, errW_some] <;> rfl), hz3 HB.out GE189.out GE190.out GE191.out⟩
   ·replace c24 := Bool.eq_false_iff.mpr c24
    subst c24
    have H1 : (if a1_0 = 0 then (impl_RestDo.j1 kj3 a0 (a2_0 == 0) a1_0 a1_1 a2_0 a2_1) else (impl_RestDo.j1 kj3 a0 false a1_0 a1_1 a2_0 a2_1)) = some (r1, r2) := by rw [if_neg (show ¬ (false = true) by decide)] at H; exact H
    clear H
    have H := H1
    clear H1
    have HC30 := Aside0.mk H
    clear H
    go_upto_region 3 with (fail)
    go_cut [34] (fun v34 wc => ∃ (kq : Nat) (x34_29 : Bool), v34 = .bool x34_29 ∧ Aside0 (impl_RestDo.j1 kq a0 x34_29 a1_0 a1_1 a2_0 a2_1 = some (r1, r2)) ∧ Aside0 (kq ≤ kj3) ∧ Aside0 (wc.heap[gb189]? = some (.cells #[.int .i64 a1_0, .int .i64 a1_1] 40 (0, 0))) ∧ Aside0 (wc.heap[gb190]? = some (.cells #[.int .i64 a2_0, .int .i64 a2_1] 40 (0, 0))) ∧ Aside0 (wc.heap[gb191]? = some (.cells #[.int .i64 0, .int .i64 0] 40 (0, 0))) ∧ Aside0 (Below w.heap.size w wc))
    case first =>
     have H := HC30.out
     clear HC30
     by_cases c31 : a1_0 = 0
     ·rw [if_pos c31] at H
      have c31b0 : (a1_0 == 0) = true := beq_iff_eq.mpr c31
      have c31b1 : (a1_0 != 0) = false := bne_eq_false_iff_eq.mpr c31
      clear c31
      (first | rw [c31b0] | (simp only [i64_w, i32_w]; rw [c31b0]) | skip)
      have H' := Aside0.mk H
      clear H
      have hnb32 := NB189_190.out
      have hnc32 := NB190_189.out
      have hnb33 := NB189_191.out
      have hnc33 := NB191_189.out
      have hcz34_0 : wc.cell? ⟨gb189, 0, none⟩ = some (.int .i64 a1_0) := (blk_cell BK189.out 0).trans rfl
      have hcz34_1 : wc.cell? ⟨gb189, 1, none⟩ = some (.int .i64 a1_1) := (blk_cell BK189.out 1).trans rfl
      have hfz34_0 := blk_frozen BK189.out 0
      have hfz34_1 := blk_frozen BK189.out 1
      have hnb35 := NB190_191.out
      have hnc35 := NB191_190.out
      have hcz36_0 : wc.cell? ⟨gb190, 0, none⟩ = some (.int .i64 a2_0) := (blk_cell BK190.out 0).trans rfl
      have hcz36_1 : wc.cell? ⟨gb190, 1, none⟩ = some (.int .i64 a2_1) := (blk_cell BK190.out 1).trans rfl
      have hfz36_0 := blk_frozen BK190.out 0
      have hfz36_1 := blk_frozen BK190.out 1
      go_wp2
      go_meet
      case rel => exact ⟨_, ((a2_0 == 0)), (by first | rfl | (simp; done) | (simp [*]; done)), H', ⟨by have := HJ3.out; first | omega | exact Nat.le_refl _⟩, ⟨bz BK189.out⟩, ⟨bz BK190.out⟩, ⟨bz BK191.out⟩, ⟨hz3 HB.out GE189.out GE190.out GE191.out⟩⟩
     ·rw [if_neg c31] at H
      have c31b0 : (a1_0 == 0) = false := beq_eq_false_iff_ne.mpr c31
      have c31b1 : (a1_0 != 0) = true := bne_iff_ne.mpr c31
      (first | rw [c31b0] | (simp only [i64_w, i32_w]; rw [c31b0]) | skip)
      have H' := Aside0.mk H
      clear H
      have hnb37 := NB189_190.out
      have hnc37 := NB190_189.out
      have hnb38 := NB189_191.out
      have hnc38 := NB191_189.out
      have hcz39_0 : wc.cell? ⟨gb189, 0, none⟩ = some (.int .i64 a1_0) := (blk_cell BK189.out 0).trans rfl
      have hcz39_1 : wc.cell? ⟨gb189, 1, none⟩ = some (.int .i64 a1_1) := (blk_cell BK189.out 1).trans rfl
      have hfz39_0 := blk_frozen BK189.out 0
      have hfz39_1 := blk_frozen BK189.out 1
      go_wp2
      go_meet
      case rel => exact ⟨_, (false), (by first | rfl | (simp; done) | (simp [*]; done)), H', ⟨by have := HJ3.out; first | omega | exact Nat.le_refl _⟩, ⟨bz BK189.out⟩, ⟨bz BK190.out⟩, ⟨bz BK191.out⟩, ⟨hz3 HB.out GE189.out GE190.out GE191.out⟩⟩
    case rest =>
     clear HC30
     try clear c1
     try clear c2
     try clear p2
     try clear c3
     try clear c4
     try clear c7
     try clear c9
     try clear c11
     try clear c13
     try clear c14
     try clear c17
     try clear c20
     try clear c21
     try clear c24
     try clear c27
     try clear c28
     try clear c31
     try clear c31b0
     try clear c31b1
     try clear c32
     try clear c33
     try clear c35
     try clear c37
     try clear c38
     try clear hcz15_0
     try clear hcz15_1
     try clear hcz18_0
     try clear hcz18_1
     try clear hcz22_0
     try clear hcz22_1
     try clear hcz29_0
     try clear hcz29_1
     try clear hcz34_0
     try clear hcz34_1
     try clear hcz36_0
     try clear hcz36_1
     try clear hcz39_0
     try clear hcz39_1
     try clear hfz15_0
     try clear hfz15_1
     try clear hfz18_0
     try clear hfz18_1
     try clear hfz22_0
     try clear hfz22_1
     try clear hfz29_0
     try clear hfz29_1
     try clear hfz34_0
     try clear hfz34_1
     try clear hfz36_0
     try clear hfz36_1
     try clear hfz39_0
     try clear hfz39_1
     try clear p2
     obtain ⟨kq, x34_29, rfl, HA, HJ29, BK189, BK190, BK191, HB⟩ := hcut
     cases kq with
     | zero => exact absurd HA.out (by simp [impl_RestDo.j1])
     | succ kj29 =>
      have H := HA.out
      clear HA
      simp only [impl_RestDo.j1] at H
      by_cases c40 : x34_29 = true
      ·subst c40
       have H1 : ((impl_NumDo.f kj29 a0 a1_1 a2_1).bind fun bt197 => (if bt197.2 = 0 then (some (0, bt197.1)) else ((impl_restAll.f).bind fun bt199 => (some (bt199.1, bt199.2))))) = some (r1, r2) := by rw [if_pos rfl] at H; exact H
       clear H
       have H := H1
       clear H1
       replace H := Option.bind_eq_some_iff.mp H
       obtain ⟨⟨t197, t198⟩, A410, H⟩ := H
       replace H : (if t198 = 0 then (some (0, t197)) else ((impl_restAll.f).bind fun bt199 => (some (bt199.1, bt199.2)))) = some (r1, r2) := H
       have A41 := Aside0.mk A410
       clear A410
       by_cases c42 : t198 = 0
       ·rw [if_pos c42] at H
        have c42b0 : (t198 == 0) = true := beq_iff_eq.mpr c42
        have c42b1 : (t198 != 0) = false := bne_eq_false_iff_eq.mpr c42
        clear c42
        simp only [Option.some.injEq, Prod.mk.injEq] at H
        obtain ⟨rfl, rfl⟩ := H
        have hnb43 := NB189_190.out
        have hnc43 := NB190_189.out
        have hnb44 := NB189_191.out
        have hnc44 := NB191_189.out
        have hcz45_0 : wc.cell? ⟨gb189, 0, none⟩ = some (.int .i64 a1_0) := (blk_cell BK189.out 0).trans rfl
        have hcz45_1 : wc.cell? ⟨gb189, 1, none⟩ = some (.int .i64 a1_1) := (blk_cell BK189.out 1).trans rfl
        have hfz45_0 := blk_frozen BK189.out 0
        have hfz45_1 := blk_frozen BK189.out 1
        have hnb46 := NB190_191.out
        have hnc46 := NB191_190.out
        have hcz47_0 : wc.cell? ⟨gb190, 0, none⟩ = some (.int .i64 a2_0) := (blk_cell BK190.out 0).trans rfl
        have hcz47_1 : wc.cell? ⟨gb190, 1, none⟩ = some (.int .i64 a2_1) := (blk_cell BK190.out 1).trans rfl
        have hfz47_0 := blk_frozen BK190.out 0
        have hfz47_1 := blk_frozen BK190.out 1
        go_wp2_with (first | ((with_reducible refine gate_callee (f := 77) rfl ?_); refine goesL_ (some 41) rfl rfl Try.func77 (by kernel_rfl) rfl #[.int .i64 a0, .int .i64 a1_1, .int .i64 a2_1] rfl mz ?_; (with_reducible refine (impl_NumDo.calls kj29 a0 a1_1 a2_1 t197 t198 _ A41.out).mono ?_); rintro e w' ⟨rfl, ⟨nd, rfl⟩⟩; refine ⟨_, rfl, ?_⟩; (try (rw [drewN_self wc]; generalize hq_ : World.drewN wc _ = wc; have n0_ : Aside0 (wc.heap[gb189]? = some (.cells #[.int .i64 a1_0, .int .i64 a1_1] 40 (0, 0))) := ⟨by rw [← hq_]; exact (bz BK189.out)⟩; have n1_ : Aside0 (wc.heap[gb190]? = some (.cells #[.int .i64 a2_0, .int .i64 a2_1] 40 (0, 0))) := ⟨by rw [← hq_]; exact (bz BK190.out)⟩; have n2_ : Aside0 (wc.heap[gb191]? = some (.cells #[.int .i64 0, .int .i64 0] 40 (0, 0))) := ⟨by rw [← hq_]; exact (bz BK191.out)⟩; have n3_ : Aside0 (Below w.heap.size w wc) := ⟨by rw [← hq_]; exact (hz3 HB.out GE189.out GE190.out GE191.out)⟩; clear BK189 BK190 BK191 HB hq_; have BK189 := n0_; have BK190 := n1_; have BK191 := n2_; have HB := n3_; clear n0_ n1_ n2_ n3_)); have hcz48_0 : wc.cell? ⟨gb191, 0, none⟩ = some (.int .i64 0) := (blk_cell BK191.out 0).trans rfl; have hcz48_1 : wc.cell? ⟨gb191, 1, none⟩ = some (.int .i64 0) := (blk_cell BK191.out 1).trans rfl; have hfz48_0 := blk_frozen BK191.out 0; have hfz48_1 := blk_frozen BK191.out 1))
        refine bodyPost_ret (results_cell_row rfl _ _ gb191 40 #[.int .i64 0, .int .i64 t197] (0, 0) _ rfl (by (with_reducible repeat (first | refine blk_drewN ?_ _ | refine blk_drew ?_ | refine blk_alloc ?_ _)); refine blk_put (cs := #[.int .i64 0, .int .i64 0]) ?_ 1 _ rfl; (with_reducible repeat (first | refine blk_drewN ?_ _ | refine blk_drew ?_ | refine blk_alloc ?_ _)); refine blk_put (cs := #[.int .i64 0, .int .i64 0]) ?_ 0 _ rfl; (with_reducible repeat (first | refine blk_drewN ?_ _ | refine blk_drew ?_ | refine blk_alloc ?_ _)); exact BK191.out) Try.underlying40 rfl (by kernel_rfl)) rfl ?_
        exact ⟨by first | rfl | (simp [errW_none, errW_some] <;> rfl) | (simp [*, errW_none, errW_some] <;> rfl), hz3 HB.out GE189.out GE190.out GE191.out⟩
       ·rw [if_neg c42] at H
        have c42b0 : (t198 == 0) = false := beq_eq_false_iff_ne.mpr c42
        have c42b1 : (t198 != 0) = true := bne_iff_ne.mpr c42
        replace H := Option.bind_eq_some_iff.mp H
        obtain ⟨⟨t199, t200⟩, A490, H⟩ := H
        replace H : (some (t199, t200)) = some (r1, r2) := H
        have A49 := Aside0.mk A490
        clear A490
        simp only [Option.some.injEq, Prod.mk.injEq] at H
        obtain ⟨rfl, rfl⟩ := H
        have hnb50 := NB189_190.out
        have hnc50 := NB190_189.out
        have hnb51 := NB189_191.out
        have hnc51 := NB191_189.out
        have hcz52_0 : wc.cell? ⟨gb189, 0, none⟩ = some (.int .i64 a1_0) := (blk_cell BK189.out 0).trans rfl
        have hcz52_1 : wc.cell? ⟨gb189, 1, none⟩ = some (.int .i64 a1_1) := (blk_cell BK189.out 1).trans rfl
        have hfz52_0 := blk_frozen BK189.out 0
        have hfz52_1 := blk_frozen BK189.out 1
        have hnb53 := NB190_191.out
        have hnc53 := NB191_190.out
        have hcz54_0 : wc.cell? ⟨gb190, 0, none⟩ = some (.int .i64 a2_0) := (blk_cell BK190.out 0).trans rfl
        have hcz54_1 : wc.cell? ⟨gb190, 1, none⟩ = some (.int .i64 a2_1) := (blk_cell BK190.out 1).trans rfl
        have hfz54_0 := blk_frozen BK190.out 0
        have hfz54_1 := blk_frozen BK190.out 1
        go_wp2_with (first | ((with_reducible refine gate_callee (f := 77) rfl ?_); refine goesL_ (some 41) rfl rfl Try.func77 (by kernel_rfl) rfl #[.int .i64 a0, .int .i64 a1_1, .int .i64 a2_1] rfl mz ?_; (with_reducible refine (impl_NumDo.calls kj29 a0 a1_1 a2_1 t197 t198 _ A41.out).mono ?_); rintro e w' ⟨rfl, ⟨nd, rfl⟩⟩; refine ⟨_, rfl, ?_⟩; (try (rw [drewN_self wc]; generalize hq_ : World.drewN wc _ = wc; have n0_ : Aside0 (wc.heap[gb189]? = some (.cells #[.int .i64 a1_0, .int .i64 a1_1] 40 (0, 0))) := ⟨by rw [← hq_]; exact (bz BK189.out)⟩; have n1_ : Aside0 (wc.heap[gb190]? = some (.cells #[.int .i64 a2_0, .int .i64 a2_1] 40 (0, 0))) := ⟨by rw [← hq_]; exact (bz BK190.out)⟩; have n2_ : Aside0 (wc.heap[gb191]? = some (.cells #[.int .i64 0, .int .i64 0] 40 (0, 0))) := ⟨by rw [← hq_]; exact (bz BK191.out)⟩; have n3_ : Aside0 (Below w.heap.size w wc) := ⟨by rw [← hq_]; exact (hz3 HB.out GE189.out GE190.out GE191.out)⟩; clear BK189 BK190 BK191 HB hq_; have BK189 := n0_; have BK190 := n1_; have BK191 := n2_; have HB := n3_; clear n0_ n1_ n2_ n3_))) | ((with_reducible refine gate_callee (f := 70) rfl ?_); refine goesL_ (some 46) rfl rfl Try.func70 (by kernel_rfl) rfl #[] rfl mz ?_; (with_reducible refine (impl_restAll.calls  t199 t200 _ A49.out).mono ?_); rintro e w55 ⟨rfl, hb⟩; refine ⟨_, rfl, ?_⟩; have n0_ := Aside0.mk (blk_below (g := gb189) (o := .cells #[.int .i64 a1_0, .int .i64 a1_1] 40 (0, 0)) (bz BK189.out) hb); have n1_ := Aside0.mk (blk_below (g := gb190) (o := .cells #[.int .i64 a2_0, .int .i64 a2_1] 40 (0, 0)) (bz BK190.out) hb); have n2_ := Aside0.mk (blk_below (g := gb191) (o := .cells #[.int .i64 0, .int .i64 0] 40 (0, 0)) (bz BK191.out) hb); have n3_ := Aside0.mk (below_step (hz3 HB.out GE189.out GE190.out GE191.out) hb); clear BK189; clear BK190; clear BK191; clear HB; have BK189 := n0_; have BK190 := n1_; have BK191 := n2_; have HB := n3_; clear n0_ n1_ n2_ n3_; (try clear hb); (try clear hb2); (try clear hk); (try clear hi); have hcz56_0 : w55.cell? ⟨gb191, 0, none⟩ = some (.int .i64 0) := (blk_cell BK191.out 0).trans rfl; have hcz56_1 : w55.cell? ⟨gb191, 1, none⟩ = some (.int .i64 0) := (blk_cell BK191.out 1).trans rfl; have hfz56_0 := blk_frozen BK191.out 0; have hfz56_1 := blk_frozen BK191.out 1))
        refine bodyPost_ret (results_cell_row rfl _ _ gb191 40 #[.int .i64 t199, .int .i64 t200] (0, 0) _ rfl (by (with_reducible repeat (first | refine blk_drewN ?_ _ | refine blk_drew ?_ | refine blk_alloc ?_ _)); refine blk_put (cs := #[.int .i64 t199, .int .i64 0]) ?_ 1 _ rfl; (with_reducible repeat (first | refine blk_drewN ?_ _ | refine blk_drew ?_ | refine blk_alloc ?_ _)); refine blk_put (cs := #[.int .i64 0, .int .i64 0]) ?_ 0 _ rfl; (with_reducible repeat (first | refine blk_drewN ?_ _ | refine blk_drew ?_ | refine blk_alloc ?_ _)); exact BK191.out) Try.underlying40 rfl (by kernel_rfl)) rfl ?_
        exact ⟨by first | rfl | (simp [errW_none, errW_some] <;> rfl) | (simp [*, errW_none, errW_some] <;> rfl), hz3 HB.out GE189.out GE190.out GE191.out⟩
      ·replace c40 := Bool.eq_false_iff.mpr c40
       subst c40
       have H1 : (if a0 = 11 then (impl_RestDo.j2 kj29 a0 4294967296 a1_0 a1_1 a2_0 a2_1) else (if a0 = 12 then (impl_RestDo.j2 kj29 a0 4294967296 a1_0 a1_1 a2_0 a2_1) else (if a0 = 13 then (impl_RestDo.j2 kj29 a0 4294967296 a1_0 a1_1 a2_0 a2_1) else (impl_RestDo.j2 kj29 a0 0 a1_0 a1_1 a2_0 a2_1)))) = some (r1, r2) := by rw [if_neg (show ¬ (false = true) by decide)] at H; exact H
       clear H
       have H := H1
       clear H1
       have HC57 := Aside0.mk H
       clear H
       go_upto_block 0 with (fail)
       go_cut [9] (fun v9 wc => ∃ (kq : Nat) (x9_56 : Int), v9 = .int .i64 x9_56 ∧ Aside0 (impl_RestDo.j2 kq a0 x9_56 a1_0 a1_1 a2_0 a2_1 = some (r1, r2)) ∧ Aside0 (kq ≤ kj29) ∧ Aside0 (wc.heap[gb189]? = some (.cells #[.int .i64 a1_0, .int .i64 a1_1] 40 (0, 0))) ∧ Aside0 (wc.heap[gb190]? = some (.cells #[.int .i64 a2_0, .int .i64 a2_1] 40 (0, 0))) ∧ Aside0 (wc.heap[gb191]? = some (.cells #[.int .i64 0, .int .i64 0] 40 (0, 0))) ∧ Aside0 (Below w.heap.size w wc))
       case first =>
        have H := HC57.out
        clear HC57
        by_cases c58 : a0 = 11
        ·rw [if_pos c58] at H
         have c58b0 : (a0 == 11) = true := beq_iff_eq.mpr c58
         have c58b1 : (a0 != 11) = false := bne_eq_false_iff_eq.mpr c58
         clear c58
         (first | rw [c58b0] | (simp only [i64_w, i32_w]; rw [c58b0]) | skip)
         have H' := Aside0.mk H
         clear H
         go_wp2
         go_meet
         case rel => exact ⟨_, (4294967296), (by first | rfl | (simp; done) | (simp [*]; done)), H', ⟨by have := HJ3.out; have := HJ29.out; first | omega | exact Nat.le_refl _⟩, ⟨bz BK189.out⟩, ⟨bz BK190.out⟩, ⟨bz BK191.out⟩, ⟨hz3 HB.out GE189.out GE190.out GE191.out⟩⟩
        ·rw [if_neg c58] at H
         have c58b0 : (a0 == 11) = false := beq_eq_false_iff_ne.mpr c58
         have c58b1 : (a0 != 11) = true := bne_iff_ne.mpr c58
         (first | rw [c58b0] | (simp only [i64_w, i32_w]; rw [c58b0]) | skip)
         by_cases c59 : a0 = 12
         ·rw [if_pos c59] at H
          have c59b0 : (a0 == 12) = true := beq_iff_eq.mpr c59
          have c59b1 : (a0 != 12) = false := bne_eq_false_iff_eq.mpr c59
          clear c59
          have H' := Aside0.mk H
          clear H
          go_wp2
          go_meet
          case rel => exact ⟨_, (4294967296), (by first | rfl | (simp; done) | (simp [*]; done)), H', ⟨by have := HJ3.out; have := HJ29.out; first | omega | exact Nat.le_refl _⟩, ⟨bz BK189.out⟩, ⟨bz BK190.out⟩, ⟨bz BK191.out⟩, ⟨hz3 HB.out GE189.out GE190.out GE191.out⟩⟩
         ·rw [if_neg c59] at H
          have c59b0 : (a0 == 12) = false := beq_eq_false_iff_ne.mpr c59
          have c59b1 : (a0 != 12) = true := bne_iff_ne.mpr c59
          by_cases c60 : a0 = 13
          ·rw [if_pos c60] at H
           have c60b0 : (a0 == 13) = true := beq_iff_eq.mpr c60
           have c60b1 : (a0 != 13) = false := bne_eq_false_iff_eq.mpr c60
           clear c60
           have H' := Aside0.mk H
           clear H
           go_wp2
           go_meet
           case rel => exact ⟨_, (4294967296), (by first | rfl | (simp; done) | (simp [*]; done)), H', ⟨by have := HJ3.out; have := HJ29.out; first | omega | exact Nat.le_refl _⟩, ⟨bz BK189.out⟩, ⟨bz BK190.out⟩, ⟨bz BK191.out⟩, ⟨hz3 HB.out GE189.out GE190.out GE191.out⟩⟩
          ·rw [if_neg c60] at H
           have c60b0 : (a0 == 13) = false := beq_eq_false_iff_ne.mpr c60
           have c60b1 : (a0 != 13) = true := bne_iff_ne.mpr c60
           have H' := Aside0.mk H
           clear H
           go_wp2
           go_meet
           case rel => exact ⟨_, (0), (by first | rfl | (simp; done) | (simp [*]; done)), H', ⟨by have := HJ3.out; have := HJ29.out; first | omega | exact Nat.le_refl _⟩, ⟨bz BK189.out⟩, ⟨bz BK190.out⟩, ⟨bz BK191.out⟩, ⟨hz3 HB.out GE189.out GE190.out GE191.out⟩⟩
       case rest =>
        clear HC57
        try clear c1
        try clear c2
        try clear p2
        try clear c3
        try clear c4
        try clear c5
        try clear c6
        try clear c7
        try clear c9
        try clear c11
        try clear c13
        try clear c14
        try clear c17
        try clear c20
        try clear c21
        try clear c24
        try clear c27
        try clear c28
        try clear c31
        try clear c31b0
        try clear c31b1
        try clear c32
        try clear c33
        try clear c35
        try clear c37
        try clear c38
        try clear c40
        try clear c42
        try clear c42b0
        try clear c42b1
        try clear c43
        try clear c44
        try clear c46
        try clear c50
        try clear c51
        try clear c53
        try clear c58
        try clear c58b0
        try clear c58b1
        try clear c59
        try clear c59b0
        try clear c59b1
        try clear c60
        try clear c60b0
        try clear c60b1
        try clear hcz15_0
        try clear hcz15_1
        try clear hcz18_0
        try clear hcz18_1
        try clear hcz22_0
        try clear hcz22_1
        try clear hcz29_0
        try clear hcz29_1
        try clear hcz34_0
        try clear hcz34_1
        try clear hcz36_0
        try clear hcz36_1
        try clear hcz39_0
        try clear hcz39_1
        try clear hcz45_0
        try clear hcz45_1
        try clear hcz47_0
        try clear hcz47_1
        try clear hcz48_0
        try clear hcz48_1
        try clear hcz52_0
        try clear hcz52_1
        try clear hcz54_0
        try clear hcz54_1
        try clear hcz56_0
        try clear hcz56_1
        try clear hfz15_0
        try clear hfz15_1
        try clear hfz18_0
        try clear hfz18_1
        try clear hfz22_0
        try clear hfz22_1
        try clear hfz29_0
        try clear hfz29_1
        try clear hfz34_0
        try clear hfz34_1
        try clear hfz36_0
        try clear hfz36_1
        try clear hfz39_0
        try clear hfz39_1
        try clear hfz45_0
        try clear hfz45_1
        try clear hfz47_0
        try clear hfz47_1
        try clear hfz48_0
        try clear hfz48_1
        try clear hfz52_0
        try clear hfz52_1
        try clear hfz54_0
        try clear hfz54_1
        try clear hfz56_0
        try clear hfz56_1
        try clear p2
        obtain ⟨kq, x9_56, rfl, HA, HJ56, BK189, BK190, BK191, HB⟩ := hcut
        cases kq with
        | zero => exact absurd HA.out (by simp [impl_RestDo.j2])
        | succ kj56 =>
         have H := HA.out
         clear HA
         simp only [impl_RestDo.j2] at H
         have HC61 := Aside0.mk H
         clear H
         go_upto_if 55 with (fail)
         go_cut [55] (fun v55 wc => ∃ (kq : Nat) (x55_60 : Bool), v55 = .bool x55_60 ∧ Aside0 (impl_RestDo.j3 kq x9_56 a0 x55_60 a1_0 a1_1 a2_0 a2_1 = some (r1, r2)) ∧ Aside0 (kq ≤ kj56) ∧ Aside0 (wc.heap[gb189]? = some (.cells #[.int .i64 a1_0, .int .i64 a1_1] 40 (0, 0))) ∧ Aside0 (wc.heap[gb190]? = some (.cells #[.int .i64 a2_0, .int .i64 a2_1] 40 (0, 0))) ∧ Aside0 (wc.heap[gb191]? = some (.cells #[.int .i64 0, .int .i64 0] 40 (0, 0))) ∧ Aside0 (Below w.heap.size w wc))
         case first =>
          have H := HC61.out
          clear HC61
          by_cases c62 : a0 = 1
          ·rw [if_pos c62] at H
           have c62b0 : (a0 == 1) = true := beq_iff_eq.mpr c62
           have c62b1 : (a0 != 1) = false := bne_eq_false_iff_eq.mpr c62
           clear c62
           (first | rw [c62b0] | (simp only [i64_w, i32_w]; rw [c62b0]) | skip)
           have H' := Aside0.mk H
           clear H
           go_wp2
           go_meet
           case rel => exact ⟨_, ((a0 == 1)), (by first | rfl | (simp; done) | (simp [*]; done)), H', ⟨by have := HJ3.out; have := HJ29.out; have := HJ56.out; first | omega | exact Nat.le_refl _⟩, ⟨bz BK189.out⟩, ⟨bz BK190.out⟩, ⟨bz BK191.out⟩, ⟨hz3 HB.out GE189.out GE190.out GE191.out⟩⟩
          ·rw [if_neg c62] at H
           have c62b0 : (a0 == 1) = false := beq_eq_false_iff_ne.mpr c62
           have c62b1 : (a0 != 1) = true := bne_iff_ne.mpr c62
           (first | rw [c62b0] | (simp only [i64_w, i32_w]; rw [c62b0]) | skip)
           have H' := Aside0.mk H
           clear H
           go_wp2
           go_meet
           case rel => exact ⟨_, ((a0 == 11)), (by first | rfl | (simp; done) | (simp [*]; done)), H', ⟨by have := HJ3.out; have := HJ29.out; have := HJ56.out; first | omega | exact Nat.le_refl _⟩, ⟨bz BK189.out⟩, ⟨bz BK190.out⟩, ⟨bz BK191.out⟩, ⟨hz3 HB.out GE189.out GE190.out GE191.out⟩⟩
         case rest =>
          clear HC61
          try clear c1
          try clear c2
          try clear p2
          try clear c3
          try clear c4
          try clear c5
          try clear c6
          try clear c7
          try clear c9
          try clear c11
          try clear c13
          try clear c14
          try clear c17
          try clear c20
          try clear c21
          try clear c24
          try clear c27
          try clear c28
          try clear c31
          try clear c31b0
          try clear c31b1
          try clear c32
          try clear c33
          try clear c35
          try clear c37
          try clear c38
          try clear c40
          try clear c42
          try clear c42b0
          try clear c42b1
          try clear c43
          try clear c44
          try clear c46
          try clear c50
          try clear c51
          try clear c53
          try clear c58
          try clear c58b0
          try clear c58b1
          try clear c59
          try clear c59b0
          try clear c59b1
          try clear c60
          try clear c60b0
          try clear c60b1
          try clear c62
          try clear c62b0
          try clear c62b1
          try clear hcz15_0
          try clear hcz15_1
          try clear hcz18_0
          try clear hcz18_1
          try clear hcz22_0
          try clear hcz22_1
          try clear hcz29_0
          try clear hcz29_1
          try clear hcz34_0
          try clear hcz34_1
          try clear hcz36_0
          try clear hcz36_1
          try clear hcz39_0
          try clear hcz39_1
          try clear hcz45_0
          try clear hcz45_1
          try clear hcz47_0
          try clear hcz47_1
          try clear hcz48_0
          try clear hcz48_1
          try clear hcz52_0
          try clear hcz52_1
          try clear hcz54_0
          try clear hcz54_1
          try clear hcz56_0
          try clear hcz56_1
          try clear hfz15_0
          try clear hfz15_1
          try clear hfz18_0
          try clear hfz18_1
          try clear hfz22_0
          try clear hfz22_1
          try clear hfz29_0
          try clear hfz29_1
          try clear hfz34_0
          try clear hfz34_1
          try clear hfz36_0
          try clear hfz36_1
          try clear hfz39_0
          try clear hfz39_1
          try clear hfz45_0
          try clear hfz45_1
          try clear hfz47_0
          try clear hfz47_1
          try clear hfz48_0
          try clear hfz48_1
          try clear hfz52_0
          try clear hfz52_1
          try clear hfz54_0
          try clear hfz54_1
          try clear hfz56_0
          try clear hfz56_1
          try clear p2
          obtain ⟨kq, x55_60, rfl, HA, HJ60, BK189, BK190, BK191, HB⟩ := hcut
          cases kq with
          | zero => exact absurd HA.out (by simp [impl_RestDo.j3])
          | succ kj60 =>
           have H := HA.out
           clear HA
           simp only [impl_RestDo.j3] at H
           by_cases c63 : x55_60 = true
           ·subst c63
            have H1 : ((impl_restGcd.f kj60 (([a1_0, a2_0, x9_56] : List Int))).bind fun t204 => ((impl_restOf.f kj60 (wrap64 (a1_1 + a2_1)) t204).bind fun bt205 => (some (bt205.1, bt205.2)))) = some (r1, r2) := by rw [if_pos rfl] at H; exact H
            clear H
            have H := H1
            clear H1
            obtain ⟨y201, hy201⟩ : ∃ y_ : List Int, y_ = (([a1_0, a2_0, x9_56] : List Int)) := ⟨_, rfl⟩
            replace H : ((impl_restGcd.f kj60 y201).bind fun t204 => ((impl_restOf.f kj60 (wrap64 (a1_1 + a2_1)) t204).bind fun bt205 => (some (bt205.1, bt205.2)))) = some (r1, r2) := by first | (rw [hy201]; with_reducible exact H) | (have H2_ := (Option.bind_some _ _).symm.trans H; rw [hy201]; with_reducible exact H2_) | (have H2_ := (Option.bind_some _ _).symm.trans H; with_reducible exact H2_) | with_reducible exact H | (rw [hy201]; exact H) | exact H
            have Ny201 := Aside0.mk hy201
            clear hy201
            replace H := Option.bind_eq_some_iff.mp H
            obtain ⟨t204, A640, H⟩ := H
            replace H : ((impl_restOf.f kj60 (wrap64 (a1_1 + a2_1)) t204).bind fun bt205 => (some (bt205.1, bt205.2))) = some (r1, r2) := H
            have A64 := Aside0.mk A640
            clear A640
            replace H := Option.bind_eq_some_iff.mp H
            obtain ⟨⟨t205, t206⟩, A650, H⟩ := H
            replace H : (some (t205, t206)) = some (r1, r2) := H
            have A65 := Aside0.mk A650
            clear A650
            simp only [Option.some.injEq, Prod.mk.injEq] at H
            obtain ⟨rfl, rfl⟩ := H
            try go_wp2
            have n0_ := Aside0.mk (blk_drew BK189.out)
            have n1_ := Aside0.mk (blk_drew BK190.out)
            have n2_ := Aside0.mk (blk_drew BK191.out)
            have n3_ := Aside0.mk (below_drew1 HB.out)
            clear BK189
            clear BK190
            clear BK191
            clear HB
            have BK189 := n0_
            have BK190 := n1_
            have BK191 := n2_
            have HB := n3_
            clear n0_ n1_ n2_ n3_
            refine start_ (n := 14) (S := fun w' => w'.cell? ⟨gb189, 0, none⟩ = some (.int .i64 a1_0) ∧ w'.cell? ⟨gb189, 1, none⟩ = some (.int .i64 a1_1) ∧ w'.cell? ⟨gb190, 0, none⟩ = some (.int .i64 a2_0) ∧ w'.cell? ⟨gb190, 1, none⟩ = some (.int .i64 a2_1)) (ds := []) #[false, false, false, false, false, false, false, false, false, false, false, false, false, false] (by kernel_rfl) rfl rfl ⟨(blk_cell BK189.out 0).trans rfl, (blk_cell BK189.out 1).trans rfl, (blk_cell BK190.out 0).trans rfl, (blk_cell BK190.out 1).trans rfl⟩ (fun hHeld => ?_); refine with_tabW impl_RestDo.tab17 impl_RestDo.bits17 (fun HT_ HW_ => ?_)
            generalize wc.drew = w66 at BK189 BK190 BK191 HB hHeld ⊢
            refine pure_ (i := 0) (N := some 58) (v := ?_) (a' := ?_) #[true, false, false, false, false, false, false, false, false, false, false, false, false, false] rfl rfl (any_of HT_.out (by kernel_rfl)) (fun _ _ _ h => h) (Or.inl ⟨by rfl, ?_⟩) ?_ ?_
            rotate_left
            ·intro w'
             go_simp
             with_reducible rfl
            rotate_left
            ·exact pz
            refine pure_ (i := 2) (N := some 60) (v := ?_) (a' := ?_) #[true, false, true, false, false, false, false, false, false, false, false, false, false, false] rfl rfl (any_of HT_.out (by kernel_rfl)) (fun _ _ _ h => h) (Or.inl ⟨by rfl, ?_⟩) ?_ ?_
            rotate_left
            ·intro w'
             go_simp
             with_reducible rfl
            rotate_left
            ·exact pz
            refine pure_ (i := 5) (N := some 63) (v := ?_) (a' := ?_) #[true, false, true, false, false, true, false, false, false, false, false, false, false, false] rfl rfl (any_of HT_.out (by kernel_rfl)) (fun _ _ _ h => h) (Or.inl ⟨by rfl, ?_⟩) ?_ ?_
            rotate_left
            ·intro w'
             go_simp
             with_reducible rfl
            rotate_left
            ·exact pz
            refine pure_ (i := 7) (N := some 65) (v := ?_) (a' := ?_) #[true, false, true, false, false, true, false, true, false, false, false, false, false, false] rfl rfl (any_of HT_.out (by kernel_rfl)) (fun _ _ _ h => h) (Or.inl ⟨by rfl, ?_⟩) ?_ ?_
            rotate_left
            ·intro w'
             go_simp
             with_reducible rfl
            rotate_left
            ·exact pz
            refine pure_ (i := 9) (N := some 67) (v := ?_) (a' := ?_) #[true, false, true, false, false, true, false, true, false, true, false, false, false, false] rfl rfl (any_of HT_.out (by kernel_rfl)) (fun _ _ _ h => h) (Or.inl ⟨by rfl, ?_⟩) ?_ ?_
            rotate_left
            ·intro w'
             go_simp
             with_reducible rfl
            rotate_left
            ·exact pz
            refine take_ (i := 1) (N := some 59) (v := ?_) (a' := ?_) #[true, true, true, false, false, true, false, true, false, true, false, false, false, false] rfl rfl (take_ofW HT_.out HW_.out (by kernel_rfl)) (fun _ _ _ h => h) (Or.inl ⟨by rfl, ?_⟩) hHeld ?_ ?_
            rotate_left
            ·rintro w' ⟨s0, s1, s2, s3⟩
             go_simp
             with_reducible rfl
            rotate_left
            ·exact pz
            refine take_ (i := 3) (N := some 61) (v := ?_) (a' := ?_) #[true, true, true, true, false, true, false, true, false, true, false, false, false, false] rfl rfl (take_ofW HT_.out HW_.out (by kernel_rfl)) (fun _ _ _ h => h) (Or.inl ⟨by rfl, ?_⟩) hHeld ?_ ?_
            rotate_left
            ·rintro w' ⟨s0, s1, s2, s3⟩
             go_simp
             with_reducible rfl
            rotate_left
            ·exact pz
            refine pure_ (i := 4) (N := some 62) (v := ?_) (a' := ?_) #[true, true, true, true, true, true, false, true, false, true, false, false, false, false] rfl rfl (any_of HT_.out (by kernel_rfl)) (fun _ _ _ h => h) (Or.inl ⟨by rfl, ?_⟩) ?_ ?_
            rotate_left
            ·intro w'
             go_simp
             with_reducible rfl
            rotate_left
            ·exact pz
            refine take_ (i := 6) (N := some 64) (v := ?_) (a' := ?_) #[true, true, true, true, true, true, true, true, false, true, false, false, false, false] rfl rfl (take_ofW HT_.out HW_.out (by kernel_rfl)) (fun _ _ _ h => h) (Or.inl ⟨by rfl, ?_⟩) hHeld ?_ ?_
            rotate_left
            ·rintro w' ⟨s0, s1, s2, s3⟩
             go_simp
             with_reducible rfl
            rotate_left
            ·exact pz
            refine take_ (i := 8) (N := some 66) (v := ?_) (a' := ?_) #[true, true, true, true, true, true, true, true, true, true, false, false, false, false] rfl rfl (take_ofW HT_.out HW_.out (by kernel_rfl)) (fun _ _ _ h => h) (Or.inl ⟨by rfl, ?_⟩) hHeld ?_ ?_
            rotate_left
            ·rintro w' ⟨s0, s1, s2, s3⟩
             go_simp
             with_reducible rfl
            rotate_left
            ·exact pz
            refine one_ (i := 10) (N := some 68) #[true, true, true, true, true, true, true, true, true, true, true, false, false, false] rfl rfl (one_of HT_.out (by kernel_rfl)) (by decide) (fun K hK => ?_)
            refine Kd.R_lit_step (Kd.int .i64) _ 3 ?hg (N := 68) ?hd (xs := ([a1_0, a2_0, x9_56] : List Int)) (inner := [.int .i64 a1_0, .int .i64 a2_0, .int .i64 x9_56]) (ok := fun _ => True) (okp := fun _ => True) ?hr ?hp (fun _ hk => hk) trivial (Below.refl _ _) (Nat.le_refl _) (by simp) ?_; (case hd => rfl); (case hg => rfl); (case hr => first | (go_simp; done) | (go_simp; rfl)); (case hp => exact (Reps.one (show Kd.M (Kd.int .i64) _ _ _ a1_0 [.int .i64 a1_0] from rfl) (Reps.one (show Kd.M (Kd.int .i64) _ _ _ a2_0 [.int .i64 a2_0] from rfl) (Reps.one (show Kd.M (Kd.int .i64) _ _ _ x9_56 [.int .i64 x9_56] from rfl) (Reps.none _ _)))))
            intro v202 w67 ho68 hb hg_ hnew_
            clear hg_ hnew_
            (first | rw [← Ny201.out] at ho68 | (simp only [Int.reduceToNat] at ho68; rw [← Ny201.out] at ho68))
            have n0_ := Aside0.mk (Kd.R_lower ho68 (below_size (hz3 HB.out GE189.out GE190.out GE191.out)))
            have n1_ := Aside0.mk (blk_below (g := gb189) (o := .cells #[.int .i64 a1_0, .int .i64 a1_1] 40 (0, 0)) (bz BK189.out) hb)
            have n2_ := Aside0.mk (blk_below (g := gb190) (o := .cells #[.int .i64 a2_0, .int .i64 a2_1] 40 (0, 0)) (bz BK190.out) hb)
            have n3_ := Aside0.mk (blk_below (g := gb191) (o := .cells #[.int .i64 0, .int .i64 0] 40 (0, 0)) (bz BK191.out) hb)
            have n4_ := Aside0.mk (below_step (hz3 HB.out GE189.out GE190.out GE191.out) hb)
            clear BK189
            clear BK190
            clear BK191
            clear HB
            have HO203 := n0_
            have BK189 := n1_
            have BK190 := n2_
            have BK191 := n3_
            have HB := n4_
            clear n0_ n1_ n2_ n3_ n4_
            clear hb ho68
            obtain ⟨Ao69, co69, eo69⟩ := Kd.R_slice HO203.out
            (first | subst eo69 | (injection eo69 with f1_ f2_ f3_; have f4_ := f1_.symm; have f5_ := f3_.symm; clear f1_ f2_ f3_; subst f4_; subst f5_))
            refine hK.out _ _ ⟨(blk_cell BK189.out 0).trans rfl, (blk_cell BK189.out 1).trans rfl, (blk_cell BK190.out 0).trans rfl, (blk_cell BK190.out 1).trans rfl⟩ (fun hHeld => ?_)
            clear hK K
            refine norm_ (a' := ?_) ?_ ?_
            rotate_left
            ·show Act.put _ (some 68) _ = _
             simp only [Act.put, List.setIfInBounds_toArray, List.set_cons_zero, List.set_cons_succ, i64_w, i32_w]
             rfl
            refine one_ (i := 11) (N := some 69) #[true, true, true, true, true, true, true, true, true, true, true, true, false, false] rfl rfl (one_of HT_.out (by kernel_rfl)) (by decide) (fun K hK => ?_)
            refine goes_ Try.func72 (by kernel_rfl) rfl #[.slice Ao69 y201.length co69] (by rfl) rfl rfl mz ?_
            with_reducible refine (impl_restGcd.calls kj60 _ _ y201 t204 _ ?side1 ?side2 A64.out).mono ?_
            (case side1 => repeat (first | exact (Kd.R_reads' HO203.out).2.2 | (with_reducible refine Kd.C_alloc ?_ _) | (with_reducible refine Kd.C_drewN ?_ _) | (with_reducible refine Kd.C_drew ?_)))
            (case side2 => exact (Kd.R_reads' HO203.out).2.1)
            rintro e w' ⟨rfl, ⟨nd, rfl⟩⟩
            refine ⟨_, rfl, ?_⟩
            refine hK.out _ _ ⟨(blk_cell BK189.out 0).trans rfl, (blk_cell BK189.out 1).trans rfl, (blk_cell BK190.out 0).trans rfl, (blk_cell BK190.out 1).trans rfl⟩ (fun hHeld => ?_)
            clear hK K
            refine norm_ (a' := ?_) ?_ ?_
            rotate_left
            ·show Act.put _ (some 69) _ = _
             simp only [Act.put, List.setIfInBounds_toArray, List.set_cons_zero, List.set_cons_succ, i64_w, i32_w]
             rfl
            refine one_ (i := 12) (N := some 70) #[true, true, true, true, true, true, true, true, true, true, true, true, true, false] rfl rfl (one_of HT_.out (by kernel_rfl)) (by decide) (fun K hK => ?_)
            refine goes_ Try.func71 (by kernel_rfl) rfl #[.int .i64 (wrap64 (a1_1 + a2_1)), .int .i64 t204] (by rfl) rfl rfl mz ?_
            with_reducible refine (impl_restOf.calls kj60 (wrap64 (a1_1 + a2_1)) t204 t205 t206 _ A65.out).mono ?_
            rintro e w70 ⟨rfl, hb⟩
            refine ⟨_, rfl, ?_⟩
            have n0_ := Aside0.mk (Kd.R_below (by (with_reducible repeat (first | apply Kd.R_alloc | apply Kd.R_drewN | apply Kd.R_drew)); exact HO203.out) hb)
            have n1_ := Aside0.mk (blk_below (g := gb189) (o := .cells #[.int .i64 a1_0, .int .i64 a1_1] 40 (0, 0)) (bz BK189.out) hb)
            have n2_ := Aside0.mk (blk_below (g := gb190) (o := .cells #[.int .i64 a2_0, .int .i64 a2_1] 40 (0, 0)) (bz BK190.out) hb)
            have n3_ := Aside0.mk (blk_below (g := gb191) (o := .cells #[.int .i64 0, .int .i64 0] 40 (0, 0)) (bz BK191.out) hb)
            have n4_ := Aside0.mk (below_step (hz3 HB.out GE189.out GE190.out GE191.out) hb)
            clear HO203
            clear BK189
            clear BK190
            clear BK191
            clear HB
            have HO203 := n0_
            have BK189 := n1_
            have BK190 := n2_
            have BK191 := n3_
            have HB := n4_
            clear n0_ n1_ n2_ n3_ n4_
            (try clear hb)
            (try clear hb2)
            (try clear hk)
            (try clear hi)
            refine hK.out _ _ ⟨(blk_cell BK189.out 0).trans rfl, (blk_cell BK189.out 1).trans rfl, (blk_cell BK190.out 0).trans rfl, (blk_cell BK190.out 1).trans rfl⟩ (fun hHeld => ?_)
            clear hK K
            refine norm_ (a' := ?_) ?_ ?_
            rotate_left
            ·show Act.put _ (some 70) _ = _
             simp only [Act.put, List.setIfInBounds_toArray, List.set_cons_zero, List.set_cons_succ, i64_w, i32_w]
             rfl
            refine one_ (i := 13) (N := none) #[true, true, true, true, true, true, true, true, true, true, true, true, true, true] rfl rfl (one_of HT_.out (by kernel_rfl)) (by decide) (fun K hK => ?_)
            have hs71 : w70.cell? ⟨gb191, 0, none⟩ = some (.int .i64 0) := (blk_cell BK191.out 0).trans rfl
            have hfs71 := blk_frozen BK191.out 0
            have hns71_0 := NB189_191.out
            have hns71_1 := NB190_191.out
            have hms71_0 := NB191_189.out
            have hms71_1 := NB191_190.out
            have hs72 : w70.cell? ⟨gb191, 1, none⟩ = some (.int .i64 0) := (blk_cell BK191.out 1).trans rfl
            have hfs72 := blk_frozen BK191.out 1
            have hns72_0 := NB189_191.out
            have hns72_1 := NB190_191.out
            have hms72_0 := NB191_189.out
            have hms72_1 := NB191_190.out
            refine skip_ (w1 := ?_) (by rfl) rfl ?_ ?_
            rotate_left
            ·go_simp
             rfl
            refine hK.out _ _ ⟨((cell_far (p := ⟨gb191, _, none⟩) NB189_191.out _).trans (((cell_far (p := ⟨gb191, _, none⟩) NB189_191.out _).trans (hHeld.1)))), ((cell_far (p := ⟨gb191, _, none⟩) NB189_191.out _).trans (((cell_far (p := ⟨gb191, _, none⟩) NB189_191.out _).trans (hHeld.2.1)))), ((cell_far (p := ⟨gb191, _, none⟩) NB190_191.out _).trans (((cell_far (p := ⟨gb191, _, none⟩) NB190_191.out _).trans (hHeld.2.2.1)))), ((cell_far (p := ⟨gb191, _, none⟩) NB190_191.out _).trans (((cell_far (p := ⟨gb191, _, none⟩) NB190_191.out _).trans (hHeld.2.2.2))))⟩ (fun hHeld => ?_)
            clear hK K
            refine done_ (done_of HT_.out (by kernel_rfl)) ?_
            try go_wp2
            refine bodyPost_ret (results_cell_row rfl _ _ gb191 40 #[.int .i64 t205, .int .i64 t206] (0, 0) _ rfl (by (with_reducible repeat (first | refine blk_drewN ?_ _ | refine blk_drew ?_ | refine blk_alloc ?_ _)); refine blk_put (cs := #[.int .i64 t205, .int .i64 0]) ?_ 1 _ rfl; (with_reducible repeat (first | refine blk_drewN ?_ _ | refine blk_drew ?_ | refine blk_alloc ?_ _)); refine blk_put (cs := #[.int .i64 0, .int .i64 0]) ?_ 0 _ rfl; (with_reducible repeat (first | refine blk_drewN ?_ _ | refine blk_drew ?_ | refine blk_alloc ?_ _)); exact BK191.out) Try.underlying40 rfl (by kernel_rfl)) rfl ?_
            exact ⟨by first | rfl | (simp [errW_none, errW_some] <;> rfl) | (simp [*, errW_none, errW_some] <;> rfl), hz3 HB.out GE189.out GE190.out GE191.out⟩
           ·replace c63 := Bool.eq_false_iff.mpr c63
            subst c63
            have H1 : (if a0 = 2 then (impl_RestDo.j4 kj60 x9_56 a0 (a0 == 2) a1_0 a1_1 a2_0 a2_1) else (impl_RestDo.j4 kj60 x9_56 a0 (a0 == 12) a1_0 a1_1 a2_0 a2_1)) = some (r1, r2) := by rw [if_neg (show ¬ (false = true) by decide)] at H; exact H
            clear H
            have H := H1
            clear H1
            have HC73 := Aside0.mk H
            clear H
            go_upto_if 71 with (fail)
            go_cut [71] (fun v71 wc => ∃ (kq : Nat) (x71_72 : Bool), v71 = .bool x71_72 ∧ Aside0 (impl_RestDo.j4 kq x9_56 a0 x71_72 a1_0 a1_1 a2_0 a2_1 = some (r1, r2)) ∧ Aside0 (kq ≤ kj60) ∧ Aside0 (wc.heap[gb189]? = some (.cells #[.int .i64 a1_0, .int .i64 a1_1] 40 (0, 0))) ∧ Aside0 (wc.heap[gb190]? = some (.cells #[.int .i64 a2_0, .int .i64 a2_1] 40 (0, 0))) ∧ Aside0 (wc.heap[gb191]? = some (.cells #[.int .i64 0, .int .i64 0] 40 (0, 0))) ∧ Aside0 (Below w.heap.size w wc))
            case first =>
             have H := HC73.out
             clear HC73
             by_cases c74 : a0 = 2
             ·rw [if_pos c74] at H
              have c74b0 : (a0 == 2) = true := beq_iff_eq.mpr c74
              have c74b1 : (a0 != 2) = false := bne_eq_false_iff_eq.mpr c74
              clear c74
              (first | rw [c74b0] | (simp only [i64_w, i32_w]; rw [c74b0]) | skip)
              have H' := Aside0.mk H
              clear H
              go_wp2
              go_meet
              case rel => exact ⟨_, ((a0 == 2)), (by first | rfl | (simp; done) | (simp [*]; done)), H', ⟨by have := HJ3.out; have := HJ29.out; have := HJ56.out; have := HJ60.out; first | omega | exact Nat.le_refl _⟩, ⟨bz BK189.out⟩, ⟨bz BK190.out⟩, ⟨bz BK191.out⟩, ⟨hz3 HB.out GE189.out GE190.out GE191.out⟩⟩
             ·rw [if_neg c74] at H
              have c74b0 : (a0 == 2) = false := beq_eq_false_iff_ne.mpr c74
              have c74b1 : (a0 != 2) = true := bne_iff_ne.mpr c74
              (first | rw [c74b0] | (simp only [i64_w, i32_w]; rw [c74b0]) | skip)
              have H' := Aside0.mk H
              clear H
              go_wp2
              go_meet
              case rel => exact ⟨_, ((a0 == 12)), (by first | rfl | (simp; done) | (simp [*]; done)), H', ⟨by have := HJ3.out; have := HJ29.out; have := HJ56.out; have := HJ60.out; first | omega | exact Nat.le_refl _⟩, ⟨bz BK189.out⟩, ⟨bz BK190.out⟩, ⟨bz BK191.out⟩, ⟨hz3 HB.out GE189.out GE190.out GE191.out⟩⟩
            case rest =>
             clear HC73
             try clear c1
             try clear c2
             try clear p2
             try clear c3
             try clear c4
             try clear c5
             try clear c6
             try clear p6
             try clear c7
             try clear c9
             try clear c11
             try clear c13
             try clear c14
             try clear c17
             try clear c20
             try clear c21
             try clear c24
             try clear c27
             try clear c28
             try clear c31
             try clear c31b0
             try clear c31b1
             try clear c32
             try clear c33
             try clear c35
             try clear c37
             try clear c38
             try clear c40
             try clear c42
             try clear c42b0
             try clear c42b1
             try clear c43
             try clear c44
             try clear c46
             try clear c50
             try clear c51
             try clear c53
             try clear c58
             try clear c58b0
             try clear c58b1
             try clear c59
             try clear c59b0
             try clear c59b1
             try clear c60
             try clear c60b0
             try clear c60b1
             try clear c62
             try clear c62b0
             try clear c62b1
             try clear c63
             try clear p64
             try clear c70
             try clear c71
             try clear c72
             try clear c74
             try clear c74b0
             try clear c74b1
             try clear hcz15_0
             try clear hcz15_1
             try clear hcz18_0
             try clear hcz18_1
             try clear hcz22_0
             try clear hcz22_1
             try clear hcz29_0
             try clear hcz29_1
             try clear hcz34_0
             try clear hcz34_1
             try clear hcz36_0
             try clear hcz36_1
             try clear hcz39_0
             try clear hcz39_1
             try clear hcz45_0
             try clear hcz45_1
             try clear hcz47_0
             try clear hcz47_1
             try clear hcz48_0
             try clear hcz48_1
             try clear hcz52_0
             try clear hcz52_1
             try clear hcz54_0
             try clear hcz54_1
             try clear hcz56_0
             try clear hcz56_1
             try clear hfz15_0
             try clear hfz15_1
             try clear hfz18_0
             try clear hfz18_1
             try clear hfz22_0
             try clear hfz22_1
             try clear hfz29_0
             try clear hfz29_1
             try clear hfz34_0
             try clear hfz34_1
             try clear hfz36_0
             try clear hfz36_1
             try clear hfz39_0
             try clear hfz39_1
             try clear hfz45_0
             try clear hfz45_1
             try clear hfz47_0
             try clear hfz47_1
             try clear hfz48_0
             try clear hfz48_1
             try clear hfz52_0
             try clear hfz52_1
             try clear hfz54_0
             try clear hfz54_1
             try clear hfz56_0
             try clear hfz56_1
             try clear p2
             obtain ⟨kq, x71_72, rfl, HA, HJ72, BK189, BK190, BK191, HB⟩ := hcut
             cases kq with
             | zero => exact absurd HA.out (by simp [impl_RestDo.j4])
             | succ kj72 =>
              have H := HA.out
              clear HA
              simp only [impl_RestDo.j4] at H
              by_cases c75 : x71_72 = true
              ·subst c75
               have H1 : ((impl_restGcd.f kj72 (([a1_0, a2_0, x9_56] : List Int))).bind fun t210 => ((impl_restOf.f kj72 (wrap64 (a1_1 - a2_1)) t210).bind fun bt211 => (some (bt211.1, bt211.2)))) = some (r1, r2) := by rw [if_pos rfl] at H; exact H
               clear H
               have H := H1
               clear H1
               obtain ⟨y207, hy207⟩ : ∃ y_ : List Int, y_ = (([a1_0, a2_0, x9_56] : List Int)) := ⟨_, rfl⟩
               replace H : ((impl_restGcd.f kj72 y207).bind fun t210 => ((impl_restOf.f kj72 (wrap64 (a1_1 - a2_1)) t210).bind fun bt211 => (some (bt211.1, bt211.2)))) = some (r1, r2) := by first | (rw [hy207]; with_reducible exact H) | (have H2_ := (Option.bind_some _ _).symm.trans H; rw [hy207]; with_reducible exact H2_) | (have H2_ := (Option.bind_some _ _).symm.trans H; with_reducible exact H2_) | with_reducible exact H | (rw [hy207]; exact H) | exact H
               have Ny207 := Aside0.mk hy207
               clear hy207
               replace H := Option.bind_eq_some_iff.mp H
               obtain ⟨t210, A760, H⟩ := H
               replace H : ((impl_restOf.f kj72 (wrap64 (a1_1 - a2_1)) t210).bind fun bt211 => (some (bt211.1, bt211.2))) = some (r1, r2) := H
               have A76 := Aside0.mk A760
               clear A760
               replace H := Option.bind_eq_some_iff.mp H
               obtain ⟨⟨t211, t212⟩, A770, H⟩ := H
               replace H : (some (t211, t212)) = some (r1, r2) := H
               have A77 := Aside0.mk A770
               clear A770
               simp only [Option.some.injEq, Prod.mk.injEq] at H
               obtain ⟨rfl, rfl⟩ := H
               try go_wp2
               have n0_ := Aside0.mk (blk_drew BK189.out)
               have n1_ := Aside0.mk (blk_drew BK190.out)
               have n2_ := Aside0.mk (blk_drew BK191.out)
               have n3_ := Aside0.mk (below_drew1 HB.out)
               clear BK189
               clear BK190
               clear BK191
               clear HB
               have BK189 := n0_
               have BK190 := n1_
               have BK191 := n2_
               have HB := n3_
               clear n0_ n1_ n2_ n3_
               refine start_ (n := 14) (S := fun w' => w'.cell? ⟨gb189, 0, none⟩ = some (.int .i64 a1_0) ∧ w'.cell? ⟨gb189, 1, none⟩ = some (.int .i64 a1_1) ∧ w'.cell? ⟨gb190, 0, none⟩ = some (.int .i64 a2_0) ∧ w'.cell? ⟨gb190, 1, none⟩ = some (.int .i64 a2_1)) (ds := []) #[false, false, false, false, false, false, false, false, false, false, false, false, false, false] (by kernel_rfl) rfl rfl ⟨(blk_cell BK189.out 0).trans rfl, (blk_cell BK189.out 1).trans rfl, (blk_cell BK190.out 0).trans rfl, (blk_cell BK190.out 1).trans rfl⟩ (fun hHeld => ?_); refine with_tabW impl_RestDo.tab20 impl_RestDo.bits20 (fun HT_ HW_ => ?_)
               generalize wc.drew = w78 at BK189 BK190 BK191 HB hHeld ⊢
               refine pure_ (i := 0) (N := some 74) (v := ?_) (a' := ?_) #[true, false, false, false, false, false, false, false, false, false, false, false, false, false] rfl rfl (any_of HT_.out (by kernel_rfl)) (fun _ _ _ h => h) (Or.inl ⟨by rfl, ?_⟩) ?_ ?_
               rotate_left
               ·intro w'
                go_simp
                with_reducible rfl
               rotate_left
               ·exact pz
               refine pure_ (i := 2) (N := some 76) (v := ?_) (a' := ?_) #[true, false, true, false, false, false, false, false, false, false, false, false, false, false] rfl rfl (any_of HT_.out (by kernel_rfl)) (fun _ _ _ h => h) (Or.inl ⟨by rfl, ?_⟩) ?_ ?_
               rotate_left
               ·intro w'
                go_simp
                with_reducible rfl
               rotate_left
               ·exact pz
               refine pure_ (i := 5) (N := some 79) (v := ?_) (a' := ?_) #[true, false, true, false, false, true, false, false, false, false, false, false, false, false] rfl rfl (any_of HT_.out (by kernel_rfl)) (fun _ _ _ h => h) (Or.inl ⟨by rfl, ?_⟩) ?_ ?_
               rotate_left
               ·intro w'
                go_simp
                with_reducible rfl
               rotate_left
               ·exact pz
               refine pure_ (i := 7) (N := some 81) (v := ?_) (a' := ?_) #[true, false, true, false, false, true, false, true, false, false, false, false, false, false] rfl rfl (any_of HT_.out (by kernel_rfl)) (fun _ _ _ h => h) (Or.inl ⟨by rfl, ?_⟩) ?_ ?_
               rotate_left
               ·intro w'
                go_simp
                with_reducible rfl
               rotate_left
               ·exact pz
               refine pure_ (i := 9) (N := some 83) (v := ?_) (a' := ?_) #[true, false, true, false, false, true, false, true, false, true, false, false, false, false] rfl rfl (any_of HT_.out (by kernel_rfl)) (fun _ _ _ h => h) (Or.inl ⟨by rfl, ?_⟩) ?_ ?_
               rotate_left
               ·intro w'
                go_simp
                with_reducible rfl
               rotate_left
               ·exact pz
               refine take_ (i := 1) (N := some 75) (v := ?_) (a' := ?_) #[true, true, true, false, false, true, false, true, false, true, false, false, false, false] rfl rfl (take_ofW HT_.out HW_.out (by kernel_rfl)) (fun _ _ _ h => h) (Or.inl ⟨by rfl, ?_⟩) hHeld ?_ ?_
               rotate_left
               ·rintro w' ⟨s0, s1, s2, s3⟩
                go_simp
                with_reducible rfl
               rotate_left
               ·exact pz
               refine take_ (i := 3) (N := some 77) (v := ?_) (a' := ?_) #[true, true, true, true, false, true, false, true, false, true, false, false, false, false] rfl rfl (take_ofW HT_.out HW_.out (by kernel_rfl)) (fun _ _ _ h => h) (Or.inl ⟨by rfl, ?_⟩) hHeld ?_ ?_
               rotate_left
               ·rintro w' ⟨s0, s1, s2, s3⟩
                go_simp
                with_reducible rfl
               rotate_left
               ·exact pz
               refine pure_ (i := 4) (N := some 78) (v := ?_) (a' := ?_) #[true, true, true, true, true, true, false, true, false, true, false, false, false, false] rfl rfl (any_of HT_.out (by kernel_rfl)) (fun _ _ _ h => h) (Or.inl ⟨by rfl, ?_⟩) ?_ ?_
               rotate_left
               ·intro w'
                go_simp
                with_reducible rfl
               rotate_left
               ·exact pz
               refine take_ (i := 6) (N := some 80) (v := ?_) (a' := ?_) #[true, true, true, true, true, true, true, true, false, true, false, false, false, false] rfl rfl (take_ofW HT_.out HW_.out (by kernel_rfl)) (fun _ _ _ h => h) (Or.inl ⟨by rfl, ?_⟩) hHeld ?_ ?_
               rotate_left
               ·rintro w' ⟨s0, s1, s2, s3⟩
                go_simp
                with_reducible rfl
               rotate_left
               ·exact pz
               refine take_ (i := 8) (N := some 82) (v := ?_) (a' := ?_) #[true, true, true, true, true, true, true, true, true, true, false, false, false, false] rfl rfl (take_ofW HT_.out HW_.out (by kernel_rfl)) (fun _ _ _ h => h) (Or.inl ⟨by rfl, ?_⟩) hHeld ?_ ?_
               rotate_left
               ·rintro w' ⟨s0, s1, s2, s3⟩
                go_simp
                with_reducible rfl
               rotate_left
               ·exact pz
               refine one_ (i := 10) (N := some 84) #[true, true, true, true, true, true, true, true, true, true, true, false, false, false] rfl rfl (one_of HT_.out (by kernel_rfl)) (by decide) (fun K hK => ?_)
               refine Kd.R_lit_step (Kd.int .i64) _ 3 ?hg (N := 84) ?hd (xs := ([a1_0, a2_0, x9_56] : List Int)) (inner := [.int .i64 a1_0, .int .i64 a2_0, .int .i64 x9_56]) (ok := fun _ => True) (okp := fun _ => True) ?hr ?hp (fun _ hk => hk) trivial (Below.refl _ _) (Nat.le_refl _) (by simp) ?_; (case hd => rfl); (case hg => rfl); (case hr => first | (go_simp; done) | (go_simp; rfl)); (case hp => exact (Reps.one (show Kd.M (Kd.int .i64) _ _ _ a1_0 [.int .i64 a1_0] from rfl) (Reps.one (show Kd.M (Kd.int .i64) _ _ _ a2_0 [.int .i64 a2_0] from rfl) (Reps.one (show Kd.M (Kd.int .i64) _ _ _ x9_56 [.int .i64 x9_56] from rfl) (Reps.none _ _)))))
               intro v208 w79 ho80 hb hg_ hnew_
               clear hg_ hnew_
               (first | rw [← Ny207.out] at ho80 | (simp only [Int.reduceToNat] at ho80; rw [← Ny207.out] at ho80))
               have n0_ := Aside0.mk (Kd.R_lower ho80 (below_size (hz3 HB.out GE189.out GE190.out GE191.out)))
               have n1_ := Aside0.mk (blk_below (g := gb189) (o := .cells #[.int .i64 a1_0, .int .i64 a1_1] 40 (0, 0)) (bz BK189.out) hb)
               have n2_ := Aside0.mk (blk_below (g := gb190) (o := .cells #[.int .i64 a2_0, .int .i64 a2_1] 40 (0, 0)) (bz BK190.out) hb)
               have n3_ := Aside0.mk (blk_below (g := gb191) (o := .cells #[.int .i64 0, .int .i64 0] 40 (0, 0)) (bz BK191.out) hb)
               have n4_ := Aside0.mk (below_step (hz3 HB.out GE189.out GE190.out GE191.out) hb)
               clear BK189
               clear BK190
               clear BK191
               clear HB
               have HO209 := n0_
               have BK189 := n1_
               have BK190 := n2_
               have BK191 := n3_
               have HB := n4_
               clear n0_ n1_ n2_ n3_ n4_
               clear hb ho80
               obtain ⟨Ao81, co81, eo81⟩ := Kd.R_slice HO209.out
               (first | subst eo81 | (injection eo81 with f1_ f2_ f3_; have f4_ := f1_.symm; have f5_ := f3_.symm; clear f1_ f2_ f3_; subst f4_; subst f5_))
               refine hK.out _ _ ⟨(blk_cell BK189.out 0).trans rfl, (blk_cell BK189.out 1).trans rfl, (blk_cell BK190.out 0).trans rfl, (blk_cell BK190.out 1).trans rfl⟩ (fun hHeld => ?_)
               clear hK K
               refine norm_ (a' := ?_) ?_ ?_
               rotate_left
               ·show Act.put _ (some 84) _ = _
                simp only [Act.put, List.setIfInBounds_toArray, List.set_cons_zero, List.set_cons_succ, i64_w, i32_w]
                rfl
               refine one_ (i := 11) (N := some 85) #[true, true, true, true, true, true, true, true, true, true, true, true, false, false] rfl rfl (one_of HT_.out (by kernel_rfl)) (by decide) (fun K hK => ?_)
               refine goes_ Try.func72 (by kernel_rfl) rfl #[.slice Ao81 y207.length co81] (by rfl) rfl rfl mz ?_
               with_reducible refine (impl_restGcd.calls kj72 _ _ y207 t210 _ ?side1 ?side2 A76.out).mono ?_
               (case side1 => repeat (first | exact (Kd.R_reads' HO209.out).2.2 | (with_reducible refine Kd.C_alloc ?_ _) | (with_reducible refine Kd.C_drewN ?_ _) | (with_reducible refine Kd.C_drew ?_)))
               (case side2 => exact (Kd.R_reads' HO209.out).2.1)
               rintro e w' ⟨rfl, ⟨nd, rfl⟩⟩
               refine ⟨_, rfl, ?_⟩
               refine hK.out _ _ ⟨(blk_cell BK189.out 0).trans rfl, (blk_cell BK189.out 1).trans rfl, (blk_cell BK190.out 0).trans rfl, (blk_cell BK190.out 1).trans rfl⟩ (fun hHeld => ?_)
               clear hK K
               refine norm_ (a' := ?_) ?_ ?_
               rotate_left
               ·show Act.put _ (some 85) _ = _
                simp only [Act.put, List.setIfInBounds_toArray, List.set_cons_zero, List.set_cons_succ, i64_w, i32_w]
                rfl
               refine one_ (i := 12) (N := some 86) #[true, true, true, true, true, true, true, true, true, true, true, true, true, false] rfl rfl (one_of HT_.out (by kernel_rfl)) (by decide) (fun K hK => ?_)
               refine goes_ Try.func71 (by kernel_rfl) rfl #[.int .i64 (wrap64 (a1_1 - a2_1)), .int .i64 t210] (by rfl) rfl rfl mz ?_
               with_reducible refine (impl_restOf.calls kj72 (wrap64 (a1_1 - a2_1)) t210 t211 t212 _ A77.out).mono ?_
               rintro e w82 ⟨rfl, hb⟩
               refine ⟨_, rfl, ?_⟩
               have n0_ := Aside0.mk (Kd.R_below (by (with_reducible repeat (first | apply Kd.R_alloc | apply Kd.R_drewN | apply Kd.R_drew)); exact HO209.out) hb)
               have n1_ := Aside0.mk (blk_below (g := gb189) (o := .cells #[.int .i64 a1_0, .int .i64 a1_1] 40 (0, 0)) (bz BK189.out) hb)
               have n2_ := Aside0.mk (blk_below (g := gb190) (o := .cells #[.int .i64 a2_0, .int .i64 a2_1] 40 (0, 0)) (bz BK190.out) hb)
               have n3_ := Aside0.mk (blk_below (g := gb191) (o := .cells #[.int .i64 0, .int .i64 0] 40 (0, 0)) (bz BK191.out) hb)
               have n4_ := Aside0.mk (below_step (hz3 HB.out GE189.out GE190.out GE191.out) hb)
               clear HO209
               clear BK189
               clear BK190
               clear BK191
               clear HB
               have HO209 := n0_
               have BK189 := n1_
               have BK190 := n2_
               have BK191 := n3_
               have HB := n4_
               clear n0_ n1_ n2_ n3_ n4_
               (try clear hb)
               (try clear hb2)
               (try clear hk)
               (try clear hi)
               refine hK.out _ _ ⟨(blk_cell BK189.out 0).trans rfl, (blk_cell BK189.out 1).trans rfl, (blk_cell BK190.out 0).trans rfl, (blk_cell BK190.out 1).trans rfl⟩ (fun hHeld => ?_)
               clear hK K
               refine norm_ (a' := ?_) ?_ ?_
               rotate_left
               ·show Act.put _ (some 86) _ = _
                simp only [Act.put, List.setIfInBounds_toArray, List.set_cons_zero, List.set_cons_succ, i64_w, i32_w]
                rfl
               refine one_ (i := 13) (N := none) #[true, true, true, true, true, true, true, true, true, true, true, true, true, true] rfl rfl (one_of HT_.out (by kernel_rfl)) (by decide) (fun K hK => ?_)
               have hs83 : w82.cell? ⟨gb191, 0, none⟩ = some (.int .i64 0) := (blk_cell BK191.out 0).trans rfl
               have hfs83 := blk_frozen BK191.out 0
               have hns83_0 := NB189_191.out
               have hns83_1 := NB190_191.out
               have hms83_0 := NB191_189.out
               have hms83_1 := NB191_190.out
               have hs84 : w82.cell? ⟨gb191, 1, none⟩ = some (.int .i64 0) := (blk_cell BK191.out 1).trans rfl
               have hfs84 := blk_frozen BK191.out 1
               have hns84_0 := NB189_191.out
               have hns84_1 := NB190_191.out
               have hms84_0 := NB191_189.out
               have hms84_1 := NB191_190.out
               refine skip_ (w1 := ?_) (by rfl) rfl ?_ ?_
               rotate_left
               ·go_simp
                rfl
               refine hK.out _ _ ⟨((cell_far (p := ⟨gb191, _, none⟩) NB189_191.out _).trans (((cell_far (p := ⟨gb191, _, none⟩) NB189_191.out _).trans (hHeld.1)))), ((cell_far (p := ⟨gb191, _, none⟩) NB189_191.out _).trans (((cell_far (p := ⟨gb191, _, none⟩) NB189_191.out _).trans (hHeld.2.1)))), ((cell_far (p := ⟨gb191, _, none⟩) NB190_191.out _).trans (((cell_far (p := ⟨gb191, _, none⟩) NB190_191.out _).trans (hHeld.2.2.1)))), ((cell_far (p := ⟨gb191, _, none⟩) NB190_191.out _).trans (((cell_far (p := ⟨gb191, _, none⟩) NB190_191.out _).trans (hHeld.2.2.2))))⟩ (fun hHeld => ?_)
               clear hK K
               refine done_ (done_of HT_.out (by kernel_rfl)) ?_
               try go_wp2
               refine bodyPost_ret (results_cell_row rfl _ _ gb191 40 #[.int .i64 t211, .int .i64 t212] (0, 0) _ rfl (by (with_reducible repeat (first | refine blk_drewN ?_ _ | refine blk_drew ?_ | refine blk_alloc ?_ _)); refine blk_put (cs := #[.int .i64 t211, .int .i64 0]) ?_ 1 _ rfl; (with_reducible repeat (first | refine blk_drewN ?_ _ | refine blk_drew ?_ | refine blk_alloc ?_ _)); refine blk_put (cs := #[.int .i64 0, .int .i64 0]) ?_ 0 _ rfl; (with_reducible repeat (first | refine blk_drewN ?_ _ | refine blk_drew ?_ | refine blk_alloc ?_ _)); exact BK191.out) Try.underlying40 rfl (by kernel_rfl)) rfl ?_
               exact ⟨by first | rfl | (simp [errW_none, errW_some] <;> rfl) | (simp [*, errW_none, errW_some] <;> rfl), hz3 HB.out GE189.out GE190.out GE191.out⟩
              ·replace c75 := Bool.eq_false_iff.mpr c75
               subst c75
               have H1 : (if a0 = 3 then (impl_RestDo.j5 kj72 x9_56 a0 (a0 == 3) a1_0 a1_1 a2_0 a2_1) else (impl_RestDo.j5 kj72 x9_56 a0 (a0 == 13) a1_0 a1_1 a2_0 a2_1)) = some (r1, r2) := by rw [if_neg (show ¬ (false = true) by decide)] at H; exact H
               clear H
               have H := H1
               clear H1
               have HC85 := Aside0.mk H
               clear H
               go_upto_if 87 with (fail)
               go_cut [87] (fun v87 wc => ∃ (kq : Nat) (x87_84 : Bool), v87 = .bool x87_84 ∧ Aside0 (impl_RestDo.j5 kq x9_56 a0 x87_84 a1_0 a1_1 a2_0 a2_1 = some (r1, r2)) ∧ Aside0 (kq ≤ kj72) ∧ Aside0 (wc.heap[gb189]? = some (.cells #[.int .i64 a1_0, .int .i64 a1_1] 40 (0, 0))) ∧ Aside0 (wc.heap[gb190]? = some (.cells #[.int .i64 a2_0, .int .i64 a2_1] 40 (0, 0))) ∧ Aside0 (wc.heap[gb191]? = some (.cells #[.int .i64 0, .int .i64 0] 40 (0, 0))) ∧ Aside0 (Below w.heap.size w wc))
               case first =>
                have H := HC85.out
                clear HC85
                by_cases c86 : a0 = 3
                ·rw [if_pos c86] at H
                 have c86b0 : (a0 == 3) = true := beq_iff_eq.mpr c86
                 have c86b1 : (a0 != 3) = false := bne_eq_false_iff_eq.mpr c86
                 clear c86
                 (first | rw [c86b0] | (simp only [i64_w, i32_w]; rw [c86b0]) | skip)
                 have H' := Aside0.mk H
                 clear H
                 go_wp2
                 go_meet
                 case rel => exact ⟨_, ((a0 == 3)), (by first | rfl | (simp; done) | (simp [*]; done)), H', ⟨by have := HJ3.out; have := HJ29.out; have := HJ56.out; have := HJ60.out; have := HJ72.out; first | omega | exact Nat.le_refl _⟩, ⟨bz BK189.out⟩, ⟨bz BK190.out⟩, ⟨bz BK191.out⟩, ⟨hz3 HB.out GE189.out GE190.out GE191.out⟩⟩
                ·rw [if_neg c86] at H
                 have c86b0 : (a0 == 3) = false := beq_eq_false_iff_ne.mpr c86
                 have c86b1 : (a0 != 3) = true := bne_iff_ne.mpr c86
                 (first | rw [c86b0] | (simp only [i64_w, i32_w]; rw [c86b0]) | skip)
                 have H' := Aside0.mk H
                 clear H
                 go_wp2
                 go_meet
                 case rel => exact ⟨_, ((a0 == 13)), (by first | rfl | (simp; done) | (simp [*]; done)), H', ⟨by have := HJ3.out; have := HJ29.out; have := HJ56.out; have := HJ60.out; have := HJ72.out; first | omega | exact Nat.le_refl _⟩, ⟨bz BK189.out⟩, ⟨bz BK190.out⟩, ⟨bz BK191.out⟩, ⟨hz3 HB.out GE189.out GE190.out GE191.out⟩⟩
               case rest =>
                clear HC85
                try clear c1
                try clear c2
                try clear p2
                try clear c3
                try clear c4
                try clear c5
                try clear c6
                try clear p6
                try clear c7
                try clear c8
                try clear c9
                try clear c11
                try clear c13
                try clear c14
                try clear c17
                try clear c20
                try clear c21
                try clear c24
                try clear c27
                try clear c28
                try clear c31
                try clear c31b0
                try clear c31b1
                try clear c32
                try clear c33
                try clear c35
                try clear c37
                try clear c38
                try clear c40
                try clear c42
                try clear c42b0
                try clear c42b1
                try clear c43
                try clear c44
                try clear c46
                try clear c50
                try clear c51
                try clear c53
                try clear c58
                try clear c58b0
                try clear c58b1
                try clear c59
                try clear c59b0
                try clear c59b1
                try clear c60
                try clear c60b0
                try clear c60b1
                try clear c62
                try clear c62b0
                try clear c62b1
                try clear c63
                try clear p64
                try clear c70
                try clear c71
                try clear c72
                try clear c74
                try clear c74b0
                try clear c74b1
                try clear c75
                try clear c86
                try clear c86b0
                try clear c86b1
                try clear hcz15_0
                try clear hcz15_1
                try clear hcz18_0
                try clear hcz18_1
                try clear hcz22_0
                try clear hcz22_1
                try clear hcz29_0
                try clear hcz29_1
                try clear hcz34_0
                try clear hcz34_1
                try clear hcz36_0
                try clear hcz36_1
                try clear hcz39_0
                try clear hcz39_1
                try clear hcz45_0
                try clear hcz45_1
                try clear hcz47_0
                try clear hcz47_1
                try clear hcz48_0
                try clear hcz48_1
                try clear hcz52_0
                try clear hcz52_1
                try clear hcz54_0
                try clear hcz54_1
                try clear hcz56_0
                try clear hcz56_1
                try clear hfz15_0
                try clear hfz15_1
                try clear hfz18_0
                try clear hfz18_1
                try clear hfz22_0
                try clear hfz22_1
                try clear hfz29_0
                try clear hfz29_1
                try clear hfz34_0
                try clear hfz34_1
                try clear hfz36_0
                try clear hfz36_1
                try clear hfz39_0
                try clear hfz39_1
                try clear hfz45_0
                try clear hfz45_1
                try clear hfz47_0
                try clear hfz47_1
                try clear hfz48_0
                try clear hfz48_1
                try clear hfz52_0
                try clear hfz52_1
                try clear hfz54_0
                try clear hfz54_1
                try clear hfz56_0
                try clear hfz56_1
                try clear p2
                try clear p6
                try clear p64
                obtain ⟨kq, x87_84, rfl, HA, HJ84, BK189, BK190, BK191, HB⟩ := hcut
                cases kq with
                | zero => exact absurd HA.out (by simp [impl_RestDo.j5])
                | succ kj84 =>
                 have H := HA.out
                 clear HA
                 simp only [impl_RestDo.j5] at H
                 by_cases c87 : x87_84 = true
                 ·subst c87
                  have H1 : ((impl_restGcd.f kj84 (([wrap64 (a1_0 * a2_0), wrap64 (a1_0 * a2_1), wrap64 (a2_0 * a1_1)] : List Int))).bind fun t216 => (if t216 = 0 then (some (0, 0)) else ((impl_restGcd.f kj84 (([t216, x9_56] : List Int))).bind fun t220 => ((impl_restOf.f kj84 (wrap64 (a1_1 * a2_1)) t220).bind fun bt221 => (some (bt221.1, bt221.2)))))) = some (r1, r2) := by rw [if_pos rfl] at H; exact H
                  clear H
                  have H := H1
                  clear H1
                  obtain ⟨y213, hy213⟩ : ∃ y_ : List Int, y_ = (([wrap64 (a1_0 * a2_0), wrap64 (a1_0 * a2_1), wrap64 (a2_0 * a1_1)] : List Int)) := ⟨_, rfl⟩
                  replace H : ((impl_restGcd.f kj84 y213).bind fun t216 => (if t216 = 0 then (some (0, 0)) else ((impl_restGcd.f kj84 (([t216, x9_56] : List Int))).bind fun t220 => ((impl_restOf.f kj84 (wrap64 (a1_1 * a2_1)) t220).bind fun bt221 => (some (bt221.1, bt221.2)))))) = some (r1, r2) := by first | (rw [hy213]; with_reducible exact H) | (have H2_ := (Option.bind_some _ _).symm.trans H; rw [hy213]; with_reducible exact H2_) | (have H2_ := (Option.bind_some _ _).symm.trans H; with_reducible exact H2_) | with_reducible exact H | (rw [hy213]; exact H) | exact H
                  have Ny213 := Aside0.mk hy213
                  clear hy213
                  replace H := Option.bind_eq_some_iff.mp H
                  obtain ⟨t216, A880, H⟩ := H
                  replace H : (if t216 = 0 then (some (0, 0)) else ((impl_restGcd.f kj84 (([t216, x9_56] : List Int))).bind fun t220 => ((impl_restOf.f kj84 (wrap64 (a1_1 * a2_1)) t220).bind fun bt221 => (some (bt221.1, bt221.2))))) = some (r1, r2) := H
                  have A88 := Aside0.mk A880
                  clear A880
                  by_cases c89 : t216 = 0
                  ·rw [if_pos c89] at H
                   have c89b0 : (t216 == 0) = true := beq_iff_eq.mpr c89
                   have c89b1 : (t216 != 0) = false := bne_eq_false_iff_eq.mpr c89
                   clear c89
                   simp only [Option.some.injEq, Prod.mk.injEq] at H
                   obtain ⟨rfl, rfl⟩ := H
                   have hnb90 := NB189_190.out
                   have hnc90 := NB190_189.out
                   have hnb91 := NB189_191.out
                   have hnc91 := NB191_189.out
                   have hcz92_0 : wc.cell? ⟨gb189, 0, none⟩ = some (.int .i64 a1_0) := (blk_cell BK189.out 0).trans rfl
                   have hcz92_1 : wc.cell? ⟨gb189, 1, none⟩ = some (.int .i64 a1_1) := (blk_cell BK189.out 1).trans rfl
                   have hfz92_0 := blk_frozen BK189.out 0
                   have hfz92_1 := blk_frozen BK189.out 1
                   have hnb93 := NB190_191.out
                   have hnc93 := NB191_190.out
                   have hcz94_0 : wc.cell? ⟨gb190, 0, none⟩ = some (.int .i64 a2_0) := (blk_cell BK190.out 0).trans rfl
                   have hcz94_1 : wc.cell? ⟨gb190, 1, none⟩ = some (.int .i64 a2_1) := (blk_cell BK190.out 1).trans rfl
                   have hfz94_0 := blk_frozen BK190.out 0
                   have hfz94_1 := blk_frozen BK190.out 1
                   go_wp2_with (first | ((with_reducible refine gate_dst (N := 105) rfl ?_); refine Kd.R_lit (Kd.int .i64) _ 3 ?hg (N := 105) ?hd (xs := ([wrap64 (a1_0 * a2_0), wrap64 (a1_0 * a2_1), wrap64 (a2_0 * a1_1)] : List Int)) (inner := [.int .i64 (wrap64 (a1_0 * a2_0)), .int .i64 (wrap64 (a1_0 * a2_1)), .int .i64 (wrap64 (a2_0 * a1_1))]) (ok := fun _ => True) (okp := fun _ => True) ?hr ?hp (fun _ hk => hk) trivial (Below.refl _ _) (Nat.le_refl _) (by simp) ?_; (case hd => rfl); (case hg => rfl); (case hr => first | (go_simp; done) | (go_simp; rfl)); (case hp => exact (Reps.one (show Kd.M (Kd.int .i64) _ _ _ (wrap64 (a1_0 * a2_0)) [.int .i64 (wrap64 (a1_0 * a2_0))] from rfl) (Reps.one (show Kd.M (Kd.int .i64) _ _ _ (wrap64 (a1_0 * a2_1)) [.int .i64 (wrap64 (a1_0 * a2_1))] from rfl) (Reps.one (show Kd.M (Kd.int .i64) _ _ _ (wrap64 (a2_0 * a1_1)) [.int .i64 (wrap64 (a2_0 * a1_1))] from rfl) (Reps.none _ _))))); intro v214 w95 ho96 hb hg_ hnew_; clear hg_ hnew_; (first | rw [← Ny213.out] at ho96 | (simp only [Int.reduceToNat] at ho96; rw [← Ny213.out] at ho96)); have n0_ := Aside0.mk (Kd.R_lower ho96 (below_size (hz3 HB.out GE189.out GE190.out GE191.out))); have n1_ := Aside0.mk (blk_below (g := gb189) (o := .cells #[.int .i64 a1_0, .int .i64 a1_1] 40 (0, 0)) (bz BK189.out) hb); have n2_ := Aside0.mk (blk_below (g := gb190) (o := .cells #[.int .i64 a2_0, .int .i64 a2_1] 40 (0, 0)) (bz BK190.out) hb); have n3_ := Aside0.mk (blk_below (g := gb191) (o := .cells #[.int .i64 0, .int .i64 0] 40 (0, 0)) (bz BK191.out) hb); have n4_ := Aside0.mk (below_step (hz3 HB.out GE189.out GE190.out GE191.out) hb); clear BK189; clear BK190; clear BK191; clear HB; have HO215 := n0_; have BK189 := n1_; have BK190 := n2_; have BK191 := n3_; have HB := n4_; clear n0_ n1_ n2_ n3_ n4_; clear hb ho96; obtain ⟨Ao97, co97, eo97⟩ := Kd.R_slice HO215.out; subst eo97) | ((with_reducible refine gate_callee (f := 72) rfl ?_); refine goesL_ (some 106) rfl rfl Try.func72 (by kernel_rfl) rfl #[.slice Ao97 y213.length co97] rfl mz ?_; (with_reducible refine (impl_restGcd.calls kj84 _ _ y213 t216 _ ?side1 ?side2 A88.out).mono ?_); (case side1 => repeat (first | exact (Kd.R_reads' HO215.out).2.2 | (with_reducible refine Kd.C_alloc ?_ _) | (with_reducible refine Kd.C_drewN ?_ _) | (with_reducible refine Kd.C_drew ?_))); (case side2 => exact (Kd.R_reads' HO215.out).2.1); rintro e w' ⟨rfl, ⟨nd, rfl⟩⟩; refine ⟨_, rfl, ?_⟩; (try (rw [drewN_self w95]; generalize hq_ : World.drewN w95 _ = w95; have n0_ : Aside0 (Kd.R (Kd.int .i64) 3 w95 w.heap.size (fun _ => True) (.slice Ao97 y213.length co97) y213) := ⟨by rw [← hq_]; exact (by (with_reducible repeat (first | apply Kd.R_alloc | apply Kd.R_drewN | apply Kd.R_drew)); exact HO215.out)⟩; have n1_ : Aside0 (w95.heap[gb189]? = some (.cells #[.int .i64 a1_0, .int .i64 a1_1] 40 (0, 0))) := ⟨by rw [← hq_]; exact (bz BK189.out)⟩; have n2_ : Aside0 (w95.heap[gb190]? = some (.cells #[.int .i64 a2_0, .int .i64 a2_1] 40 (0, 0))) := ⟨by rw [← hq_]; exact (bz BK190.out)⟩; have n3_ : Aside0 (w95.heap[gb191]? = some (.cells #[.int .i64 0, .int .i64 0] 40 (0, 0))) := ⟨by rw [← hq_]; exact (bz BK191.out)⟩; have n4_ : Aside0 (Below w.heap.size w w95) := ⟨by rw [← hq_]; exact (hz3 HB.out GE189.out GE190.out GE191.out)⟩; clear HO215 BK189 BK190 BK191 HB hq_; have HO215 := n0_; have BK189 := n1_; have BK190 := n2_; have BK191 := n3_; have HB := n4_; clear n0_ n1_ n2_ n3_ n4_)); have hcz98_0 : w95.cell? ⟨gb191, 0, none⟩ = some (.int .i64 0) := (blk_cell BK191.out 0).trans rfl; have hcz98_1 : w95.cell? ⟨gb191, 1, none⟩ = some (.int .i64 0) := (blk_cell BK191.out 1).trans rfl; have hfz98_0 := blk_frozen BK191.out 0; have hfz98_1 := blk_frozen BK191.out 1))
                   refine bodyPost_ret (results_cell_row rfl _ _ gb191 40 #[.int .i64 0, .int .i64 0] (0, 0) _ rfl (by (with_reducible repeat (first | refine blk_drewN ?_ _ | refine blk_drew ?_ | refine blk_alloc ?_ _)); refine blk_put (cs := #[.int .i64 0, .int .i64 0]) ?_ 1 _ rfl; (with_reducible repeat (first | refine blk_drewN ?_ _ | refine blk_drew ?_ | refine blk_alloc ?_ _)); refine blk_put (cs := #[.int .i64 0, .int .i64 0]) ?_ 0 _ rfl; (with_reducible repeat (first | refine blk_drewN ?_ _ | refine blk_drew ?_ | refine blk_alloc ?_ _)); exact BK191.out) Try.underlying40 rfl (by kernel_rfl)) rfl ?_
                   exact ⟨by first | rfl | (simp [errW_none, errW_some] <;> rfl) | (simp [*, errW_none, errW_some] <;> rfl), hz3 HB.out GE189.out GE190.out GE191.out⟩
                  ·rw [if_neg c89] at H
                   have c89b0 : (t216 == 0) = false := beq_eq_false_iff_ne.mpr c89
                   have c89b1 : (t216 != 0) = true := bne_iff_ne.mpr c89
                   obtain ⟨y217, hy217⟩ : ∃ y_ : List Int, y_ = (([t216, x9_56] : List Int)) := ⟨_, rfl⟩
                   replace H : ((impl_restGcd.f kj84 y217).bind fun t220 => ((impl_restOf.f kj84 (wrap64 (a1_1 * a2_1)) t220).bind fun bt221 => (some (bt221.1, bt221.2)))) = some (r1, r2) := by first | (rw [hy217]; with_reducible exact H) | (have H2_ := (Option.bind_some _ _).symm.trans H; rw [hy217]; with_reducible exact H2_) | (have H2_ := (Option.bind_some _ _).symm.trans H; with_reducible exact H2_) | with_reducible exact H | (rw [hy217]; exact H) | exact H
                   have Ny217 := Aside0.mk hy217
                   clear hy217
                   replace H := Option.bind_eq_some_iff.mp H
                   obtain ⟨t220, A990, H⟩ := H
                   replace H : ((impl_restOf.f kj84 (wrap64 (a1_1 * a2_1)) t220).bind fun bt221 => (some (bt221.1, bt221.2))) = some (r1, r2) := H
                   have A99 := Aside0.mk A990
                   clear A990
                   replace H := Option.bind_eq_some_iff.mp H
                   obtain ⟨⟨t221, t222⟩, A1000, H⟩ := H
                   replace H : (some (t221, t222)) = some (r1, r2) := H
                   have A100 := Aside0.mk A1000
                   clear A1000
                   simp only [Option.some.injEq, Prod.mk.injEq] at H
                   obtain ⟨rfl, rfl⟩ := H
                   have hnb101 := NB189_190.out
                   have hnc101 := NB190_189.out
                   have hnb102 := NB189_191.out
                   have hnc102 := NB191_189.out
                   have hcz103_0 : wc.cell? ⟨gb189, 0, none⟩ = some (.int .i64 a1_0) := (blk_cell BK189.out 0).trans rfl
                   have hcz103_1 : wc.cell? ⟨gb189, 1, none⟩ = some (.int .i64 a1_1) := (blk_cell BK189.out 1).trans rfl
                   have hfz103_0 := blk_frozen BK189.out 0
                   have hfz103_1 := blk_frozen BK189.out 1
                   have hnb104 := NB190_191.out
                   have hnc104 := NB191_190.out
                   have hcz105_0 : wc.cell? ⟨gb190, 0, none⟩ = some (.int .i64 a2_0) := (blk_cell BK190.out 0).trans rfl
                   have hcz105_1 : wc.cell? ⟨gb190, 1, none⟩ = some (.int .i64 a2_1) := (blk_cell BK190.out 1).trans rfl
                   have hfz105_0 := blk_frozen BK190.out 0
                   have hfz105_1 := blk_frozen BK190.out 1
                   try go_wp2_with (first | ((with_reducible refine gate_dst (N := 105) rfl ?_); refine Kd.R_lit (Kd.int .i64) _ 3 ?hg (N := 105) ?hd (xs := ([wrap64 (a1_0 * a2_0), wrap64 (a1_0 * a2_1), wrap64 (a2_0 * a1_1)] : List Int)) (inner := [.int .i64 (wrap64 (a1_0 * a2_0)), .int .i64 (wrap64 (a1_0 * a2_1)), .int .i64 (wrap64 (a2_0 * a1_1))]) (ok := fun _ => True) (okp := fun _ => True) ?hr ?hp (fun _ hk => hk) trivial (Below.refl _ _) (Nat.le_refl _) (by simp) ?_; (case hd => rfl); (case hg => rfl); (case hr => first | (go_simp; done) | (go_simp; rfl)); (case hp => exact (Reps.one (show Kd.M (Kd.int .i64) _ _ _ (wrap64 (a1_0 * a2_0)) [.int .i64 (wrap64 (a1_0 * a2_0))] from rfl) (Reps.one (show Kd.M (Kd.int .i64) _ _ _ (wrap64 (a1_0 * a2_1)) [.int .i64 (wrap64 (a1_0 * a2_1))] from rfl) (Reps.one (show Kd.M (Kd.int .i64) _ _ _ (wrap64 (a2_0 * a1_1)) [.int .i64 (wrap64 (a2_0 * a1_1))] from rfl) (Reps.none _ _))))); intro v214 w106 ho107 hb hg_ hnew_; clear hg_ hnew_; (first | rw [← Ny213.out] at ho107 | (simp only [Int.reduceToNat] at ho107; rw [← Ny213.out] at ho107)); have n0_ := Aside0.mk (Kd.R_lower ho107 (below_size (hz3 HB.out GE189.out GE190.out GE191.out))); have n1_ := Aside0.mk (blk_below (g := gb189) (o := .cells #[.int .i64 a1_0, .int .i64 a1_1] 40 (0, 0)) (bz BK189.out) hb); have n2_ := Aside0.mk (blk_below (g := gb190) (o := .cells #[.int .i64 a2_0, .int .i64 a2_1] 40 (0, 0)) (bz BK190.out) hb); have n3_ := Aside0.mk (blk_below (g := gb191) (o := .cells #[.int .i64 0, .int .i64 0] 40 (0, 0)) (bz BK191.out) hb); have n4_ := Aside0.mk (below_step (hz3 HB.out GE189.out GE190.out GE191.out) hb); clear BK189; clear BK190; clear BK191; clear HB; have HO215 := n0_; have BK189 := n1_; have BK190 := n2_; have BK191 := n3_; have HB := n4_; clear n0_ n1_ n2_ n3_ n4_; clear hb ho107; obtain ⟨Ao108, co108, eo108⟩ := Kd.R_slice HO215.out; subst eo108) | ((with_reducible refine gate_callee (f := 72) rfl ?_); refine goesL_ (some 106) rfl rfl Try.func72 (by kernel_rfl) rfl #[.slice Ao108 y213.length co108] rfl mz ?_; (with_reducible refine (impl_restGcd.calls kj84 _ _ y213 t216 _ ?side1 ?side2 A88.out).mono ?_); (case side1 => repeat (first | exact (Kd.R_reads' HO215.out).2.2 | (with_reducible refine Kd.C_alloc ?_ _) | (with_reducible refine Kd.C_drewN ?_ _) | (with_reducible refine Kd.C_drew ?_))); (case side2 => exact (Kd.R_reads' HO215.out).2.1); rintro e w' ⟨rfl, ⟨nd, rfl⟩⟩; refine ⟨_, rfl, ?_⟩; (try (rw [drewN_self w106]; generalize hq_ : World.drewN w106 _ = w106; have n0_ : Aside0 (Kd.R (Kd.int .i64) 3 w106 w.heap.size (fun _ => True) (.slice Ao108 y213.length co108) y213) := ⟨by rw [← hq_]; exact (by (with_reducible repeat (first | apply Kd.R_alloc | apply Kd.R_drewN | apply Kd.R_drew)); exact HO215.out)⟩; have n1_ : Aside0 (w106.heap[gb189]? = some (.cells #[.int .i64 a1_0, .int .i64 a1_1] 40 (0, 0))) := ⟨by rw [← hq_]; exact (bz BK189.out)⟩; have n2_ : Aside0 (w106.heap[gb190]? = some (.cells #[.int .i64 a2_0, .int .i64 a2_1] 40 (0, 0))) := ⟨by rw [← hq_]; exact (bz BK190.out)⟩; have n3_ : Aside0 (w106.heap[gb191]? = some (.cells #[.int .i64 0, .int .i64 0] 40 (0, 0))) := ⟨by rw [← hq_]; exact (bz BK191.out)⟩; have n4_ : Aside0 (Below w.heap.size w w106) := ⟨by rw [← hq_]; exact (hz3 HB.out GE189.out GE190.out GE191.out)⟩; clear HO215 BK189 BK190 BK191 HB hq_; have HO215 := n0_; have BK189 := n1_; have BK190 := n2_; have BK191 := n3_; have HB := n4_; clear n0_ n1_ n2_ n3_ n4_))))
                   have n0_ := Aside0.mk (Kd.R_drew HO215.out)
                   have n1_ := Aside0.mk (blk_drew BK189.out)
                   have n2_ := Aside0.mk (blk_drew BK190.out)
                   have n3_ := Aside0.mk (blk_drew BK191.out)
                   have n4_ := Aside0.mk (below_drew1 HB.out)
                   clear HO215
                   clear BK189
                   clear BK190
                   clear BK191
                   clear HB
                   have HO215 := n0_
                   have BK189 := n1_
                   have BK190 := n2_
                   have BK191 := n3_
                   have HB := n4_
                   clear n0_ n1_ n2_ n3_ n4_
                   refine start_ (n := 11) (S := fun w' => w'.cell? ⟨gb189, 0, none⟩ = some (.int .i64 a1_0) ∧ w'.cell? ⟨gb189, 1, none⟩ = some (.int .i64 a1_1) ∧ w'.cell? ⟨gb190, 0, none⟩ = some (.int .i64 a2_0) ∧ w'.cell? ⟨gb190, 1, none⟩ = some (.int .i64 a2_1)) (ds := []) #[false, false, false, false, false, false, false, false, false, false, false] (by kernel_rfl) rfl rfl ⟨(blk_cell BK189.out 0).trans rfl, (blk_cell BK189.out 1).trans rfl, (blk_cell BK190.out 0).trans rfl, (blk_cell BK190.out 1).trans rfl⟩ (fun hHeld => ?_); refine with_tabW impl_RestDo.tab26 impl_RestDo.bits26 (fun HT_ HW_ => ?_)
                   generalize w106.drew = w109 at HO215 BK189 BK190 BK191 HB hHeld ⊢
                   refine pure_ (i := 0) (N := some 110) (v := ?_) (a' := ?_) #[true, false, false, false, false, false, false, false, false, false, false] rfl rfl (any_of HT_.out (by kernel_rfl)) (fun _ _ _ h => h) (Or.inl ⟨by rfl, ?_⟩) ?_ ?_
                   rotate_left
                   ·intro w'
                    go_simp
                    with_reducible rfl
                   rotate_left
                   ·exact pz
                   refine pure_ (i := 2) (N := some 112) (v := ?_) (a' := ?_) #[true, false, true, false, false, false, false, false, false, false, false] rfl rfl (any_of HT_.out (by kernel_rfl)) (fun _ _ _ h => h) (Or.inl ⟨by rfl, ?_⟩) ?_ ?_
                   rotate_left
                   ·intro w'
                    go_simp
                    with_reducible rfl
                   rotate_left
                   ·exact pz
                   refine pure_ (i := 5) (N := some 115) (v := ?_) (a' := ?_) #[true, false, true, false, false, true, false, false, false, false, false] rfl rfl (any_of HT_.out (by kernel_rfl)) (fun _ _ _ h => h) (Or.inl ⟨by rfl, ?_⟩) ?_ ?_
                   rotate_left
                   ·intro w'
                    go_simp
                    with_reducible rfl
                   rotate_left
                   ·exact pz
                   refine pure_ (i := 6) (N := some 116) (v := ?_) (a' := ?_) #[true, false, true, false, false, true, true, false, false, false, false] rfl rfl (any_of HT_.out (by kernel_rfl)) (fun _ _ _ h => h) (Or.inl ⟨by rfl, ?_⟩) ?_ ?_
                   rotate_left
                   ·intro w'
                    go_simp
                    with_reducible rfl
                   rotate_left
                   ·exact pz
                   refine take_ (i := 1) (N := some 111) (v := ?_) (a' := ?_) #[true, true, true, false, false, true, true, false, false, false, false] rfl rfl (take_ofW HT_.out HW_.out (by kernel_rfl)) (fun _ _ _ h => h) (Or.inl ⟨by rfl, ?_⟩) hHeld ?_ ?_
                   rotate_left
                   ·rintro w' ⟨s0, s1, s2, s3⟩
                    go_simp
                    with_reducible rfl
                   rotate_left
                   ·exact pz
                   refine take_ (i := 3) (N := some 113) (v := ?_) (a' := ?_) #[true, true, true, true, false, true, true, false, false, false, false] rfl rfl (take_ofW HT_.out HW_.out (by kernel_rfl)) (fun _ _ _ h => h) (Or.inl ⟨by rfl, ?_⟩) hHeld ?_ ?_
                   rotate_left
                   ·rintro w' ⟨s0, s1, s2, s3⟩
                    go_simp
                    with_reducible rfl
                   rotate_left
                   ·exact pz
                   refine pure_ (i := 4) (N := some 114) (v := ?_) (a' := ?_) #[true, true, true, true, true, true, true, false, false, false, false] rfl rfl (any_of HT_.out (by kernel_rfl)) (fun _ _ _ h => h) (Or.inl ⟨by rfl, ?_⟩) ?_ ?_
                   rotate_left
                   ·intro w'
                    go_simp
                    with_reducible rfl
                   rotate_left
                   ·exact pz
                   refine one_ (i := 7) (N := some 117) #[true, true, true, true, true, true, true, true, false, false, false] rfl rfl (one_of HT_.out (by kernel_rfl)) (by decide) (fun K hK => ?_)
                   refine Kd.R_lit_step (Kd.int .i64) _ 3 ?hg (N := 117) ?hd (xs := ([t216, x9_56] : List Int)) (inner := [.int .i64 t216, .int .i64 x9_56]) (ok := fun _ => True) (okp := fun _ => True) ?hr ?hp (fun _ hk => hk) trivial (Below.refl _ _) (Nat.le_refl _) (by simp) ?_; (case hd => rfl); (case hg => rfl); (case hr => first | (go_simp; done) | (go_simp; rfl)); (case hp => exact (Reps.one (show Kd.M (Kd.int .i64) _ _ _ t216 [.int .i64 t216] from rfl) (Reps.one (show Kd.M (Kd.int .i64) _ _ _ x9_56 [.int .i64 x9_56] from rfl) (Reps.none _ _))))
                   intro v218 w110 ho111 hb hg_ hnew_
                   clear hg_ hnew_
                   (first | rw [← Ny217.out] at ho111 | (simp only [Int.reduceToNat] at ho111; rw [← Ny217.out] at ho111))
                   have n0_ := Aside0.mk (Kd.R_elder' (by (with_reducible repeat (first | apply Kd.R_alloc | apply Kd.R_drewN | apply Kd.R_drew)); exact HO215.out) (Kd.R_base ho111) hb)
                   have n1_ := Aside0.mk (Kd.R_lower (Kd.R_new' ho111 (Kd.R_lt (by (with_reducible repeat (first | apply Kd.R_alloc | apply Kd.R_drewN | apply Kd.R_drew)); exact HO215.out))) (below_size (hz3 HB.out GE189.out GE190.out GE191.out)))
                   have n2_ := Aside0.mk (blk_below (g := gb189) (o := .cells #[.int .i64 a1_0, .int .i64 a1_1] 40 (0, 0)) (bz BK189.out) hb)
                   have n3_ := Aside0.mk (blk_below (g := gb190) (o := .cells #[.int .i64 a2_0, .int .i64 a2_1] 40 (0, 0)) (bz BK190.out) hb)
                   have n4_ := Aside0.mk (blk_below (g := gb191) (o := .cells #[.int .i64 0, .int .i64 0] 40 (0, 0)) (bz BK191.out) hb)
                   have n5_ := Aside0.mk (below_step (hz3 HB.out GE189.out GE190.out GE191.out) hb)
                   clear HO215
                   clear BK189
                   clear BK190
                   clear BK191
                   clear HB
                   have HO215 := n0_
                   have HO219 := n1_
                   have BK189 := n2_
                   have BK190 := n3_
                   have BK191 := n4_
                   have HB := n5_
                   clear n0_ n1_ n2_ n3_ n4_ n5_
                   clear hb ho111
                   obtain ⟨Ao112, co112, eo112⟩ := Kd.R_slice HO219.out
                   (first | subst eo112 | (injection eo112 with f1_ f2_ f3_; have f4_ := f1_.symm; have f5_ := f3_.symm; clear f1_ f2_ f3_; subst f4_; subst f5_))
                   refine hK.out _ _ ⟨(blk_cell BK189.out 0).trans rfl, (blk_cell BK189.out 1).trans rfl, (blk_cell BK190.out 0).trans rfl, (blk_cell BK190.out 1).trans rfl⟩ (fun hHeld => ?_)
                   clear hK K
                   refine norm_ (a' := ?_) ?_ ?_
                   rotate_left
                   ·show Act.put _ (some 117) _ = _
                    simp only [Act.put, List.setIfInBounds_toArray, List.set_cons_zero, List.set_cons_succ, i64_w, i32_w]
                    rfl
                   refine one_ (i := 8) (N := some 118) #[true, true, true, true, true, true, true, true, true, false, false] rfl rfl (one_of HT_.out (by kernel_rfl)) (by decide) (fun K hK => ?_)
                   refine goes_ Try.func72 (by kernel_rfl) rfl #[.slice Ao112 y217.length co112] (by rfl) rfl rfl mz ?_
                   with_reducible refine (impl_restGcd.calls kj84 _ _ y217 t220 _ ?side1 ?side2 A99.out).mono ?_
                   (case side1 => repeat (first | exact (Kd.R_reads' HO219.out).2.2 | (with_reducible refine Kd.C_alloc ?_ _) | (with_reducible refine Kd.C_drewN ?_ _) | (with_reducible refine Kd.C_drew ?_)))
                   (case side2 => exact (Kd.R_reads' HO219.out).2.1)
                   rintro e w' ⟨rfl, ⟨nd, rfl⟩⟩
                   refine ⟨_, rfl, ?_⟩
                   refine hK.out _ _ ⟨(blk_cell BK189.out 0).trans rfl, (blk_cell BK189.out 1).trans rfl, (blk_cell BK190.out 0).trans rfl, (blk_cell BK190.out 1).trans rfl⟩ (fun hHeld => ?_)
                   clear hK K
                   refine norm_ (a' := ?_) ?_ ?_
                   rotate_left
                   ·show Act.put _ (some 118) _ = _
                    simp only [Act.put, List.setIfInBounds_toArray, List.set_cons_zero, List.set_cons_succ, i64_w, i32_w]
                    rfl
                   refine one_ (i := 9) (N := some 119) #[true, true, true, true, true, true, true, true, true, true, false] rfl rfl (one_of HT_.out (by kernel_rfl)) (by decide) (fun K hK => ?_)
                   refine goes_ Try.func71 (by kernel_rfl) rfl #[.int .i64 (wrap64 (a1_1 * a2_1)), .int .i64 t220] (by rfl) rfl rfl mz ?_
                   with_reducible refine (impl_restOf.calls kj84 (wrap64 (a1_1 * a2_1)) t220 t221 t222 _ A100.out).mono ?_
                   rintro e w113 ⟨rfl, hb⟩
                   refine ⟨_, rfl, ?_⟩
                   have n0_ := Aside0.mk (Kd.R_below (by (with_reducible repeat (first | apply Kd.R_alloc | apply Kd.R_drewN | apply Kd.R_drew)); exact HO215.out) hb)
                   have n1_ := Aside0.mk (Kd.R_below (by (with_reducible repeat (first | apply Kd.R_alloc | apply Kd.R_drewN | apply Kd.R_drew)); exact HO219.out) hb)
                   have n2_ := Aside0.mk (blk_below (g := gb189) (o := .cells #[.int .i64 a1_0, .int .i64 a1_1] 40 (0, 0)) (bz BK189.out) hb)
                   have n3_ := Aside0.mk (blk_below (g := gb190) (o := .cells #[.int .i64 a2_0, .int .i64 a2_1] 40 (0, 0)) (bz BK190.out) hb)
                   have n4_ := Aside0.mk (blk_below (g := gb191) (o := .cells #[.int .i64 0, .int .i64 0] 40 (0, 0)) (bz BK191.out) hb)
                   have n5_ := Aside0.mk (below_step (hz3 HB.out GE189.out GE190.out GE191.out) hb)
                   clear HO215
                   clear HO219
                   clear BK189
                   clear BK190
                   clear BK191
                   clear HB
                   have HO215 := n0_
                   have HO219 := n1_
                   have BK189 := n2_
                   have BK190 := n3_
                   have BK191 := n4_
                   have HB := n5_
                   clear n0_ n1_ n2_ n3_ n4_ n5_
                   (try clear hb)
                   (try clear hb2)
                   (try clear hk)
                   (try clear hi)
                   refine hK.out _ _ ⟨(blk_cell BK189.out 0).trans rfl, (blk_cell BK189.out 1).trans rfl, (blk_cell BK190.out 0).trans rfl, (blk_cell BK190.out 1).trans rfl⟩ (fun hHeld => ?_)
                   clear hK K
                   refine norm_ (a' := ?_) ?_ ?_
                   rotate_left
                   ·show Act.put _ (some 119) _ = _
                    simp only [Act.put, List.setIfInBounds_toArray, List.set_cons_zero, List.set_cons_succ, i64_w, i32_w]
                    rfl
                   refine one_ (i := 10) (N := none) #[true, true, true, true, true, true, true, true, true, true, true] rfl rfl (one_of HT_.out (by kernel_rfl)) (by decide) (fun K hK => ?_)
                   have hs114 : w113.cell? ⟨gb191, 0, none⟩ = some (.int .i64 0) := (blk_cell BK191.out 0).trans rfl
                   have hfs114 := blk_frozen BK191.out 0
                   have hns114_0 := NB189_191.out
                   have hns114_1 := NB190_191.out
                   have hms114_0 := NB191_189.out
                   have hms114_1 := NB191_190.out
                   have hs115 : w113.cell? ⟨gb191, 1, none⟩ = some (.int .i64 0) := (blk_cell BK191.out 1).trans rfl
                   have hfs115 := blk_frozen BK191.out 1
                   have hns115_0 := NB189_191.out
                   have hns115_1 := NB190_191.out
                   have hms115_0 := NB191_189.out
                   have hms115_1 := NB191_190.out
                   refine skip_ (w1 := ?_) (by rfl) rfl ?_ ?_
                   rotate_left
                   ·go_simp
                    rfl
                   refine hK.out _ _ ⟨((cell_far (p := ⟨gb191, _, none⟩) NB189_191.out _).trans (((cell_far (p := ⟨gb191, _, none⟩) NB189_191.out _).trans (hHeld.1)))), ((cell_far (p := ⟨gb191, _, none⟩) NB189_191.out _).trans (((cell_far (p := ⟨gb191, _, none⟩) NB189_191.out _).trans (hHeld.2.1)))), ((cell_far (p := ⟨gb191, _, none⟩) NB190_191.out _).trans (((cell_far (p := ⟨gb191, _, none⟩) NB190_191.out _).trans (hHeld.2.2.1)))), ((cell_far (p := ⟨gb191, _, none⟩) NB190_191.out _).trans (((cell_far (p := ⟨gb191, _, none⟩) NB190_191.out _).trans (hHeld.2.2.2))))⟩ (fun hHeld => ?_)
                   clear hK K
                   refine done_ (done_of HT_.out (by kernel_rfl)) ?_
                   try go_wp2
                   refine bodyPost_ret (results_cell_row rfl _ _ gb191 40 #[.int .i64 t221, .int .i64 t222] (0, 0) _ rfl (by (with_reducible repeat (first | refine blk_drewN ?_ _ | refine blk_drew ?_ | refine blk_alloc ?_ _)); refine blk_put (cs := #[.int .i64 t221, .int .i64 0]) ?_ 1 _ rfl; (with_reducible repeat (first | refine blk_drewN ?_ _ | refine blk_drew ?_ | refine blk_alloc ?_ _)); refine blk_put (cs := #[.int .i64 0, .int .i64 0]) ?_ 0 _ rfl; (with_reducible repeat (first | refine blk_drewN ?_ _ | refine blk_drew ?_ | refine blk_alloc ?_ _)); exact BK191.out) Try.underlying40 rfl (by kernel_rfl)) rfl ?_
                   exact ⟨by first | rfl | (simp [errW_none, errW_some] <;> rfl) | (simp [*, errW_none, errW_some] <;> rfl), hz3 HB.out GE189.out GE190.out GE191.out⟩
                 ·replace c87 := Bool.eq_false_iff.mpr c87
                  subst c87
                  have H1 : (if a0 = 9 then (if a2_0 = 0 then (if a2_1 ≥ 0 then (impl_RestDo.j6 kj84 (decide (a2_1 ≤ 31)) a1_0 a1_1 a2_0 a2_1) else (impl_RestDo.j6 kj84 false a1_0 a1_1 a2_0 a2_1)) else (impl_RestDo.j6 kj84 false a1_0 a1_1 a2_0 a2_1)) else (if a0 = 5 then ((impl_restGcd.f kj84 (([a1_0, a2_0, a2_1] : List Int))).bind fun t230 => (if t230 = 0 then ((impl_restAll.f).bind fun bt231 => (some (bt231.1, bt231.2))) else ((impl_restOf.f kj84 a1_1 t230).bind fun bt233 => (some (bt233.1, bt233.2))))) else ((impl_restAll.f).bind fun bt235 => (some (bt235.1, bt235.2))))) = some (r1, r2) := by rw [if_neg (show ¬ (false = true) by decide)] at H; exact H
                  clear H
                  have H := H1
                  clear H1
                  by_cases c116 : a0 = 9
                  ·rw [if_pos c116] at H
                   have c116b0 : (a0 == 9) = true := beq_iff_eq.mpr c116
                   have c116b1 : (a0 != 9) = false := bne_eq_false_iff_eq.mpr c116
                   clear c116
                   have HC117 := Aside0.mk H
                   clear H
                   go_upto_region 28 with (fail)
                   go_cut [134] (fun v134 wc => ∃ (kq : Nat) (x134_116 : Bool), v134 = .bool x134_116 ∧ Aside0 (impl_RestDo.j6 kq x134_116 a1_0 a1_1 a2_0 a2_1 = some (r1, r2)) ∧ Aside0 (kq ≤ kj84) ∧ Aside0 (wc.heap[gb189]? = some (.cells #[.int .i64 a1_0, .int .i64 a1_1] 40 (0, 0))) ∧ Aside0 (wc.heap[gb190]? = some (.cells #[.int .i64 a2_0, .int .i64 a2_1] 40 (0, 0))) ∧ Aside0 (wc.heap[gb191]? = some (.cells #[.int .i64 0, .int .i64 0] 40 (0, 0))) ∧ Aside0 (Below w.heap.size w wc))
                   case first =>
                    have H := HC117.out
                    clear HC117
                    by_cases c118 : a2_0 = 0
                    ·rw [if_pos c118] at H
                     have c118b0 : (a2_0 == 0) = true := beq_iff_eq.mpr c118
                     have c118b1 : (a2_0 != 0) = false := bne_eq_false_iff_eq.mpr c118
                     clear c118
                     (first | rw [c118b0] | (simp only [i64_w, i32_w]; rw [c118b0]) | skip)
                     by_cases c119 : a2_1 ≥ 0
                     ·rw [if_pos c119] at H
                      have c119b0 : decide (0 ≤ a2_1) = true := decide_eq_true c119
                      clear c119
                      have H' := Aside0.mk H
                      clear H
                      have hnb120 := NB190_189.out
                      have hnc120 := NB189_190.out
                      have hnb121 := NB190_191.out
                      have hnc121 := NB191_190.out
                      have hcz122_0 : wc.cell? ⟨gb190, 0, none⟩ = some (.int .i64 a2_0) := (blk_cell BK190.out 0).trans rfl
                      have hcz122_1 : wc.cell? ⟨gb190, 1, none⟩ = some (.int .i64 a2_1) := (blk_cell BK190.out 1).trans rfl
                      have hfz122_0 := blk_frozen BK190.out 0
                      have hfz122_1 := blk_frozen BK190.out 1
                      go_wp2
                      go_meet
                      case rel => exact ⟨_, (decide (a2_1 ≤ 31)), (by first | rfl | (simp; done) | (simp [*]; done)), H', ⟨by have := HJ3.out; have := HJ29.out; have := HJ56.out; have := HJ60.out; have := HJ72.out; have := HJ84.out; first | omega | exact Nat.le_refl _⟩, ⟨bz BK189.out⟩, ⟨bz BK190.out⟩, ⟨bz BK191.out⟩, ⟨hz3 HB.out GE189.out GE190.out GE191.out⟩⟩
                     ·rw [if_neg c119] at H
                      have c119b0 : decide (0 ≤ a2_1) = false := decide_eq_false c119
                      clear c119
                      have H' := Aside0.mk H
                      clear H
                      have hnb123 := NB190_189.out
                      have hnc123 := NB189_190.out
                      have hnb124 := NB190_191.out
                      have hnc124 := NB191_190.out
                      have hcz125_0 : wc.cell? ⟨gb190, 0, none⟩ = some (.int .i64 a2_0) := (blk_cell BK190.out 0).trans rfl
                      have hcz125_1 : wc.cell? ⟨gb190, 1, none⟩ = some (.int .i64 a2_1) := (blk_cell BK190.out 1).trans rfl
                      have hfz125_0 := blk_frozen BK190.out 0
                      have hfz125_1 := blk_frozen BK190.out 1
                      go_wp2
                      go_meet
                      case rel => exact ⟨_, (false), (by first | rfl | (simp; done) | (simp [*]; done)), H', ⟨by have := HJ3.out; have := HJ29.out; have := HJ56.out; have := HJ60.out; have := HJ72.out; have := HJ84.out; first | omega | exact Nat.le_refl _⟩, ⟨bz BK189.out⟩, ⟨bz BK190.out⟩, ⟨bz BK191.out⟩, ⟨hz3 HB.out GE189.out GE190.out GE191.out⟩⟩
                    ·rw [if_neg c118] at H
                     have c118b0 : (a2_0 == 0) = false := beq_eq_false_iff_ne.mpr c118
                     have c118b1 : (a2_0 != 0) = true := bne_iff_ne.mpr c118
                     (first | rw [c118b0] | (simp only [i64_w, i32_w]; rw [c118b0]) | skip)
                     have H' := Aside0.mk H
                     clear H
                     have hnb126 := NB190_189.out
                     have hnc126 := NB189_190.out
                     have hnb127 := NB190_191.out
                     have hnc127 := NB191_190.out
                     have hcz128_0 : wc.cell? ⟨gb190, 0, none⟩ = some (.int .i64 a2_0) := (blk_cell BK190.out 0).trans rfl
                     have hcz128_1 : wc.cell? ⟨gb190, 1, none⟩ = some (.int .i64 a2_1) := (blk_cell BK190.out 1).trans rfl
                     have hfz128_0 := blk_frozen BK190.out 0
                     have hfz128_1 := blk_frozen BK190.out 1
                     go_wp2
                     go_meet
                     case rel => exact ⟨_, (false), (by first | rfl | (simp; done) | (simp [*]; done)), H', ⟨by have := HJ3.out; have := HJ29.out; have := HJ56.out; have := HJ60.out; have := HJ72.out; have := HJ84.out; first | omega | exact Nat.le_refl _⟩, ⟨bz BK189.out⟩, ⟨bz BK190.out⟩, ⟨bz BK191.out⟩, ⟨hz3 HB.out GE189.out GE190.out GE191.out⟩⟩
                   case rest =>
                    clear HC117
                    try clear c1
                    try clear c2
                    try clear p2
                    try clear c3
                    try clear c4
                    try clear c5
                    try clear c6
                    try clear p6
                    try clear c7
                    try clear c8
                    try clear c9
                    try clear c10
                    try clear c11
                    try clear c12
                    try clear c13
                    try clear c14
                    try clear c17
                    try clear c20
                    try clear c21
                    try clear c24
                    try clear c27
                    try clear c28
                    try clear c31
                    try clear c31b0
                    try clear c31b1
                    try clear c32
                    try clear c33
                    try clear c35
                    try clear c37
                    try clear c38
                    try clear c40
                    try clear c42
                    try clear c42b0
                    try clear c42b1
                    try clear c43
                    try clear c44
                    try clear c46
                    try clear c50
                    try clear c51
                    try clear c53
                    try clear c58
                    try clear c58b0
                    try clear c58b1
                    try clear c59
                    try clear c59b0
                    try clear c59b1
                    try clear c60
                    try clear c60b0
                    try clear c60b1
                    try clear c62
                    try clear c62b0
                    try clear c62b1
                    try clear c63
                    try clear p64
                    try clear c70
                    try clear c71
                    try clear c72
                    try clear c74
                    try clear c74b0
                    try clear c74b1
                    try clear c75
                    try clear c86
                    try clear c86b0
                    try clear c86b1
                    try clear c87
                    try clear c89
                    try clear c89b0
                    try clear c89b1
                    try clear c90
                    try clear c91
                    try clear c93
                    try clear c101
                    try clear c102
                    try clear c104
                    try clear c116
                    try clear c116b0
                    try clear c116b1
                    try clear c118
                    try clear c118b0
                    try clear c118b1
                    try clear c119
                    try clear c119b0
                    try clear c120
                    try clear c121
                    try clear c123
                    try clear c124
                    try clear c126
                    try clear c127
                    try clear hcz103_0
                    try clear hcz103_1
                    try clear hcz105_0
                    try clear hcz105_1
                    try clear hcz122_0
                    try clear hcz122_1
                    try clear hcz125_0
                    try clear hcz125_1
                    try clear hcz128_0
                    try clear hcz128_1
                    try clear hcz15_0
                    try clear hcz15_1
                    try clear hcz18_0
                    try clear hcz18_1
                    try clear hcz22_0
                    try clear hcz22_1
                    try clear hcz29_0
                    try clear hcz29_1
                    try clear hcz34_0
                    try clear hcz34_1
                    try clear hcz36_0
                    try clear hcz36_1
                    try clear hcz39_0
                    try clear hcz39_1
                    try clear hcz45_0
                    try clear hcz45_1
                    try clear hcz47_0
                    try clear hcz47_1
                    try clear hcz48_0
                    try clear hcz48_1
                    try clear hcz52_0
                    try clear hcz52_1
                    try clear hcz54_0
                    try clear hcz54_1
                    try clear hcz56_0
                    try clear hcz56_1
                    try clear hcz92_0
                    try clear hcz92_1
                    try clear hcz94_0
                    try clear hcz94_1
                    try clear hcz98_0
                    try clear hcz98_1
                    try clear hfz103_0
                    try clear hfz103_1
                    try clear hfz105_0
                    try clear hfz105_1
                    try clear hfz122_0
                    try clear hfz122_1
                    try clear hfz125_0
                    try clear hfz125_1
                    try clear hfz128_0
                    try clear hfz128_1
                    try clear hfz15_0
                    try clear hfz15_1
                    try clear hfz18_0
                    try clear hfz18_1
                    try clear hfz22_0
                    try clear hfz22_1
                    try clear hfz29_0
                    try clear hfz29_1
                    try clear hfz34_0
                    try clear hfz34_1
                    try clear hfz36_0
                    try clear hfz36_1
                    try clear hfz39_0
                    try clear hfz39_1
                    try clear hfz45_0
                    try clear hfz45_1
                    try clear hfz47_0
                    try clear hfz47_1
                    try clear hfz48_0
                    try clear hfz48_1
                    try clear hfz52_0
                    try clear hfz52_1
                    try clear hfz54_0
                    try clear hfz54_1
                    try clear hfz56_0
                    try clear hfz56_1
                    try clear hfz92_0
                    try clear hfz92_1
                    try clear hfz94_0
                    try clear hfz94_1
                    try clear hfz98_0
                    try clear hfz98_1
                    try clear p2
                    try clear p6
                    try clear p64
                    obtain ⟨kq, x134_116, rfl, HA, HJ116, BK189, BK190, BK191, HB⟩ := hcut
                    cases kq with
                    | zero => exact absurd HA.out (by simp [impl_RestDo.j6])
                    | succ kj116 =>
                     have H := HA.out
                     clear HA
                     simp only [impl_RestDo.j6] at H
                     by_cases c129 : x134_116 = true
                     ·subst c129
                      have H1 : (if 0 ≤ (IntKind.u64.wrap (a2_1)) then ((impl_restOf.f kj116 (wrap64 (a1_1 * (shl .i64 1 (IntKind.u64.wrap (a2_1))))) (wrap64 (a1_0 * (shl .i64 1 (IntKind.u64.wrap (a2_1)))))).bind fun bt223 => (some (bt223.1, bt223.2))) else (none)) = some (r1, r2) := by rw [if_pos rfl] at H; exact H
                      clear H
                      have H := H1
                      clear H1
                      obtain ⟨ji130, hji130⟩ : ∃ j_ : Int, (IntKind.u64.wrap (a2_1)) = j_ := ⟨_, rfl⟩
                      replace H : (if 0 ≤ (ji130) then ((impl_restOf.f kj116 (wrap64 (a1_1 * (shl .i64 1 (ji130)))) (wrap64 (a1_0 * (shl .i64 1 (ji130))))).bind fun bt223 => (some (bt223.1, bt223.2))) else (none)) = some (r1, r2) := by first | (rw [hji130] at H; exact H) | (simp only [hji130] at H ⊢; exact H)
                      by_cases c131 : 0 ≤ (ji130)
                      ·rw [if_pos c131] at H
                       have c131b0 := eq_true c131
                       have c131b1 : decide (0 ≤ (ji130)) = true := decide_eq_true c131
                       clear c131
                       obtain ⟨ji132, hji132⟩ : ∃ j_ : Int, (shl .i64 1 (ji130)) = j_ := ⟨_, rfl⟩
                       replace H : ((impl_restOf.f kj116 (wrap64 (a1_1 * (ji132))) (wrap64 (a1_0 * (ji132)))).bind fun bt223 => (some (bt223.1, bt223.2))) = some (r1, r2) := by first | (rw [hji132] at H; exact H) | (simp only [hji132] at H ⊢; exact H)
                       have hji132_ : (IntKind.i64.wrap (1 * 2 ^ min (ji130).toNat 64)) = ji132 := hji132
                       have hji132z : (ji130) ≤ 64 → (IntKind.i64.wrap (1 * 2 ^ (ji130).toNat)) = ji132 := shl_small hji132
                       have hji132u : (IntKind.i64.wrap (2 ^ min (ji130).toNat 64)) = ji132 := by have h_ := hji132_; rw [Int.one_mul] at h_; exact h_
                       have hji132v : (ji130) ≤ 64 → (IntKind.i64.wrap (2 ^ (ji130).toNat)) = ji132 := fun hle_ => by have h_ := hji132z hle_; rw [Int.one_mul] at h_; exact h_
                       have hji132y : (wrap64 (1 * 2 ^ min (ji130).toNat 64)) = ji132 := (i64_w _).symm.trans hji132_
                       have hji132x : (ji130) ≤ 64 → (wrap64 (1 * 2 ^ (ji130).toNat)) = ji132 := fun h_ => (i64_w _).symm.trans (hji132z h_)
                       replace H := Option.bind_eq_some_iff.mp H
                       obtain ⟨⟨t223, t224⟩, A1330, H⟩ := H
                       replace H : (some (t223, t224)) = some (r1, r2) := H
                       have A133 := Aside0.mk A1330
                       clear A1330
                       simp only [Option.some.injEq, Prod.mk.injEq] at H
                       obtain ⟨rfl, rfl⟩ := H
                       have hnb134 := NB190_189.out
                       have hnc134 := NB189_190.out
                       have hnb135 := NB190_191.out
                       have hnc135 := NB191_190.out
                       have hcz136_0 : wc.cell? ⟨gb190, 0, none⟩ = some (.int .i64 a2_0) := (blk_cell BK190.out 0).trans rfl
                       have hcz136_1 : wc.cell? ⟨gb190, 1, none⟩ = some (.int .i64 a2_1) := (blk_cell BK190.out 1).trans rfl
                       have hfz136_0 := blk_frozen BK190.out 0
                       have hfz136_1 := blk_frozen BK190.out 1
                       have hnb137 := NB189_191.out
                       have hnc137 := NB191_189.out
                       have hcz138_0 : wc.cell? ⟨gb189, 0, none⟩ = some (.int .i64 a1_0) := (blk_cell BK189.out 0).trans rfl
                       have hcz138_1 : wc.cell? ⟨gb189, 1, none⟩ = some (.int .i64 a1_1) := (blk_cell BK189.out 1).trans rfl
                       have hfz138_0 := blk_frozen BK189.out 0
                       have hfz138_1 := blk_frozen BK189.out 1
                       go_wp2_with (first | ((with_reducible refine gate_callee (f := 71) rfl ?_); refine goesL_ (some 147) rfl rfl Try.func71 (by kernel_rfl) rfl #[.int .i64 (wrap64 (a1_1 * (ji132))), .int .i64 (wrap64 (a1_0 * (ji132)))] rfl (by (try simp only [List.map_toArray, List.map_cons, List.map_nil]); first | done | (simp only [hji132]; rfl) | rfl | (simp only [List.length_drop, List.length_take]; rfl)) ?_; (with_reducible refine (impl_restOf.calls kj116 (wrap64 (a1_1 * (ji132))) (wrap64 (a1_0 * (ji132))) t223 t224 _ A133.out).mono ?_); rintro e w139 ⟨rfl, hb⟩; refine ⟨_, rfl, ?_⟩; have n0_ := Aside0.mk (blk_below (g := gb189) (o := .cells #[.int .i64 a1_0, .int .i64 a1_1] 40 (0, 0)) (bz BK189.out) hb); have n1_ := Aside0.mk (blk_below (g := gb190) (o := .cells #[.int .i64 a2_0, .int .i64 a2_1] 40 (0, 0)) (bz BK190.out) hb); have n2_ := Aside0.mk (blk_below (g := gb191) (o := .cells #[.int .i64 0, .int .i64 0] 40 (0, 0)) (bz BK191.out) hb); have n3_ := Aside0.mk (below_step (hz3 HB.out GE189.out GE190.out GE191.out) hb); clear BK189; clear BK190; clear BK191; clear HB; have BK189 := n0_; have BK190 := n1_; have BK191 := n2_; have HB := n3_; clear n0_ n1_ n2_ n3_; (try clear hb); (try clear hb2); (try clear hk); (try clear hi); have hcz140_0 : w139.cell? ⟨gb191, 0, none⟩ = some (.int .i64 0) := (blk_cell BK191.out 0).trans rfl; have hcz140_1 : w139.cell? ⟨gb191, 1, none⟩ = some (.int .i64 0) := (blk_cell BK191.out 1).trans rfl; have hfz140_0 := blk_frozen BK191.out 0; have hfz140_1 := blk_frozen BK191.out 1))
                       refine bodyPost_ret (results_cell_row rfl _ _ gb191 40 #[.int .i64 t223, .int .i64 t224] (0, 0) _ rfl (by (with_reducible repeat (first | refine blk_drewN ?_ _ | refine blk_drew ?_ | refine blk_alloc ?_ _)); refine blk_put (cs := #[.int .i64 t223, .int .i64 0]) ?_ 1 _ rfl; (with_reducible repeat (first | refine blk_drewN ?_ _ | refine blk_drew ?_ | refine blk_alloc ?_ _)); refine blk_put (cs := #[.int .i64 0, .int .i64 0]) ?_ 0 _ rfl; (with_reducible repeat (first | refine blk_drewN ?_ _ | refine blk_drew ?_ | refine blk_alloc ?_ _)); exact BK191.out) Try.underlying40 rfl (by kernel_rfl)) rfl ?_
                       exact ⟨by first | rfl | (simp [errW_none, errW_some] <;> rfl) | (simp only [← hji130, ← hji132]; first | rfl | (simp [errW_none, errW_some] <;> rfl)) | (simp [*, errW_none, errW_some] <;> rfl), hz3 HB.out GE189.out GE190.out GE191.out⟩
                      ·rw [if_neg c131] at H
                       exact absurd H (by simp)
                     ·replace c129 := Bool.eq_false_iff.mpr c129
                      subst c129
                      have H1 : ((impl_restAll.f).bind fun bt225 => (some (bt225.1, bt225.2))) = some (r1, r2) := by rw [if_neg (show ¬ (false = true) by decide)] at H; exact H
                      clear H
                      have H := H1
                      clear H1
                      replace H := Option.bind_eq_some_iff.mp H
                      obtain ⟨⟨t225, t226⟩, A1410, H⟩ := H
                      replace H : (some (t225, t226)) = some (r1, r2) := H
                      have A141 := Aside0.mk A1410
                      clear A1410
                      simp only [Option.some.injEq, Prod.mk.injEq] at H
                      obtain ⟨rfl, rfl⟩ := H
                      go_wp2_with (first | ((with_reducible refine gate_callee (f := 70) rfl ?_); refine goesL_ (some 164) rfl rfl Try.func70 (by kernel_rfl) rfl #[] rfl mz ?_; (with_reducible refine (impl_restAll.calls  t225 t226 _ A141.out).mono ?_); rintro e w142 ⟨rfl, hb⟩; refine ⟨_, rfl, ?_⟩; have n0_ := Aside0.mk (blk_below (g := gb189) (o := .cells #[.int .i64 a1_0, .int .i64 a1_1] 40 (0, 0)) (bz BK189.out) hb); have n1_ := Aside0.mk (blk_below (g := gb190) (o := .cells #[.int .i64 a2_0, .int .i64 a2_1] 40 (0, 0)) (bz BK190.out) hb); have n2_ := Aside0.mk (blk_below (g := gb191) (o := .cells #[.int .i64 0, .int .i64 0] 40 (0, 0)) (bz BK191.out) hb); have n3_ := Aside0.mk (below_step (hz3 HB.out GE189.out GE190.out GE191.out) hb); clear BK189; clear BK190; clear BK191; clear HB; have BK189 := n0_; have BK190 := n1_; have BK191 := n2_; have HB := n3_; clear n0_ n1_ n2_ n3_; (try clear hb); (try clear hb2); (try clear hk); (try clear hi); have hnb143 := NB191_189.out; have hnc143 := NB189_191.out; have hnb144 := NB191_190.out; have hnc144 := NB190_191.out; have hcz145_0 : w142.cell? ⟨gb191, 0, none⟩ = some (.int .i64 0) := (blk_cell BK191.out 0).trans rfl; have hcz145_1 : w142.cell? ⟨gb191, 1, none⟩ = some (.int .i64 0) := (blk_cell BK191.out 1).trans rfl; have hfz145_0 := blk_frozen BK191.out 0; have hfz145_1 := blk_frozen BK191.out 1))
                      refine bodyPost_ret (results_cell_row rfl _ _ gb191 40 #[.int .i64 t225, .int .i64 t226] (0, 0) _ rfl (by (with_reducible repeat (first | refine blk_drewN ?_ _ | refine blk_drew ?_ | refine blk_alloc ?_ _)); refine blk_put (cs := #[.int .i64 t225, .int .i64 0]) ?_ 1 _ rfl; (with_reducible repeat (first | refine blk_drewN ?_ _ | refine blk_drew ?_ | refine blk_alloc ?_ _)); refine blk_put (cs := #[.int .i64 0, .int .i64 0]) ?_ 0 _ rfl; (with_reducible repeat (first | refine blk_drewN ?_ _ | refine blk_drew ?_ | refine blk_alloc ?_ _)); exact BK191.out) Try.underlying40 rfl (by kernel_rfl)) rfl ?_
                      exact ⟨by first | rfl | (simp [errW_none, errW_some] <;> rfl) | (simp [*, errW_none, errW_some] <;> rfl), hz3 HB.out GE189.out GE190.out GE191.out⟩
                  ·rw [if_neg c116] at H
                   have c116b0 : (a0 == 9) = false := beq_eq_false_iff_ne.mpr c116
                   have c116b1 : (a0 != 9) = true := bne_iff_ne.mpr c116
                   by_cases c146 : a0 = 5
                   ·rw [if_pos c146] at H
                    have c146b0 : (a0 == 5) = true := beq_iff_eq.mpr c146
                    have c146b1 : (a0 != 5) = false := bne_eq_false_iff_eq.mpr c146
                    clear c146
                    obtain ⟨y227, hy227⟩ : ∃ y_ : List Int, y_ = (([a1_0, a2_0, a2_1] : List Int)) := ⟨_, rfl⟩
                    replace H : ((impl_restGcd.f kj84 y227).bind fun t230 => (if t230 = 0 then ((impl_restAll.f).bind fun bt231 => (some (bt231.1, bt231.2))) else ((impl_restOf.f kj84 a1_1 t230).bind fun bt233 => (some (bt233.1, bt233.2))))) = some (r1, r2) := by first | (rw [hy227]; with_reducible exact H) | (have H2_ := (Option.bind_some _ _).symm.trans H; rw [hy227]; with_reducible exact H2_) | (have H2_ := (Option.bind_some _ _).symm.trans H; with_reducible exact H2_) | with_reducible exact H | (rw [hy227]; exact H) | exact H
                    have Ny227 := Aside0.mk hy227
                    clear hy227
                    replace H := Option.bind_eq_some_iff.mp H
                    obtain ⟨t230, A1470, H⟩ := H
                    replace H : (if t230 = 0 then ((impl_restAll.f).bind fun bt231 => (some (bt231.1, bt231.2))) else ((impl_restOf.f kj84 a1_1 t230).bind fun bt233 => (some (bt233.1, bt233.2)))) = some (r1, r2) := H
                    have A147 := Aside0.mk A1470
                    clear A1470
                    by_cases c148 : t230 = 0
                    ·rw [if_pos c148] at H
                     have c148b0 : (t230 == 0) = true := beq_iff_eq.mpr c148
                     have c148b1 : (t230 != 0) = false := bne_eq_false_iff_eq.mpr c148
                     clear c148
                     replace H := Option.bind_eq_some_iff.mp H
                     obtain ⟨⟨t231, t232⟩, A1490, H⟩ := H
                     replace H : (some (t231, t232)) = some (r1, r2) := H
                     have A149 := Aside0.mk A1490
                     clear A1490
                     simp only [Option.some.injEq, Prod.mk.injEq] at H
                     obtain ⟨rfl, rfl⟩ := H
                     have hnb150 := NB189_190.out
                     have hnc150 := NB190_189.out
                     have hnb151 := NB189_191.out
                     have hnc151 := NB191_189.out
                     have hcz152_0 : wc.cell? ⟨gb189, 0, none⟩ = some (.int .i64 a1_0) := (blk_cell BK189.out 0).trans rfl
                     have hcz152_1 : wc.cell? ⟨gb189, 1, none⟩ = some (.int .i64 a1_1) := (blk_cell BK189.out 1).trans rfl
                     have hfz152_0 := blk_frozen BK189.out 0
                     have hfz152_1 := blk_frozen BK189.out 1
                     have hnb153 := NB190_191.out
                     have hnc153 := NB191_190.out
                     have hcz154_0 : wc.cell? ⟨gb190, 0, none⟩ = some (.int .i64 a2_0) := (blk_cell BK190.out 0).trans rfl
                     have hcz154_1 : wc.cell? ⟨gb190, 1, none⟩ = some (.int .i64 a2_1) := (blk_cell BK190.out 1).trans rfl
                     have hfz154_0 := blk_frozen BK190.out 0
                     have hfz154_1 := blk_frozen BK190.out 1
                     go_wp2_with (first | ((with_reducible refine gate_dst (N := 156) rfl ?_); refine Kd.R_lit (Kd.int .i64) _ 3 ?hg (N := 156) ?hd (xs := ([a1_0, a2_0, a2_1] : List Int)) (inner := [.int .i64 a1_0, .int .i64 a2_0, .int .i64 a2_1]) (ok := fun _ => True) (okp := fun _ => True) ?hr ?hp (fun _ hk => hk) trivial (Below.refl _ _) (Nat.le_refl _) (by simp) ?_; (case hd => rfl); (case hg => rfl); (case hr => first | (go_simp; done) | (go_simp; rfl)); (case hp => exact (Reps.one (show Kd.M (Kd.int .i64) _ _ _ a1_0 [.int .i64 a1_0] from rfl) (Reps.one (show Kd.M (Kd.int .i64) _ _ _ a2_0 [.int .i64 a2_0] from rfl) (Reps.one (show Kd.M (Kd.int .i64) _ _ _ a2_1 [.int .i64 a2_1] from rfl) (Reps.none _ _))))); intro v228 w155 ho156 hb hg_ hnew_; clear hg_ hnew_; (first | rw [← Ny227.out] at ho156 | (simp only [Int.reduceToNat] at ho156; rw [← Ny227.out] at ho156)); have n0_ := Aside0.mk (Kd.R_lower ho156 (below_size (hz3 HB.out GE189.out GE190.out GE191.out))); have n1_ := Aside0.mk (blk_below (g := gb189) (o := .cells #[.int .i64 a1_0, .int .i64 a1_1] 40 (0, 0)) (bz BK189.out) hb); have n2_ := Aside0.mk (blk_below (g := gb190) (o := .cells #[.int .i64 a2_0, .int .i64 a2_1] 40 (0, 0)) (bz BK190.out) hb); have n3_ := Aside0.mk (blk_below (g := gb191) (o := .cells #[.int .i64 0, .int .i64 0] 40 (0, 0)) (bz BK191.out) hb); have n4_ := Aside0.mk (below_step (hz3 HB.out GE189.out GE190.out GE191.out) hb); clear BK189; clear BK190; clear BK191; clear HB; have HO229 := n0_; have BK189 := n1_; have BK190 := n2_; have BK191 := n3_; have HB := n4_; clear n0_ n1_ n2_ n3_ n4_; clear hb ho156; obtain ⟨Ao157, co157, eo157⟩ := Kd.R_slice HO229.out; subst eo157) | ((with_reducible refine gate_callee (f := 72) rfl ?_); refine goesL_ (some 157) rfl rfl Try.func72 (by kernel_rfl) rfl #[.slice Ao157 y227.length co157] rfl mz ?_; (with_reducible refine (impl_restGcd.calls kj84 _ _ y227 t230 _ ?side1 ?side2 A147.out).mono ?_); (case side1 => repeat (first | exact (Kd.R_reads' HO229.out).2.2 | (with_reducible refine Kd.C_alloc ?_ _) | (with_reducible refine Kd.C_drewN ?_ _) | (with_reducible refine Kd.C_drew ?_))); (case side2 => exact (Kd.R_reads' HO229.out).2.1); rintro e w' ⟨rfl, ⟨nd, rfl⟩⟩; refine ⟨_, rfl, ?_⟩; (try (rw [drewN_self w155]; generalize hq_ : World.drewN w155 _ = w155; have n0_ : Aside0 (Kd.R (Kd.int .i64) 3 w155 w.heap.size (fun _ => True) (.slice Ao157 y227.length co157) y227) := ⟨by rw [← hq_]; exact (by (with_reducible repeat (first | apply Kd.R_alloc | apply Kd.R_drewN | apply Kd.R_drew)); exact HO229.out)⟩; have n1_ : Aside0 (w155.heap[gb189]? = some (.cells #[.int .i64 a1_0, .int .i64 a1_1] 40 (0, 0))) := ⟨by rw [← hq_]; exact (bz BK189.out)⟩; have n2_ : Aside0 (w155.heap[gb190]? = some (.cells #[.int .i64 a2_0, .int .i64 a2_1] 40 (0, 0))) := ⟨by rw [← hq_]; exact (bz BK190.out)⟩; have n3_ : Aside0 (w155.heap[gb191]? = some (.cells #[.int .i64 0, .int .i64 0] 40 (0, 0))) := ⟨by rw [← hq_]; exact (bz BK191.out)⟩; have n4_ : Aside0 (Below w.heap.size w w155) := ⟨by rw [← hq_]; exact (hz3 HB.out GE189.out GE190.out GE191.out)⟩; clear HO229 BK189 BK190 BK191 HB hq_; have HO229 := n0_; have BK189 := n1_; have BK190 := n2_; have BK191 := n3_; have HB := n4_; clear n0_ n1_ n2_ n3_ n4_))) | ((with_reducible refine gate_callee (f := 70) rfl ?_); refine goesL_ (some 164) rfl rfl Try.func70 (by kernel_rfl) rfl #[] rfl mz ?_; (with_reducible refine (impl_restAll.calls  t231 t232 _ A149.out).mono ?_); rintro e w158 ⟨rfl, hb⟩; refine ⟨_, rfl, ?_⟩; have n0_ := Aside0.mk (Kd.R_below (by (with_reducible repeat (first | apply Kd.R_alloc | apply Kd.R_drewN | apply Kd.R_drew)); exact HO229.out) hb); have n1_ := Aside0.mk (blk_below (g := gb189) (o := .cells #[.int .i64 a1_0, .int .i64 a1_1] 40 (0, 0)) (bz BK189.out) hb); have n2_ := Aside0.mk (blk_below (g := gb190) (o := .cells #[.int .i64 a2_0, .int .i64 a2_1] 40 (0, 0)) (bz BK190.out) hb); have n3_ := Aside0.mk (blk_below (g := gb191) (o := .cells #[.int .i64 0, .int .i64 0] 40 (0, 0)) (bz BK191.out) hb); have n4_ := Aside0.mk (below_step (hz3 HB.out GE189.out GE190.out GE191.out) hb); clear HO229; clear BK189; clear BK190; clear BK191; clear HB; have HO229 := n0_; have BK189 := n1_; have BK190 := n2_; have BK191 := n3_; have HB := n4_; clear n0_ n1_ n2_ n3_ n4_; (try clear hb); (try clear hb2); (try clear hk); (try clear hi); have hcz159_0 : w158.cell? ⟨gb191, 0, none⟩ = some (.int .i64 0) := (blk_cell BK191.out 0).trans rfl; have hcz159_1 : w158.cell? ⟨gb191, 1, none⟩ = some (.int .i64 0) := (blk_cell BK191.out 1).trans rfl; have hfz159_0 := blk_frozen BK191.out 0; have hfz159_1 := blk_frozen BK191.out 1))
                     refine bodyPost_ret (results_cell_row rfl _ _ gb191 40 #[.int .i64 t231, .int .i64 t232] (0, 0) _ rfl (by (with_reducible repeat (first | refine blk_drewN ?_ _ | refine blk_drew ?_ | refine blk_alloc ?_ _)); refine blk_put (cs := #[.int .i64 t231, .int .i64 0]) ?_ 1 _ rfl; (with_reducible repeat (first | refine blk_drewN ?_ _ | refine blk_drew ?_ | refine blk_alloc ?_ _)); refine blk_put (cs := #[.int .i64 0, .int .i64 0]) ?_ 0 _ rfl; (with_reducible repeat (first | refine blk_drewN ?_ _ | refine blk_drew ?_ | refine blk_alloc ?_ _)); exact BK191.out) Try.underlying40 rfl (by kernel_rfl)) rfl ?_
                     exact ⟨by first | rfl | (simp [errW_none, errW_some] <;> rfl) | (simp [*, errW_none, errW_some] <;> rfl), hz3 HB.out GE189.out GE190.out GE191.out⟩
                    ·rw [if_neg c148] at H
                     have c148b0 : (t230 == 0) = false := beq_eq_false_iff_ne.mpr c148
                     have c148b1 : (t230 != 0) = true := bne_iff_ne.mpr c148
                     replace H := Option.bind_eq_some_iff.mp H
                     obtain ⟨⟨t233, t234⟩, A1600, H⟩ := H
                     replace H : (some (t233, t234)) = some (r1, r2) := H
                     have A160 := Aside0.mk A1600
                     clear A1600
                     simp only [Option.some.injEq, Prod.mk.injEq] at H
                     obtain ⟨rfl, rfl⟩ := H
                     have hnb161 := NB189_190.out
                     have hnc161 := NB190_189.out
                     have hnb162 := NB189_191.out
                     have hnc162 := NB191_189.out
                     have hcz163_0 : wc.cell? ⟨gb189, 0, none⟩ = some (.int .i64 a1_0) := (blk_cell BK189.out 0).trans rfl
                     have hcz163_1 : wc.cell? ⟨gb189, 1, none⟩ = some (.int .i64 a1_1) := (blk_cell BK189.out 1).trans rfl
                     have hfz163_0 := blk_frozen BK189.out 0
                     have hfz163_1 := blk_frozen BK189.out 1
                     have hnb164 := NB190_191.out
                     have hnc164 := NB191_190.out
                     have hcz165_0 : wc.cell? ⟨gb190, 0, none⟩ = some (.int .i64 a2_0) := (blk_cell BK190.out 0).trans rfl
                     have hcz165_1 : wc.cell? ⟨gb190, 1, none⟩ = some (.int .i64 a2_1) := (blk_cell BK190.out 1).trans rfl
                     have hfz165_0 := blk_frozen BK190.out 0
                     have hfz165_1 := blk_frozen BK190.out 1
                     go_wp2_with (first | ((with_reducible refine gate_dst (N := 156) rfl ?_); refine Kd.R_lit (Kd.int .i64) _ 3 ?hg (N := 156) ?hd (xs := ([a1_0, a2_0, a2_1] : List Int)) (inner := [.int .i64 a1_0, .int .i64 a2_0, .int .i64 a2_1]) (ok := fun _ => True) (okp := fun _ => True) ?hr ?hp (fun _ hk => hk) trivial (Below.refl _ _) (Nat.le_refl _) (by simp) ?_; (case hd => rfl); (case hg => rfl); (case hr => first | (go_simp; done) | (go_simp; rfl)); (case hp => exact (Reps.one (show Kd.M (Kd.int .i64) _ _ _ a1_0 [.int .i64 a1_0] from rfl) (Reps.one (show Kd.M (Kd.int .i64) _ _ _ a2_0 [.int .i64 a2_0] from rfl) (Reps.one (show Kd.M (Kd.int .i64) _ _ _ a2_1 [.int .i64 a2_1] from rfl) (Reps.none _ _))))); intro v228 w166 ho167 hb hg_ hnew_; clear hg_ hnew_; (first | rw [← Ny227.out] at ho167 | (simp only [Int.reduceToNat] at ho167; rw [← Ny227.out] at ho167)); have n0_ := Aside0.mk (Kd.R_lower ho167 (below_size (hz3 HB.out GE189.out GE190.out GE191.out))); have n1_ := Aside0.mk (blk_below (g := gb189) (o := .cells #[.int .i64 a1_0, .int .i64 a1_1] 40 (0, 0)) (bz BK189.out) hb); have n2_ := Aside0.mk (blk_below (g := gb190) (o := .cells #[.int .i64 a2_0, .int .i64 a2_1] 40 (0, 0)) (bz BK190.out) hb); have n3_ := Aside0.mk (blk_below (g := gb191) (o := .cells #[.int .i64 0, .int .i64 0] 40 (0, 0)) (bz BK191.out) hb); have n4_ := Aside0.mk (below_step (hz3 HB.out GE189.out GE190.out GE191.out) hb); clear BK189; clear BK190; clear BK191; clear HB; have HO229 := n0_; have BK189 := n1_; have BK190 := n2_; have BK191 := n3_; have HB := n4_; clear n0_ n1_ n2_ n3_ n4_; clear hb ho167; obtain ⟨Ao168, co168, eo168⟩ := Kd.R_slice HO229.out; subst eo168) | ((with_reducible refine gate_callee (f := 72) rfl ?_); refine goesL_ (some 157) rfl rfl Try.func72 (by kernel_rfl) rfl #[.slice Ao168 y227.length co168] rfl mz ?_; (with_reducible refine (impl_restGcd.calls kj84 _ _ y227 t230 _ ?side1 ?side2 A147.out).mono ?_); (case side1 => repeat (first | exact (Kd.R_reads' HO229.out).2.2 | (with_reducible refine Kd.C_alloc ?_ _) | (with_reducible refine Kd.C_drewN ?_ _) | (with_reducible refine Kd.C_drew ?_))); (case side2 => exact (Kd.R_reads' HO229.out).2.1); rintro e w' ⟨rfl, ⟨nd, rfl⟩⟩; refine ⟨_, rfl, ?_⟩; (try (rw [drewN_self w166]; generalize hq_ : World.drewN w166 _ = w166; have n0_ : Aside0 (Kd.R (Kd.int .i64) 3 w166 w.heap.size (fun _ => True) (.slice Ao168 y227.length co168) y227) := ⟨by rw [← hq_]; exact (by (with_reducible repeat (first | apply Kd.R_alloc | apply Kd.R_drewN | apply Kd.R_drew)); exact HO229.out)⟩; have n1_ : Aside0 (w166.heap[gb189]? = some (.cells #[.int .i64 a1_0, .int .i64 a1_1] 40 (0, 0))) := ⟨by rw [← hq_]; exact (bz BK189.out)⟩; have n2_ : Aside0 (w166.heap[gb190]? = some (.cells #[.int .i64 a2_0, .int .i64 a2_1] 40 (0, 0))) := ⟨by rw [← hq_]; exact (bz BK190.out)⟩; have n3_ : Aside0 (w166.heap[gb191]? = some (.cells #[.int .i64 0, .int .i64 0] 40 (0, 0))) := ⟨by rw [← hq_]; exact (bz BK191.out)⟩; have n4_ : Aside0 (Below w.heap.size w w166) := ⟨by rw [← hq_]; exact (hz3 HB.out GE189.out GE190.out GE191.out)⟩; clear HO229 BK189 BK190 BK191 HB hq_; have HO229 := n0_; have BK189 := n1_; have BK190 := n2_; have BK191 := n3_; have HB := n4_; clear n0_ n1_ n2_ n3_ n4_)); have hcz169_0 : w166.cell? ⟨gb189, 0, none⟩ = some (.int .i64 a1_0) := (blk_cell BK189.out 0).trans rfl; have hcz169_1 : w166.cell? ⟨gb189, 1, none⟩ = some (.int .i64 a1_1) := (blk_cell BK189.out 1).trans rfl; have hfz169_0 := blk_frozen BK189.out 0; have hfz169_1 := blk_frozen BK189.out 1) | ((with_reducible refine gate_callee (f := 71) rfl ?_); refine goesL_ (some 163) rfl rfl Try.func71 (by kernel_rfl) rfl #[.int .i64 a1_1, .int .i64 t230] rfl mz ?_; (with_reducible refine (impl_restOf.calls kj84 a1_1 t230 t233 t234 _ A160.out).mono ?_); rintro e w170 ⟨rfl, hb⟩; refine ⟨_, rfl, ?_⟩; have n0_ := Aside0.mk (Kd.R_below (by (with_reducible repeat (first | apply Kd.R_alloc | apply Kd.R_drewN | apply Kd.R_drew)); exact HO229.out) hb); have n1_ := Aside0.mk (blk_below (g := gb189) (o := .cells #[.int .i64 a1_0, .int .i64 a1_1] 40 (0, 0)) (bz BK189.out) hb); have n2_ := Aside0.mk (blk_below (g := gb190) (o := .cells #[.int .i64 a2_0, .int .i64 a2_1] 40 (0, 0)) (bz BK190.out) hb); have n3_ := Aside0.mk (blk_below (g := gb191) (o := .cells #[.int .i64 0, .int .i64 0] 40 (0, 0)) (bz BK191.out) hb); have n4_ := Aside0.mk (below_step (hz3 HB.out GE189.out GE190.out GE191.out) hb); clear HO229; clear BK189; clear BK190; clear BK191; clear HB; have HO229 := n0_; have BK189 := n1_; have BK190 := n2_; have BK191 := n3_; have HB := n4_; clear n0_ n1_ n2_ n3_ n4_; (try clear hb); (try clear hb2); (try clear hk); (try clear hi); have hcz171_0 : w170.cell? ⟨gb191, 0, none⟩ = some (.int .i64 0) := (blk_cell BK191.out 0).trans rfl; have hcz171_1 : w170.cell? ⟨gb191, 1, none⟩ = some (.int .i64 0) := (blk_cell BK191.out 1).trans rfl; have hfz171_0 := blk_frozen BK191.out 0; have hfz171_1 := blk_frozen BK191.out 1))
                     refine bodyPost_ret (results_cell_row rfl _ _ gb191 40 #[.int .i64 t233, .int .i64 t234] (0, 0) _ rfl (by (with_reducible repeat (first | refine blk_drewN ?_ _ | refine blk_drew ?_ | refine blk_alloc ?_ _)); refine blk_put (cs := #[.int .i64 t233, .int .i64 0]) ?_ 1 _ rfl; (with_reducible repeat (first | refine blk_drewN ?_ _ | refine blk_drew ?_ | refine blk_alloc ?_ _)); refine blk_put (cs := #[.int .i64 0, .int .i64 0]) ?_ 0 _ rfl; (with_reducible repeat (first | refine blk_drewN ?_ _ | refine blk_drew ?_ | refine blk_alloc ?_ _)); exact BK191.out) Try.underlying40 rfl (by kernel_rfl)) rfl ?_
                     exact ⟨by first | rfl | (simp [errW_none, errW_some] <;> rfl) | (simp [*, errW_none, errW_some] <;> rfl), hz3 HB.out GE189.out GE190.out GE191.out⟩
                   ·rw [if_neg c146] at H
                    have c146b0 : (a0 == 5) = false := beq_eq_false_iff_ne.mpr c146
                    have c146b1 : (a0 != 5) = true := bne_iff_ne.mpr c146
                    replace H := Option.bind_eq_some_iff.mp H
                    obtain ⟨⟨t235, t236⟩, A1720, H⟩ := H
                    replace H : (some (t235, t236)) = some (r1, r2) := H
                    have A172 := Aside0.mk A1720
                    clear A1720
                    simp only [Option.some.injEq, Prod.mk.injEq] at H
                    obtain ⟨rfl, rfl⟩ := H
                    go_wp2_with (first | ((with_reducible refine gate_callee (f := 70) rfl ?_); refine goesL_ (some 164) rfl rfl Try.func70 (by kernel_rfl) rfl #[] rfl mz ?_; (with_reducible refine (impl_restAll.calls  t235 t236 _ A172.out).mono ?_); rintro e w173 ⟨rfl, hb⟩; refine ⟨_, rfl, ?_⟩; have n0_ := Aside0.mk (blk_below (g := gb189) (o := .cells #[.int .i64 a1_0, .int .i64 a1_1] 40 (0, 0)) (bz BK189.out) hb); have n1_ := Aside0.mk (blk_below (g := gb190) (o := .cells #[.int .i64 a2_0, .int .i64 a2_1] 40 (0, 0)) (bz BK190.out) hb); have n2_ := Aside0.mk (blk_below (g := gb191) (o := .cells #[.int .i64 0, .int .i64 0] 40 (0, 0)) (bz BK191.out) hb); have n3_ := Aside0.mk (below_step (hz3 HB.out GE189.out GE190.out GE191.out) hb); clear BK189; clear BK190; clear BK191; clear HB; have BK189 := n0_; have BK190 := n1_; have BK191 := n2_; have HB := n3_; clear n0_ n1_ n2_ n3_; (try clear hb); (try clear hb2); (try clear hk); (try clear hi); have hnb174 := NB191_189.out; have hnc174 := NB189_191.out; have hnb175 := NB191_190.out; have hnc175 := NB190_191.out; have hcz176_0 : w173.cell? ⟨gb191, 0, none⟩ = some (.int .i64 0) := (blk_cell BK191.out 0).trans rfl; have hcz176_1 : w173.cell? ⟨gb191, 1, none⟩ = some (.int .i64 0) := (blk_cell BK191.out 1).trans rfl; have hfz176_0 := blk_frozen BK191.out 0; have hfz176_1 := blk_frozen BK191.out 1))
                    refine bodyPost_ret (results_cell_row rfl _ _ gb191 40 #[.int .i64 t235, .int .i64 t236] (0, 0) _ rfl (by (with_reducible repeat (first | refine blk_drewN ?_ _ | refine blk_drew ?_ | refine blk_alloc ?_ _)); refine blk_put (cs := #[.int .i64 t235, .int .i64 0]) ?_ 1 _ rfl; (with_reducible repeat (first | refine blk_drewN ?_ _ | refine blk_drew ?_ | refine blk_alloc ?_ _)); refine blk_put (cs := #[.int .i64 0, .int .i64 0]) ?_ 0 _ rfl; (with_reducible repeat (first | refine blk_drewN ?_ _ | refine blk_drew ?_ | refine blk_alloc ?_ _)); exact BK191.out) Try.underlying40 rfl (by kernel_rfl)) rfl ?_
                    exact ⟨by first | rfl | (simp [errW_none, errW_some] <;> rfl) | (simp [*, errW_none, errW_some] <;> rfl), hz3 HB.out GE189.out GE190.out GE191.out⟩

end Go.Proofs.Ytlipfemjlicbbaa.PFnExactRestDo
