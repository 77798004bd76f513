/- Written by this session's own driver (wip/dprint.py): the functions that the law FnExactRangeCmp reaches, as Lean functions, each with its contract. -/
import Derived.Test.YtlipfemjlicbbaaPFnExactRangeCmpx0
import Derived.Test.YtlipfemjlicbbaaPFnExactRangeCmpx1
import Derived.Test.YtlipfemjlicbbaaPFnExactRangeCmpx2
import Derived.Test.YtlipfemjlicbbaaPFnExactRangeCmpx3
import Derived.Test.YtlipfemjlicbbaaPFnExactRangeCmpx4
import Derived.Test.YtlipfemjlicbbaaPFnExactRangeCmpx5
import Derived.Test.YtlipfemjlicbbaaSv
namespace Go.Proofs.Ytlipfemjlicbbaa.PFnExactRangeCmp
open Go.RowKit Go.Proofs.YtlipfemjlicbbaaV.PrintWords Go.Proofs.YtlipfemjlicbbaaV.PrintLast Go.Proofs.YtlipfemjlicbbaaV.PrintMore Go.Proofs.YtlipfemjlicbbaaSv
attribute [local go_sem] max2_int min2_int max_two min_two max_three min_three max_four min_four   -- for this text's walks alone
set_option linter.unusedVariables false
set_option linter.unusedSimpArgs false

attribute [local go_sem high] eqA24
/-! ### spec_RangeCmp: function 25 -/
mutual
def spec_RangeCmp.j0 : Nat → Int → Bool → Int → Int → Int → Int → Int → Int → Int → Int → Option (Int × Int × Int × Int)
 | 0, _, _, _, _, _, _, _, _, _, _ => none
 | k + 1, x0, x29, x141000, x141001, x142000, x142001, x147000, x147001, x150000, x150001 => if x29 = true then (some (x147000, x147001, x150000, x150001)) else (if x0 = 1 then ((spec_RangeMeet.f k x141000 x141001 x142000 x142001).bind fun bt156 => (spec_RangeCmp.j1 k x0 x141000 x141001 x142000 x142001 bt156.1 bt156.2 bt156.1 bt156.2)) else (spec_RangeCmp.j1 k x0 x141000 x141001 x142000 x142001 x147000 x147001 x150000 x150001))
def spec_RangeCmp.j1 : Nat → Int → Int → Int → Int → Int → Int → Int → Int → Int → Option (Int × Int × Int × Int)
 | 0, _, _, _, _, _, _, _, _, _ => none
 | k + 1, x0, x141000, x141001, x142000, x142001, x147000, x147001, x150000, x150001 => if x0 = 2 then ((spec_l8Ne.f x141000 x141001 x142000 x142001).bind fun bt158 => ((spec_l8Ne.f x142000 x142001 x141000 x141001).bind fun bt160 => (spec_RangeCmp.j2 k x0 x141000 x141001 x142000 x142001 bt158.1 bt158.2 bt160.1 bt160.2))) else (spec_RangeCmp.j2 k x0 x141000 x141001 x142000 x142001 x147000 x147001 x150000 x150001)
def spec_RangeCmp.j2 : Nat → Int → Int → Int → Int → Int → Int → Int → Int → Int → Option (Int × Int × Int × Int)
 | 0, _, _, _, _, _, _, _, _, _ => none
 | k + 1, x0, x141000, x141001, x142000, x142001, x147000, x147001, x150000, x150001 => if x0 = 3 then ((spec_l8Min.f x141001 (wrap64 (x142001 - 1))).bind fun t162 => ((spec_l8Cut.f x141000 t162).bind fun bt163 => ((spec_l8Max.f x142000 (wrap64 (x141000 + 1))).bind fun t165 => ((spec_l8Cut.f t165 x142001).bind fun bt166 => (spec_RangeCmp.j3 k x0 x141000 x141001 x142000 x142001 bt163.1 bt163.2 bt166.1 bt166.2))))) else (spec_RangeCmp.j3 k x0 x141000 x141001 x142000 x142001 x147000 x147001 x150000 x150001)
def spec_RangeCmp.j3 : Nat → Int → Int → Int → Int → Int → Int → Int → Int → Int → Option (Int × Int × Int × Int)
 | 0, _, _, _, _, _, _, _, _, _ => none
 | k + 1, x0, x141000, x141001, x142000, x142001, x147000, x147001, x150000, x150001 => if x0 = 4 then ((spec_l8Min.f x141001 x142001).bind fun t168 => ((spec_l8Cut.f x141000 t168).bind fun bt169 => ((spec_l8Max.f x142000 x141000).bind fun t171 => ((spec_l8Cut.f t171 x142001).bind fun bt172 => (spec_RangeCmp.j4 k x0 x141000 x141001 x142000 x142001 bt169.1 bt169.2 bt172.1 bt172.2))))) else (spec_RangeCmp.j4 k x0 x141000 x141001 x142000 x142001 x147000 x147001 x150000 x150001)
def spec_RangeCmp.j4 : Nat → Int → Int → Int → Int → Int → Int → Int → Int → Int → Option (Int × Int × Int × Int)
 | 0, _, _, _, _, _, _, _, _, _ => none
 | k + 1, x0, x141000, x141001, x142000, x142001, x147000, x147001, x150000, x150001 => if x0 = 5 then (spec_RangeCmp.j5 k x0 true x141000 x141001 x142000 x142001 x147000 x147001 x150000 x150001) else (spec_RangeCmp.j5 k x0 (x0 == 6) x141000 x141001 x142000 x142001 x147000 x147001 x150000 x150001)
def spec_RangeCmp.j5 : Nat → Int → Bool → Int → Int → Int → Int → Int → Int → Int → Int → Option (Int × Int × Int × Int)
 | 0, _, _, _, _, _, _, _, _, _, _ => none
 | k + 1, x0, x89, x141000, x141001, x142000, x142001, x147000, x147001, x150000, x150001 => if x89 = true then ((spec_CmpTurn.f x0).bind fun t174 => ((spec_RangeCmp.f k t174 x142000 x142001 x141000 x141001).bind fun bt175 => (spec_RangeCmp.j6 k bt175.2.2.1 bt175.2.2.2 bt175.1 bt175.2.1))) else (spec_RangeCmp.j6 k x147000 x147001 x150000 x150001)
def spec_RangeCmp.j6 : Nat → Int → Int → Int → Int → Option (Int × Int × Int × Int)
 | 0, _, _, _, _ => none
 | k + 1, x147000, x147001, x150000, x150001 => (spec_l8None.f).bind fun bt179 => (if (x147000 == bt179.1 && (x147001 == bt179.2)) = true then (spec_RangeCmp.j7 k true x147000 x147001 x150000 x150001) else ((spec_l8None.f).bind fun bt181 => (spec_RangeCmp.j7 k (x150000 == bt181.1 && (x150001 == bt181.2)) x147000 x147001 x150000 x150001)))
def spec_RangeCmp.j7 : Nat → Bool → Int → Int → Int → Int → Option (Int × Int × Int × Int)
 | 0, _, _, _, _, _ => none
 | k + 1, x105, x147000, x147001, x150000, x150001 => if x105 = true then ((spec_l8None.f).bind fun bt183 => ((spec_l8None.f).bind fun bt185 => (some (bt183.1, bt183.2, bt185.1, bt185.2)))) else (some (x147000, x147001, x150000, x150001))
def spec_RangeCmp.f : Nat → Int → Int → Int → Int → Int → Option (Int × Int × Int × Int)
 | 0, _, _, _, _, _ => none
 | k + 1, a0, a1_0, a1_1, a2_0, a2_1 => (spec_l8None.f).bind fun bt144 => ((spec_l8None.f).bind fun bt147 => ((spec_RangeOk.f a1_0 a1_1).bind fun t150 => (if t150 = true then ((spec_RangeOk.f a2_0 a2_1).bind fun t151 => (if t151 = true then ((spec_l8None.f).bind fun bt152 => (if (a1_0 == bt152.1 && (a1_1 == bt152.2)) = true then (spec_RangeCmp.j0 k a0 true a1_0 a1_1 a2_0 a2_1 bt144.1 bt144.2 bt147.1 bt147.2) else ((spec_l8None.f).bind fun bt154 => (spec_RangeCmp.j0 k a0 (a2_0 == bt154.1 && (a2_1 == bt154.2)) a1_0 a1_1 a2_0 a2_1 bt144.1 bt144.2 bt147.1 bt147.2)))) else (spec_RangeCmp.j0 k a0 true a1_0 a1_1 a2_0 a2_1 bt144.1 bt144.2 bt147.1 bt147.2))) else (spec_RangeCmp.j0 k a0 true a1_0 a1_1 a2_0 a2_1 bt144.1 bt144.2 bt147.1 bt147.2))))
end
theorem spec_RangeCmp.mono_l : ∀ k, (∀ y0 y1 y2 y3 y4, LeO (spec_RangeCmp.f k y0 y1 y2 y3 y4) (spec_RangeCmp.f (k + 1) y0 y1 y2 y3 y4)) ∧ (∀ y0 y1 y2 y3 y4 y5 y6 y7 y8 y9, LeO (spec_RangeCmp.j0 k y0 y1 y2 y3 y4 y5 y6 y7 y8 y9) (spec_RangeCmp.j0 (k + 1) y0 y1 y2 y3 y4 y5 y6 y7 y8 y9)) ∧ (∀ y0 y1 y2 y3 y4 y5 y6 y7 y8, LeO (spec_RangeCmp.j1 k y0 y1 y2 y3 y4 y5 y6 y7 y8) (spec_RangeCmp.j1 (k + 1) y0 y1 y2 y3 y4 y5 y6 y7 y8)) ∧ (∀ y0 y1 y2 y3 y4 y5 y6 y7 y8, LeO (spec_RangeCmp.j2 k y0 y1 y2 y3 y4 y5 y6 y7 y8) (spec_RangeCmp.j2 (k + 1) y0 y1 y2 y3 y4 y5 y6 y7 y8)) ∧ (∀ y0 y1 y2 y3 y4 y5 y6 y7 y8, LeO (spec_RangeCmp.j3 k y0 y1 y2 y3 y4 y5 y6 y7 y8) (spec_RangeCmp.j3 (k + 1) y0 y1 y2 y3 y4 y5 y6 y7 y8)) ∧ (∀ y0 y1 y2 y3 y4 y5 y6 y7 y8, LeO (spec_RangeCmp.j4 k y0 y1 y2 y3 y4 y5 y6 y7 y8) (spec_RangeCmp.j4 (k + 1) y0 y1 y2 y3 y4 y5 y6 y7 y8)) ∧ (∀ y0 y1 y2 y3 y4 y5 y6 y7 y8 y9, LeO (spec_RangeCmp.j5 k y0 y1 y2 y3 y4 y5 y6 y7 y8 y9) (spec_RangeCmp.j5 (k + 1) y0 y1 y2 y3 y4 y5 y6 y7 y8 y9)) ∧ (∀ y0 y1 y2 y3, LeO (spec_RangeCmp.j6 k y0 y1 y2 y3) (spec_RangeCmp.j6 (k + 1) y0 y1 y2 y3)) ∧ (∀ y0 y1 y2 y3 y4, LeO (spec_RangeCmp.j7 k y0 y1 y2 y3 y4) (spec_RangeCmp.j7 (k + 1) y0 y1 y2 y3 y4))
 | 0 => ⟨fun _ _ _ _ _ r h => by simp [spec_RangeCmp.f] at h, fun _ _ _ _ _ _ _ _ _ _ r h => by simp [spec_RangeCmp.j0] at h, fun _ _ _ _ _ _ _ _ _ r h => by simp [spec_RangeCmp.j1] at h, fun _ _ _ _ _ _ _ _ _ r h => by simp [spec_RangeCmp.j2] at h, fun _ _ _ _ _ _ _ _ _ r h => by simp [spec_RangeCmp.j3] at h, fun _ _ _ _ _ _ _ _ _ r h => by simp [spec_RangeCmp.j4] at h, fun _ _ _ _ _ _ _ _ _ _ r h => by simp [spec_RangeCmp.j5] at h, fun _ _ _ _ r h => by simp [spec_RangeCmp.j6] at h, fun _ _ _ _ _ r h => by simp [spec_RangeCmp.j7] at h⟩
 | k + 1 => by
  obtain ⟨ih0, ih1, ih2, ih3, ih4, ih5, ih6, ih7, ih8⟩ := spec_RangeCmp.mono_l k
  refine ⟨?_, ?_, ?_, ?_, ?_, ?_, ?_, ?_, ?_⟩
  ·intro y0 y1 y2 y3 y4
   unfold spec_RangeCmp.f
   repeat' first
   | (with_reducible exact ih0 _ _ _ _ _)
   | (with_reducible exact ih1 _ _ _ _ _ _ _ _ _ _)
   | (with_reducible exact ih2 _ _ _ _ _ _ _ _ _)
   | (with_reducible exact ih3 _ _ _ _ _ _ _ _ _)
   | (with_reducible exact ih4 _ _ _ _ _ _ _ _ _)
   | (with_reducible exact ih5 _ _ _ _ _ _ _ _ _)
   | (with_reducible exact ih6 _ _ _ _ _ _ _ _ _ _)
   | (with_reducible exact ih7 _ _ _ _)
   | (with_reducible exact ih8 _ _ _ _ _)
   | (with_reducible exact spec_RangeMeet.mono _ _ _ _ _)
   | (with_reducible exact LeO.refl _)
   | (with_reducible exact LeO.none _)
   | (with_reducible refine LeO.ite ?_ ?_)
   | (with_reducible refine LeO.bind ?_ (fun _ => ?_))
   | exact ih0 _ _ _ _ _
   | exact ih1 _ _ _ _ _ _ _ _ _ _
   | exact ih2 _ _ _ _ _ _ _ _ _
   | exact ih3 _ _ _ _ _ _ _ _ _
   | exact ih4 _ _ _ _ _ _ _ _ _
   | exact ih5 _ _ _ _ _ _ _ _ _
   | exact ih6 _ _ _ _ _ _ _ _ _ _
   | exact ih7 _ _ _ _
   | exact ih8 _ _ _ _ _
   | exact spec_RangeMeet.mono _ _ _ _ _
   | exact LeO.none _
   | refine LeO.ite ?_ ?_
   | refine LeO.bind ?_ (fun _ => ?_)
  ·intro y0 y1 y2 y3 y4 y5 y6 y7 y8 y9
   unfold spec_RangeCmp.j0
   repeat' first
   | (with_reducible exact ih0 _ _ _ _ _)
   | (with_reducible exact ih1 _ _ _ _ _ _ _ _ _ _)
   | (with_reducible exact ih2 _ _ _ _ _ _ _ _ _)
   | (with_reducible exact ih3 _ _ _ _ _ _ _ _ _)
   | (with_reducible exact ih4 _ _ _ _ _ _ _ _ _)
   | (with_reducible exact ih5 _ _ _ _ _ _ _ _ _)
   | (with_reducible exact ih6 _ _ _ _ _ _ _ _ _ _)
   | (with_reducible exact ih7 _ _ _ _)
   | (with_reducible exact ih8 _ _ _ _ _)
   | (with_reducible exact spec_RangeMeet.mono _ _ _ _ _)
   | (with_reducible exact LeO.refl _)
   | (with_reducible exact LeO.none _)
   | (with_reducible refine LeO.ite ?_ ?_)
   | (with_reducible refine LeO.bind ?_ (fun _ => ?_))
   | exact ih0 _ _ _ _ _
   | exact ih1 _ _ _ _ _ _ _ _ _ _
   | exact ih2 _ _ _ _ _ _ _ _ _
   | exact ih3 _ _ _ _ _ _ _ _ _
   | exact ih4 _ _ _ _ _ _ _ _ _
   | exact ih5 _ _ _ _ _ _ _ _ _
   | exact ih6 _ _ _ _ _ _ _ _ _ _
   | exact ih7 _ _ _ _
   | exact ih8 _ _ _ _ _
   | exact spec_RangeMeet.mono _ _ _ _ _
   | exact LeO.none _
   | refine LeO.ite ?_ ?_
   | refine LeO.bind ?_ (fun _ => ?_)
  ·intro y0 y1 y2 y3 y4 y5 y6 y7 y8
   unfold spec_RangeCmp.j1
   repeat' first
   | (with_reducible exact ih0 _ _ _ _ _)
   | (with_reducible exact ih1 _ _ _ _ _ _ _ _ _ _)
   | (with_reducible exact ih2 _ _ _ _ _ _ _ _ _)
   | (with_reducible exact ih3 _ _ _ _ _ _ _ _ _)
   | (with_reducible exact ih4 _ _ _ _ _ _ _ _ _)
   | (with_reducible exact ih5 _ _ _ _ _ _ _ _ _)
   | (with_reducible exact ih6 _ _ _ _ _ _ _ _ _ _)
   | (with_reducible exact ih7 _ _ _ _)
   | (with_reducible exact ih8 _ _ _ _ _)
   | (with_reducible exact spec_RangeMeet.mono _ _ _ _ _)
   | (with_reducible exact LeO.refl _)
   | (with_reducible exact LeO.none _)
   | (with_reducible refine LeO.ite ?_ ?_)
   | (with_reducible refine LeO.bind ?_ (fun _ => ?_))
   | exact ih0 _ _ _ _ _
   | exact ih1 _ _ _ _ _ _ _ _ _ _
   | exact ih2 _ _ _ _ _ _ _ _ _
   | exact ih3 _ _ _ _ _ _ _ _ _
   | exact ih4 _ _ _ _ _ _ _ _ _
   | exact ih5 _ _ _ _ _ _ _ _ _
   | exact ih6 _ _ _ _ _ _ _ _ _ _
   | exact ih7 _ _ _ _
   | exact ih8 _ _ _ _ _
   | exact spec_RangeMeet.mono _ _ _ _ _
   | exact LeO.none _
   | refine LeO.ite ?_ ?_
   | refine LeO.bind ?_ (fun _ => ?_)
  ·intro y0 y1 y2 y3 y4 y5 y6 y7 y8
   unfold spec_RangeCmp.j2
   repeat' first
   | (with_reducible exact ih0 _ _ _ _ _)
   | (with_reducible exact ih1 _ _ _ _ _ _ _ _ _ _)
   | (with_reducible exact ih2 _ _ _ _ _ _ _ _ _)
   | (with_reducible exact ih3 _ _ _ _ _ _ _ _ _)
   | (with_reducible exact ih4 _ _ _ _ _ _ _ _ _)
   | (with_reducible exact ih5 _ _ _ _ _ _ _ _ _)
   | (with_reducible exact ih6 _ _ _ _ _ _ _ _ _ _)
   | (with_reducible exact ih7 _ _ _ _)
   | (with_reducible exact ih8 _ _ _ _ _)
   | (with_reducible exact spec_RangeMeet.mono _ _ _ _ _)
   | (with_reducible exact LeO.refl _)
   | (with_reducible exact LeO.none _)
   | (with_reducible refine LeO.ite ?_ ?_)
   | (with_reducible refine LeO.bind ?_ (fun _ => ?_))
   | exact ih0 _ _ _ _ _
   | exact ih1 _ _ _ _ _ _ _ _ _ _
   | exact ih2 _ _ _ _ _ _ _ _ _
   | exact ih3 _ _ _ _ _ _ _ _ _
   | exact ih4 _ _ _ _ _ _ _ _ _
   | exact ih5 _ _ _ _ _ _ _ _ _
   | exact ih6 _ _ _ _ _ _ _ _ _ _
   | exact ih7 _ _ _ _
   | exact ih8 _ _ _ _ _
   | exact spec_RangeMeet.mono _ _ _ _ _
   | exact LeO.none _
   | refine LeO.ite ?_ ?_
   | refine LeO.bind ?_ (fun _ => ?_)
  ·intro y0 y1 y2 y3 y4 y5 y6 y7 y8
   unfold spec_RangeCmp.j3
   repeat' first
   | (with_reducible exact ih0 _ _ _ _ _)
   | (with_reducible exact ih1 _ _ _ _ _ _ _ _ _ _)
   | (with_reducible exact ih2 _ _ _ _ _ _ _ _ _)
   | (with_reducible exact ih3 _ _ _ _ _ _ _ _ _)
   | (with_reducible exact ih4 _ _ _ _ _ _ _ _ _)
   | (with_reducible exact ih5 _ _ _ _ _ _ _ _ _)
   | (with_reducible exact ih6 _ _ _ _ _ _ _ _ _ _)
   | (with_reducible exact ih7 _ _ _ _)
   | (with_reducible exact ih8 _ _ _ _ _)
   | (with_reducible exact spec_RangeMeet.mono _ _ _ _ _)
   | (with_reducible exact LeO.refl _)
   | (with_reducible exact LeO.none _)
   | (with_reducible refine LeO.ite ?_ ?_)
   | (with_reducible refine LeO.bind ?_ (fun _ => ?_))
   | exact ih0 _ _ _ _ _
   | exact ih1 _ _ _ _ _ _ _ _ _ _
   | exact ih2 _ _ _ _ _ _ _ _ _
   | exact ih3 _ _ _ _ _ _ _ _ _
   | exact ih4 _ _ _ _ _ _ _ _ _
   | exact ih5 _ _ _ _ _ _ _ _ _
   | exact ih6 _ _ _ _ _ _ _ _ _ _
   | exact ih7 _ _ _ _
   | exact ih8 _ _ _ _ _
   | exact spec_RangeMeet.mono _ _ _ _ _
   | exact LeO.none _
   | refine LeO.ite ?_ ?_
   | refine LeO.bind ?_ (fun _ => ?_)
  ·intro y0 y1 y2 y3 y4 y5 y6 y7 y8
   unfold spec_RangeCmp.j4
   repeat' first
   | (with_reducible exact ih0 _ _ _ _ _)
   | (with_reducible exact ih1 _ _ _ _ _ _ _ _ _ _)
   | (with_reducible exact ih2 _ _ _ _ _ _ _ _ _)
   | (with_reducible exact ih3 _ _ _ _ _ _ _ _ _)
   | (with_reducible exact ih4 _ _ _ _ _ _ _ _ _)
   | (with_reducible exact ih5 _ _ _ _ _ _ _ _ _)
   | (with_reducible exact ih6 _ _ _ _ _ _ _ _ _ _)
   | (with_reducible exact ih7 _ _ _ _)
   | (with_reducible exact ih8 _ _ _ _ _)
   | (with_reducible exact spec_RangeMeet.mono _ _ _ _ _)
   | (with_reducible exact LeO.refl _)
   | (with_reducible exact LeO.none _)
   | (with_reducible refine LeO.ite ?_ ?_)
   | (with_reducible refine LeO.bind ?_ (fun _ => ?_))
   | exact ih0 _ _ _ _ _
   | exact ih1 _ _ _ _ _ _ _ _ _ _
   | exact ih2 _ _ _ _ _ _ _ _ _
   | exact ih3 _ _ _ _ _ _ _ _ _
   | exact ih4 _ _ _ _ _ _ _ _ _
   | exact ih5 _ _ _ _ _ _ _ _ _
   | exact ih6 _ _ _ _ _ _ _ _ _ _
   | exact ih7 _ _ _ _
   | exact ih8 _ _ _ _ _
   | exact spec_RangeMeet.mono _ _ _ _ _
   | exact LeO.none _
   | refine LeO.ite ?_ ?_
   | refine LeO.bind ?_ (fun _ => ?_)
  ·intro y0 y1 y2 y3 y4 y5 y6 y7 y8 y9
   unfold spec_RangeCmp.j5
   repeat' first
   | (with_reducible exact ih0 _ _ _ _ _)
   | (with_reducible exact ih1 _ _ _ _ _ _ _ _ _ _)
   | (with_reducible exact ih2 _ _ _ _ _ _ _ _ _)
   | (with_reducible exact ih3 _ _ _ _ _ _ _ _ _)
   | (with_reducible exact ih4 _ _ _ _ _ _ _ _ _)
   | (with_reducible exact ih5 _ _ _ _ _ _ _ _ _)
   | (with_reducible exact ih6 _ _ _ _ _ _ _ _ _ _)
   | (with_reducible exact ih7 _ _ _ _)
   | (with_reducible exact ih8 _ _ _ _ _)
   | (with_reducible exact spec_RangeMeet.mono _ _ _ _ _)
   | (with_reducible exact LeO.refl _)
   | (with_reducible exact LeO.none _)
   | (with_reducible refine LeO.ite ?_ ?_)
   | (with_reducible refine LeO.bind ?_ (fun _ => ?_))
   | exact ih0 _ _ _ _ _
   | exact ih1 _ _ _ _ _ _ _ _ _ _
   | exact ih2 _ _ _ _ _ _ _ _ _
   | exact ih3 _ _ _ _ _ _ _ _ _
   | exact ih4 _ _ _ _ _ _ _ _ _
   | exact ih5 _ _ _ _ _ _ _ _ _
   | exact ih6 _ _ _ _ _ _ _ _ _ _
   | exact ih7 _ _ _ _
   | exact ih8 _ _ _ _ _
   | exact spec_RangeMeet.mono _ _ _ _ _
   | exact LeO.none _
   | refine LeO.ite ?_ ?_
   | refine LeO.bind ?_ (fun _ => ?_)
  ·intro y0 y1 y2 y3
   unfold spec_RangeCmp.j6
   repeat' first
   | (with_reducible exact ih0 _ _ _ _ _)
   | (with_reducible exact ih1 _ _ _ _ _ _ _ _ _ _)
   | (with_reducible exact ih2 _ _ _ _ _ _ _ _ _)
   | (with_reducible exact ih3 _ _ _ _ _ _ _ _ _)
   | (with_reducible exact ih4 _ _ _ _ _ _ _ _ _)
   | (with_reducible exact ih5 _ _ _ _ _ _ _ _ _)
   | (with_reducible exact ih6 _ _ _ _ _ _ _ _ _ _)
   | (with_reducible exact ih7 _ _ _ _)
   | (with_reducible exact ih8 _ _ _ _ _)
   | (with_reducible exact spec_RangeMeet.mono _ _ _ _ _)
   | (with_reducible exact LeO.refl _)
   | (with_reducible exact LeO.none _)
   | (with_reducible refine LeO.ite ?_ ?_)
   | (with_reducible refine LeO.bind ?_ (fun _ => ?_))
   | exact ih0 _ _ _ _ _
   | exact ih1 _ _ _ _ _ _ _ _ _ _
   | exact ih2 _ _ _ _ _ _ _ _ _
   | exact ih3 _ _ _ _ _ _ _ _ _
   | exact ih4 _ _ _ _ _ _ _ _ _
   | exact ih5 _ _ _ _ _ _ _ _ _
   | exact ih6 _ _ _ _ _ _ _ _ _ _
   | exact ih7 _ _ _ _
   | exact ih8 _ _ _ _ _
   | exact spec_RangeMeet.mono _ _ _ _ _
   | exact LeO.none _
   | refine LeO.ite ?_ ?_
   | refine LeO.bind ?_ (fun _ => ?_)
  ·intro y0 y1 y2 y3 y4
   unfold spec_RangeCmp.j7
   repeat' first
   | (with_reducible exact ih0 _ _ _ _ _)
   | (with_reducible exact ih1 _ _ _ _ _ _ _ _ _ _)
   | (with_reducible exact ih2 _ _ _ _ _ _ _ _ _)
   | (with_reducible exact ih3 _ _ _ _ _ _ _ _ _)
   | (with_reducible exact ih4 _ _ _ _ _ _ _ _ _)
   | (with_reducible exact ih5 _ _ _ _ _ _ _ _ _)
   | (with_reducible exact ih6 _ _ _ _ _ _ _ _ _ _)
   | (with_reducible exact ih7 _ _ _ _)
   | (with_reducible exact ih8 _ _ _ _ _)
   | (with_reducible exact spec_RangeMeet.mono _ _ _ _ _)
   | (with_reducible exact LeO.refl _)
   | (with_reducible exact LeO.none _)
   | (with_reducible refine LeO.ite ?_ ?_)
   | (with_reducible refine LeO.bind ?_ (fun _ => ?_))
   | exact ih0 _ _ _ _ _
   | exact ih1 _ _ _ _ _ _ _ _ _ _
   | exact ih2 _ _ _ _ _ _ _ _ _
   | exact ih3 _ _ _ _ _ _ _ _ _
   | exact ih4 _ _ _ _ _ _ _ _ _
   | exact ih5 _ _ _ _ _ _ _ _ _
   | exact ih6 _ _ _ _ _ _ _ _ _ _
   | exact ih7 _ _ _ _
   | exact ih8 _ _ _ _ _
   | exact spec_RangeMeet.mono _ _ _ _ _
   | exact LeO.none _
   | refine LeO.ite ?_ ?_
   | refine LeO.bind ?_ (fun _ => ?_)
theorem spec_RangeCmp.mono : ∀ a0 a1 a2 a3 a4 k, LeO (spec_RangeCmp.f k a0 a1 a2 a3 a4) (spec_RangeCmp.f (k + 1) a0 a1 a2 a3 a4) := by
 intro a0 a1 a2 a3 a4 k
 obtain ⟨ih0, ih1, ih2, ih3, ih4, ih5, ih6, ih7, ih8⟩ := spec_RangeCmp.mono_l k
 exact ih0 a0 a1 a2 a3 a4
def spec_RangeCmp.T3 : Bool × List (List Nat × List Nat) := (true, [([], []), ([0], [0]), ([1], [1]), ([2, 1], [2]), ([3], [3]), ([4, 3, 3], [3, 4]), ([5, 3], [3, 5]), ([3, 6], [3, 6]), ([7, 5], [7]), ([8], [8]), ([8, 8], [8]), ([9, 10, 8], [8, 9, 10]), ([8, 11], [8, 11]), ([12, 10], [12]), ([13], [13]), ([13, 13], [13]), ([14, 15, 13], [13, 14, 15]), ([13, 16], [13, 16])])
def spec_RangeCmp.B3 : List Nat := [0, 1, 3, 7, 15, 31, 63, 127, 255, 511, 511, 2047, 4095, 8191, 16383, 16383, 65535, 131071]
theorem spec_RangeCmp.tab3 : rtab .any (opsOf Try.f25 3) = spec_RangeCmp.T3 := by kernel_rfl
theorem spec_RangeCmp.bits3 : waitsOk spec_RangeCmp.T3.2 spec_RangeCmp.B3 = true := by kernel_rfl
def spec_RangeCmp.T12 : Bool × List (List Nat × List Nat) := (true, [([], []), ([0], [0]), ([], []), ([2], [2]), ([], []), ([4], [4]), ([5], [5]), ([3, 6], [3, 6]), ([1, 7, 7], [1, 7]), ([8, 8, 0, 1, 2, 3, 4, 5, 6, 7, 8], [8])])
def spec_RangeCmp.B12 : List Nat := [0, 1, 0, 4, 0, 16, 48, 124, 255, 511]
theorem spec_RangeCmp.tab12 : rtab .any (opsOf Try.f25 12) = spec_RangeCmp.T12 := by kernel_rfl
theorem spec_RangeCmp.bits12 : waitsOk spec_RangeCmp.T12.2 spec_RangeCmp.B12 = true := by kernel_rfl
def spec_RangeCmp.T13 : Bool × List (List Nat × List Nat) := (true, [([], []), ([0], [0]), ([], []), ([2], [2]), ([3], [3]), ([1, 4], [1, 4]), ([], []), ([6], [6]), ([5, 7, 5], [5, 7]), ([8, 8, 0, 1, 2, 3, 4, 5, 6, 7, 8], [8])])
def spec_RangeCmp.B13 : List Nat := [0, 1, 0, 4, 12, 31, 0, 64, 255, 511]
theorem spec_RangeCmp.tab13 : rtab .any (opsOf Try.f25 13) = spec_RangeCmp.T13 := by kernel_rfl
theorem spec_RangeCmp.bits13 : waitsOk spec_RangeCmp.T13.2 spec_RangeCmp.B13 = true := by kernel_rfl
def spec_RangeCmp.T15 : Bool × List (List Nat × List Nat) := (true, [([], []), ([0], [0]), ([], []), ([2], [2]), ([], []), ([4], [4]), ([3, 5], [3, 5]), ([1, 6, 6], [1, 6]), ([7, 7, 0, 1, 2, 3, 4, 5, 6, 7], [7])])
def spec_RangeCmp.B15 : List Nat := [0, 1, 0, 4, 0, 16, 60, 127, 255]
theorem spec_RangeCmp.tab15 : rtab .any (opsOf Try.f25 15) = spec_RangeCmp.T15 := by kernel_rfl
theorem spec_RangeCmp.bits15 : waitsOk spec_RangeCmp.T15.2 spec_RangeCmp.B15 = true := by kernel_rfl
def spec_RangeCmp.T16 : Bool × List (List Nat × List Nat) := (true, [([], []), ([0], [0]), ([], []), ([2], [2]), ([1, 3], [1, 3]), ([], []), ([5], [5]), ([4, 6, 4], [4, 6]), ([7, 7, 0, 1, 2, 3, 4, 5, 6, 7], [7])])
def spec_RangeCmp.B16 : List Nat := [0, 1, 0, 4, 15, 0, 32, 127, 255]
theorem spec_RangeCmp.tab16 : rtab .any (opsOf Try.f25 16) = spec_RangeCmp.T16 := by kernel_rfl
theorem spec_RangeCmp.bits16 : waitsOk spec_RangeCmp.T16.2 spec_RangeCmp.B16 = true := by kernel_rfl
def spec_RangeCmp.T18 : Bool × List (List Nat × List Nat) := (true, [([], []), ([0], [0]), ([], []), ([], []), ([1, 2, 3, 1], [1, 2, 3]), ([4], [4]), ([5], [5]), ([5], [5]), ([6, 4, 0, 1, 2, 3, 4, 5, 6], [6]), ([7, 8, 0, 1, 2, 3, 4, 5, 6, 7, 8], [7])])
def spec_RangeCmp.B18 : List Nat := [0, 1, 0, 0, 15, 31, 63, 63, 127, 511]
theorem spec_RangeCmp.tab18 : rtab .any (opsOf Try.f25 18) = spec_RangeCmp.T18 := by kernel_rfl
theorem spec_RangeCmp.bits18 : waitsOk spec_RangeCmp.T18.2 spec_RangeCmp.B18 = true := by kernel_rfl
def spec_RangeCmp.T19 : Bool × List (List Nat × List Nat) := (true, [([], []), ([], []), ([0, 1], [0, 1]), ([2, 1], [2]), ([3], [3]), ([3, 3], [3]), ([4, 5, 3], [3, 4, 5]), ([3, 6], [3, 6])])
def spec_RangeCmp.B19 : List Nat := [0, 0, 3, 7, 15, 15, 63, 127]
theorem spec_RangeCmp.tab19 : rtab .any (opsOf Try.f25 19) = spec_RangeCmp.T19 := by kernel_rfl
theorem spec_RangeCmp.bits19 : waitsOk spec_RangeCmp.T19.2 spec_RangeCmp.B19 = true := by kernel_rfl
set_option maxHeartbeats 8000000 in
set_option maxRecDepth 100000 in
theorem spec_RangeCmp.calls (k : Nat) : ∀ (a0 : Int) (a1_0 : Int) (a1_1 : Int) (a2_0 : Int) (a2_1 : Int) (r1 : Int) (r2 : Int) (r3 : Int) (r4 : Int) (w : World) (h : spec_RangeCmp.f k a0 a1_0 a1_1 a2_0 a2_1 = some (r1, r2, r3, r4)),
  Calls Try.prog 25 #[.int .i64 a0, .agg #[.int .i64 a1_0, .int .i64 a1_1], .agg #[.int .i64 a2_0, .int .i64 a2_1]] w fun e w' => e = .returned (.tuple #[.agg #[.int .i64 r1, .int .i64 r2], .agg #[.int .i64 r3, .int .i64 r4]]) ∧ Below w.heap.size w w' := by
 induction k using Nat.strongRecOn with
 | _ k ih =>
 intro a0 a1_0 a1_1 a2_0 a2_1 r1 r2 r3 r4 w h
 cases k with
 | zero => exact absurd h (by simp [spec_RangeCmp.f])
 | succ k =>
 simp only [spec_RangeCmp.f] at h
 have hu24 := Try.underlying24
 have HB := am (Below.refl w.heap.size w)
 have H : ((spec_l8None.f).bind fun bt144 => ((spec_l8None.f).bind fun bt147 => ((spec_RangeOk.f a1_0 a1_1).bind fun t150 => (if t150 = true then ((spec_RangeOk.f a2_0 a2_1).bind fun t151 => (if t151 = true then ((spec_l8None.f).bind fun bt152 => (if (a1_0 == bt152.1 && (a1_1 == bt152.2)) = true then (spec_RangeCmp.j0 k a0 true a1_0 a1_1 a2_0 a2_1 bt144.1 bt144.2 bt147.1 bt147.2) else ((spec_l8None.f).bind fun bt154 => (spec_RangeCmp.j0 k a0 (a2_0 == bt154.1 && (a2_1 == bt154.2)) a1_0 a1_1 a2_0 a2_1 bt144.1 bt144.2 bt147.1 bt147.2)))) else (spec_RangeCmp.j0 k a0 true a1_0 a1_1 a2_0 a2_1 bt144.1 bt144.2 bt147.1 bt147.2))) else (spec_RangeCmp.j0 k a0 true a1_0 a1_1 a2_0 a2_1 bt144.1 bt144.2 bt147.1 bt147.2))))) = some (r1, r2, r3, r4) := h
 clear h
 replace H := Option.bind_eq_some_iff.mp H
 obtain ⟨⟨t144, t145⟩, A40, H⟩ := H
 replace H : ((spec_l8None.f).bind fun bt147 => ((spec_RangeOk.f a1_0 a1_1).bind fun t150 => (if t150 = true then ((spec_RangeOk.f a2_0 a2_1).bind fun t151 => (if t151 = true then ((spec_l8None.f).bind fun bt152 => (if (a1_0 == bt152.1 && (a1_1 == bt152.2)) = true then (spec_RangeCmp.j0 k a0 true a1_0 a1_1 a2_0 a2_1 t144 t145 bt147.1 bt147.2) else ((spec_l8None.f).bind fun bt154 => (spec_RangeCmp.j0 k a0 (a2_0 == bt154.1 && (a2_1 == bt154.2)) a1_0 a1_1 a2_0 a2_1 t144 t145 bt147.1 bt147.2)))) else (spec_RangeCmp.j0 k a0 true a1_0 a1_1 a2_0 a2_1 t144 t145 bt147.1 bt147.2))) else (spec_RangeCmp.j0 k a0 true a1_0 a1_1 a2_0 a2_1 t144 t145 bt147.1 bt147.2)))) = some (r1, r2, r3, r4) := H
 have A4 := am A40
 clear A40
 replace H := Option.bind_eq_some_iff.mp H
 obtain ⟨⟨t147, t148⟩, A50, H⟩ := H
 replace H : ((spec_RangeOk.f a1_0 a1_1).bind fun t150 => (if t150 = true then ((spec_RangeOk.f a2_0 a2_1).bind fun t151 => (if t151 = true then ((spec_l8None.f).bind fun bt152 => (if (a1_0 == bt152.1 && (a1_1 == bt152.2)) = true then (spec_RangeCmp.j0 k a0 true a1_0 a1_1 a2_0 a2_1 t144 t145 t147 t148) else ((spec_l8None.f).bind fun bt154 => (spec_RangeCmp.j0 k a0 (a2_0 == bt154.1 && (a2_1 == bt154.2)) a1_0 a1_1 a2_0 a2_1 t144 t145 t147 t148)))) else (spec_RangeCmp.j0 k a0 true a1_0 a1_1 a2_0 a2_1 t144 t145 t147 t148))) else (spec_RangeCmp.j0 k a0 true a1_0 a1_1 a2_0 a2_1 t144 t145 t147 t148))) = some (r1, r2, r3, r4) := H
 have A5 := am A50
 clear A50
 have HC6 := am H
 clear H
 go_enter Try.func25, Try.ntmps25
 go_upto_region 3 with (first | ((with_reducible refine gate_dst (N := 4) rfl ?_); refine box_event ?hg (N := 4) ?hd (cs := #[.int .i64 a1_0, .int .i64 a1_1]) (t := 24) ?hr ?_; (case hd => rfl); (case hg => rfl); (case hr => first | (go_simp; done) | (go_simp; rfl)); intro gb140 hg w7 hbox hb; have n0_ := am (below_step (Y0 HB) hb); have n1_ := am (hbox); have n2_ := am ((by rw [hg]; exact (below_size (Y0 HB)) : w.heap.size ≤ gb140)); have n3_ := am ((by rw [hg]; exact (below_size (Y0 HB)) : w.heap.size ≤ gb140)); clear HB; have HB := n0_; have BK140 := n1_; have GW140 := n2_; have GE140 := n3_; clear n0_ n1_ n2_ n3_; clear hb hbox hg) | ((with_reducible refine gate_dst (N := 5) rfl ?_); refine box_event ?hg (N := 5) ?hd (cs := #[.int .i64 a2_0, .int .i64 a2_1]) (t := 24) ?hr ?_; (case hd => rfl); (case hg => rfl); (case hr => first | (go_simp; done) | (go_simp; rfl)); intro gb141 hg w8 hbox hb; have n0_ := am (blk_below (g := gb140) (o := b2 a1_0 a1_1 24) (Z BK140) hb); have n1_ := am (below_step (Y1 HB GE140) hb); have n2_ := am (hbox); have n3_ := am ((by rw [hg]; exact (below_size (Y1 HB GE140)) : w.heap.size ≤ gb141)); have n4_ := am ((by rw [hg]; exact (below_size (Y1 HB GE140)) : w.heap.size ≤ gb141)); have n5_ := am ((nl (o := b2 a1_0 a1_1 24) hg (Z BK140) : gb140 ≠ gb141)); have n6_ := am ((ng (o := b2 a1_0 a1_1 24) hg (Z BK140) : gb141 ≠ gb140)); clear BK140; clear HB; have BK140 := n0_; have HB := n1_; have BK141 := n2_; have GW141 := n3_; have GE141 := n4_; have NB140_141 := n5_; have NB141_140 := n6_; clear n0_ n1_ n2_ n3_ n4_ n5_ n6_; clear hb hbox hg) | ((with_reducible refine gate_dst (N := 6) rfl ?_); refine box_event ?hg (N := 6) ?hd (cs := #[.int .i64 0, .int .i64 0]) (t := 24) ?hr ?_; (case hd => rfl); (case hg => rfl); (case hr => first | (go_simp; done) | (go_simp; rfl)); intro gb142 hg w9 hbox hb; have n0_ := am (blk_below (g := gb140) (o := b2 a1_0 a1_1 24) (Z BK140) hb); have n1_ := am (blk_below (g := gb141) (o := b2 a2_0 a2_1 24) (Z BK141) hb); have n2_ := am (below_step (Y2 HB GE140 GE141) hb); have n3_ := am (hbox); have n4_ := am ((by rw [hg]; exact (below_size (Y2 HB GE140 GE141)) : w.heap.size ≤ gb142)); have n5_ := am ((by rw [hg]; exact (below_size (Y2 HB GE140 GE141)) : w.heap.size ≤ gb142)); have n6_ := am ((nl (o := b2 a1_0 a1_1 24) hg (Z BK140) : gb140 ≠ gb142)); have n7_ := am ((ng (o := b2 a1_0 a1_1 24) hg (Z BK140) : gb142 ≠ gb140)); have n8_ := am ((nl (o := b2 a2_0 a2_1 24) hg (Z BK141) : gb141 ≠ gb142)); have n9_ := am ((ng (o := b2 a2_0 a2_1 24) hg (Z BK141) : gb142 ≠ gb141)); clear BK140; clear BK141; clear HB; have BK140 := n0_; have BK141 := n1_; have HB := n2_; have BK142 := n3_; have GW142 := n4_; have GE142 := n5_; have NB140_142 := n6_; have NB142_140 := n7_; have NB141_142 := n8_; have NB142_141 := n9_; clear n0_ n1_ n2_ n3_ n4_ n5_ n6_ n7_ n8_ n9_; clear hb hbox hg) | ((with_reducible refine gate_dst (N := 7) rfl ?_); refine box_event ?hg (N := 7) ?hd (cs := #[.int .i64 0, .int .i64 0]) (t := 24) ?hr ?_; (case hd => rfl); (case hg => rfl); (case hr => first | (go_simp; done) | (go_simp; rfl)); intro gb143 hg w10 hbox hb; have n0_ := am (blk_below (g := gb140) (o := b2 a1_0 a1_1 24) (Z BK140) hb); have n1_ := am (blk_below (g := gb141) (o := b2 a2_0 a2_1 24) (Z BK141) hb); have n2_ := am (blk_below (g := gb142) (o := b2 0 0 24) (Z BK142) hb); have n3_ := am (below_step (Y3 HB GE140 GE141 GE142) hb); have n4_ := am (hbox); have n5_ := am ((by rw [hg]; exact (below_size (Y3 HB GE140 GE141 GE142)) : w.heap.size ≤ gb143)); have n6_ := am ((by rw [hg]; exact (below_size (Y3 HB GE140 GE141 GE142)) : w.heap.size ≤ gb143)); have n7_ := am ((nl (o := b2 a1_0 a1_1 24) hg (Z BK140) : gb140 ≠ gb143)); have n8_ := am ((ng (o := b2 a1_0 a1_1 24) hg (Z BK140) : gb143 ≠ gb140)); have n9_ := am ((nl (o := b2 a2_0 a2_1 24) hg (Z BK141) : gb141 ≠ gb143)); have n10_ := am ((ng (o := b2 a2_0 a2_1 24) hg (Z BK141) : gb143 ≠ gb141)); have n11_ := am ((nl (o := b2 0 0 24) hg (Z BK142) : gb142 ≠ gb143)); have n12_ := am ((ng (o := b2 0 0 24) hg (Z BK142) : gb143 ≠ gb142)); clear BK140; clear BK141; clear BK142; clear HB; have BK140 := n0_; have BK141 := n1_; have BK142 := n2_; have HB := n3_; have BK143 := n4_; have GW143 := n5_; have GE143 := n6_; have NB140_143 := n7_; have NB143_140 := n8_; have NB141_143 := n9_; have NB143_141 := n10_; have NB142_143 := n11_; have NB143_142 := n12_; clear n0_ n1_ n2_ n3_ n4_ n5_ n6_ n7_ n8_ n9_ n10_ n11_ n12_; clear hb hbox hg) | ((with_reducible refine gate_callee (f := 48) rfl ?_); refine goesL_ (some 10) rfl rfl Try.func48 (by kernel_rfl) rfl #[] rfl mz ?_; (with_reducible refine (spec_l8None.calls  t144 t145 _ A4.out).mono ?_); rintro e w11 ⟨rfl, hb⟩; refine ⟨_, rfl, ?_⟩; have n0_ := am (blk_below (g := gb140) (o := b2 a1_0 a1_1 24) (Z BK140) hb); have n1_ := am (blk_below (g := gb141) (o := b2 a2_0 a2_1 24) (Z BK141) hb); have n2_ := am (blk_below (g := gb142) (o := b2 0 0 24) (Z BK142) hb); have n3_ := am (blk_below (g := gb143) (o := b2 0 0 24) (Z BK143) hb); have n4_ := am (below_step (Y4 HB GE140 GE141 GE142 GE143) hb); clear BK140; clear BK141; clear BK142; clear BK143; clear HB; have BK140 := n0_; have BK141 := n1_; have BK142 := n2_; have BK143 := n3_; have HB := n4_; clear n0_ n1_ n2_ n3_ n4_; (try clear hb); (try clear hb2); (try clear hk); (try clear hi)) | ((with_reducible refine gate_dst (N := 8) rfl ?_); refine box_event ?hg (N := 8) ?hd (cs := #[.int .i64 0, .int .i64 0]) (t := 24) ?hr ?_; (case hd => rfl); (case hg => rfl); (case hr => first | (go_simp; done) | (go_simp; rfl)); intro gb146 hg w12 hbox hb; have n0_ := am (blk_below (g := gb140) (o := b2 a1_0 a1_1 24) (Z BK140) hb); have n1_ := am (blk_below (g := gb141) (o := b2 a2_0 a2_1 24) (Z BK141) hb); have n2_ := am (blk_below (g := gb142) (o := b2 0 0 24) (Z BK142) hb); have n3_ := am (blk_below (g := gb143) (o := b2 0 0 24) (Z BK143) hb); have n4_ := am (below_step (Y4 HB GE140 GE141 GE142 GE143) hb); have n5_ := am (hbox); have n6_ := am ((by rw [hg]; exact (below_size (Y4 HB GE140 GE141 GE142 GE143)) : w.heap.size ≤ gb146)); have n7_ := am ((by rw [hg]; exact (below_size (Y4 HB GE140 GE141 GE142 GE143)) : w.heap.size ≤ gb146)); have n8_ := am ((nl (o := b2 a1_0 a1_1 24) hg (Z BK140) : gb140 ≠ gb146)); have n9_ := am ((ng (o := b2 a1_0 a1_1 24) hg (Z BK140) : gb146 ≠ gb140)); have n10_ := am ((nl (o := b2 a2_0 a2_1 24) hg (Z BK141) : gb141 ≠ gb146)); have n11_ := am ((ng (o := b2 a2_0 a2_1 24) hg (Z BK141) : gb146 ≠ gb141)); have n12_ := am ((nl (o := b2 0 0 24) hg (Z BK142) : gb142 ≠ gb146)); have n13_ := am ((ng (o := b2 0 0 24) hg (Z BK142) : gb146 ≠ gb142)); have n14_ := am ((nl (o := b2 0 0 24) hg (Z BK143) : gb143 ≠ gb146)); have n15_ := am ((ng (o := b2 0 0 24) hg (Z BK143) : gb146 ≠ gb143)); clear BK140; clear BK141; clear BK142; clear BK143; clear HB; have BK140 := n0_; have BK141 := n1_; have BK142 := n2_; have BK143 := n3_; have HB := n4_; have BK146 := n5_; have GW146 := n6_; have GE146 := n7_; have NB140_146 := n8_; have NB146_140 := n9_; have NB141_146 := n10_; have NB146_141 := n11_; have NB142_146 := n12_; have NB146_142 := n13_; have NB143_146 := n14_; have NB146_143 := n15_; clear n0_ n1_ n2_ n3_ n4_ n5_ n6_ n7_ n8_ n9_ n10_ n11_ n12_ n13_ n14_ n15_; clear hb hbox hg; have hnb13 := NB146_140.out; have hnc13 := NB140_146.out; have hnb14 := NB146_141.out; have hnc14 := NB141_146.out; have hnb15 := NB146_142.out; have hnc15 := NB142_146.out; have hnb16 := NB146_143.out; have hnc16 := NB143_146.out; have hcz17_0 : w12.cell? ⟨gb146, 0, none⟩ = some (.int .i64 0) := bc BK146 0; have hcz17_1 : w12.cell? ⟨gb146, 1, none⟩ = some (.int .i64 0) := bc BK146 1; have hfz17_0 := blk_frozen BK146.out 0; have hfz17_1 := blk_frozen BK146.out 1) | ((with_reducible refine gate_callee (f := 48) rfl ?_); refine goesL_ (some 11) rfl rfl Try.func48 (by kernel_rfl) rfl #[] rfl mz ?_; (with_reducible refine (spec_l8None.calls  t147 t148 _ A5.out).mono ?_); rintro e w18 ⟨rfl, hb⟩; refine ⟨_, rfl, ?_⟩; have n0_ := am (blk_below (g := gb140) (o := b2 a1_0 a1_1 24) (by (with_reducible repeat (first | refine blk_drewN ?_ _ | refine blk_drew ?_ | refine blk_alloc ?_ _)); refine blk_far ?_ NB140_146.out _; (with_reducible repeat (first | refine blk_drewN ?_ _ | refine blk_drew ?_ | refine blk_alloc ?_ _)); refine blk_far ?_ NB140_146.out _; (with_reducible repeat (first | refine blk_drewN ?_ _ | refine blk_drew ?_ | refine blk_alloc ?_ _)); exact BK140.out) hb); have n1_ := am (blk_below (g := gb141) (o := b2 a2_0 a2_1 24) (by (with_reducible repeat (first | refine blk_drewN ?_ _ | refine blk_drew ?_ | refine blk_alloc ?_ _)); refine blk_far ?_ NB141_146.out _; (with_reducible repeat (first | refine blk_drewN ?_ _ | refine blk_drew ?_ | refine blk_alloc ?_ _)); refine blk_far ?_ NB141_146.out _; (with_reducible repeat (first | refine blk_drewN ?_ _ | refine blk_drew ?_ | refine blk_alloc ?_ _)); exact BK141.out) hb); have n2_ := am (blk_below (g := gb142) (o := b2 0 0 24) (by (with_reducible repeat (first | refine blk_drewN ?_ _ | refine blk_drew ?_ | refine blk_alloc ?_ _)); refine blk_far ?_ NB142_146.out _; (with_reducible repeat (first | refine blk_drewN ?_ _ | refine blk_drew ?_ | refine blk_alloc ?_ _)); refine blk_far ?_ NB142_146.out _; (with_reducible repeat (first | refine blk_drewN ?_ _ | refine blk_drew ?_ | refine blk_alloc ?_ _)); exact BK142.out) hb); have n3_ := am (blk_below (g := gb143) (o := b2 0 0 24) (by (with_reducible repeat (first | refine blk_drewN ?_ _ | refine blk_drew ?_ | refine blk_alloc ?_ _)); refine blk_far ?_ NB143_146.out _; (with_reducible repeat (first | refine blk_drewN ?_ _ | refine blk_drew ?_ | refine blk_alloc ?_ _)); refine blk_far ?_ NB143_146.out _; (with_reducible repeat (first | refine blk_drewN ?_ _ | refine blk_drew ?_ | refine blk_alloc ?_ _)); exact BK143.out) hb); have n4_ := am (blk_below (g := gb146) (o := b2 t144 t145 24) (by (with_reducible repeat (first | refine blk_drewN ?_ _ | refine blk_drew ?_ | refine blk_alloc ?_ _)); refine blk_put (cs := #[.int .i64 t144, .int .i64 0]) ?_ 1 _ rfl; (with_reducible repeat (first | refine blk_drewN ?_ _ | refine blk_drew ?_ | refine blk_alloc ?_ _)); refine blk_put (cs := #[.int .i64 0, .int .i64 0]) ?_ 0 _ rfl; (with_reducible repeat (first | refine blk_drewN ?_ _ | refine blk_drew ?_ | refine blk_alloc ?_ _)); exact BK146.out) hb); have n5_ := am (below_step (Y5 HB GE140 GE141 GE142 GE143 GE146) hb); clear BK140; clear BK141; clear BK142; clear BK143; clear BK146; clear HB; have BK140 := n0_; have BK141 := n1_; have BK142 := n2_; have BK143 := n3_; have BK146 := n4_; have HB := n5_; clear n0_ n1_ n2_ n3_ n4_ n5_; (try clear hb); (try clear hb2); (try clear hk); (try clear hi)) | ((with_reducible refine gate_dst (N := 9) rfl ?_); refine box_event ?hg (N := 9) ?hd (cs := #[.int .i64 0, .int .i64 0]) (t := 24) ?hr ?_; (case hd => rfl); (case hg => rfl); (case hr => first | (go_simp; done) | (go_simp; rfl)); intro gb149 hg w19 hbox hb; have n0_ := am (blk_below (g := gb140) (o := b2 a1_0 a1_1 24) (Z BK140) hb); have n1_ := am (blk_below (g := gb141) (o := b2 a2_0 a2_1 24) (Z BK141) hb); have n2_ := am (blk_below (g := gb142) (o := b2 0 0 24) (Z BK142) hb); have n3_ := am (blk_below (g := gb143) (o := b2 0 0 24) (Z BK143) hb); have n4_ := am (blk_below (g := gb146) (o := b2 t144 t145 24) (Z BK146) hb); have n5_ := am (below_step (Y5 HB GE140 GE141 GE142 GE143 GE146) hb); have n6_ := am (hbox); have n7_ := am ((by rw [hg]; exact (below_size (Y5 HB GE140 GE141 GE142 GE143 GE146)) : w.heap.size ≤ gb149)); have n8_ := am ((by rw [hg]; exact (below_size (Y5 HB GE140 GE141 GE142 GE143 GE146)) : w.heap.size ≤ gb149)); have n9_ := am ((nl (o := b2 a1_0 a1_1 24) hg (Z BK140) : gb140 ≠ gb149)); have n10_ := am ((ng (o := b2 a1_0 a1_1 24) hg (Z BK140) : gb149 ≠ gb140)); have n11_ := am ((nl (o := b2 a2_0 a2_1 24) hg (Z BK141) : gb141 ≠ gb149)); have n12_ := am ((ng (o := b2 a2_0 a2_1 24) hg (Z BK141) : gb149 ≠ gb141)); have n13_ := am ((nl (o := b2 0 0 24) hg (Z BK142) : gb142 ≠ gb149)); have n14_ := am ((ng (o := b2 0 0 24) hg (Z BK142) : gb149 ≠ gb142)); have n15_ := am ((nl (o := b2 0 0 24) hg (Z BK143) : gb143 ≠ gb149)); have n16_ := am ((ng (o := b2 0 0 24) hg (Z BK143) : gb149 ≠ gb143)); have n17_ := am ((nl (o := b2 t144 t145 24) hg (Z BK146) : gb146 ≠ gb149)); have n18_ := am ((ng (o := b2 t144 t145 24) hg (Z BK146) : gb149 ≠ gb146)); clear BK140; clear BK141; clear BK142; clear BK143; clear BK146; clear HB; have BK140 := n0_; have BK141 := n1_; have BK142 := n2_; have BK143 := n3_; have BK146 := n4_; have HB := n5_; have BK149 := n6_; have GW149 := n7_; have GE149 := n8_; have NB140_149 := n9_; have NB149_140 := n10_; have NB141_149 := n11_; have NB149_141 := n12_; have NB142_149 := n13_; have NB149_142 := n14_; have NB143_149 := n15_; have NB149_143 := n16_; have NB146_149 := n17_; have NB149_146 := n18_; clear n0_ n1_ n2_ n3_ n4_ n5_ n6_ n7_ n8_ n9_ n10_ n11_ n12_ n13_ n14_ n15_ n16_ n17_ n18_; clear hb hbox hg; have hnb20 := NB149_140.out; have hnc20 := NB140_149.out; have hnb21 := NB149_141.out; have hnc21 := NB141_149.out; have hnb22 := NB149_142.out; have hnc22 := NB142_149.out; have hnb23 := NB149_143.out; have hnc23 := NB143_149.out; have hnb24 := NB149_146.out; have hnc24 := NB146_149.out; have hcz25_0 : w19.cell? ⟨gb149, 0, none⟩ = some (.int .i64 0) := bc BK149 0; have hcz25_1 : w19.cell? ⟨gb149, 1, none⟩ = some (.int .i64 0) := bc BK149 1; have hfz25_0 := blk_frozen BK149.out 0; have hfz25_1 := blk_frozen BK149.out 1))
 (try simp only [Act.put, List.setIfInBounds_toArray, List.set_cons_zero, List.set_cons_succ])
 go_cut [29] (fun v29 wc => ∃ (kq : Nat) (x29_5 : Bool), v29 = .bool x29_5 ∧ Aside0 (spec_RangeCmp.j0 kq a0 x29_5 a1_0 a1_1 a2_0 a2_1 t144 t145 t147 t148 = some (r1, r2, r3, r4)) ∧ Aside0 (kq ≤ k) ∧ Aside0 (wc.heap[gb140]? = some (.cells #[.int .i64 a1_0, .int .i64 a1_1] 24 (0, 0))) ∧ Aside0 (wc.heap[gb141]? = some (.cells #[.int .i64 a2_0, .int .i64 a2_1] 24 (0, 0))) ∧ Aside0 (wc.heap[gb142]? = some (.cells #[.int .i64 0, .int .i64 0] 24 (0, 0))) ∧ Aside0 (wc.heap[gb143]? = some (.cells #[.int .i64 0, .int .i64 0] 24 (0, 0))) ∧ Aside0 (wc.heap[gb146]? = some (.cells #[.int .i64 t144, .int .i64 t145] 24 (0, 0))) ∧ Aside0 (wc.heap[gb149]? = some (.cells #[.int .i64 t147, .int .i64 t148] 24 (0, 0))) ∧ Aside0 (Below w.heap.size w wc))
 case first =>
  have H := HC6.out
  clear HC6
  replace H := Option.bind_eq_some_iff.mp H
  obtain ⟨t150, A260, H⟩ := H
  replace H : (if t150 = true then ((spec_RangeOk.f a2_0 a2_1).bind fun t151 => (if t151 = true then ((spec_l8None.f).bind fun bt152 => (if (a1_0 == bt152.1 && (a1_1 == bt152.2)) = true then (spec_RangeCmp.j0 k a0 true a1_0 a1_1 a2_0 a2_1 t144 t145 t147 t148) else ((spec_l8None.f).bind fun bt154 => (spec_RangeCmp.j0 k a0 (a2_0 == bt154.1 && (a2_1 == bt154.2)) a1_0 a1_1 a2_0 a2_1 t144 t145 t147 t148)))) else (spec_RangeCmp.j0 k a0 true a1_0 a1_1 a2_0 a2_1 t144 t145 t147 t148))) else (spec_RangeCmp.j0 k a0 true a1_0 a1_1 a2_0 a2_1 t144 t145 t147 t148)) = some (r1, r2, r3, r4) := H
  have A26 := am A260
  clear A260
  by_cases c27 : t150 = true
  ·subst c27
   have H1 : ((spec_RangeOk.f a2_0 a2_1).bind fun t151 => (if t151 = true then ((spec_l8None.f).bind fun bt152 => (if (a1_0 == bt152.1 && (a1_1 == bt152.2)) = true then (spec_RangeCmp.j0 k a0 true a1_0 a1_1 a2_0 a2_1 t144 t145 t147 t148) else ((spec_l8None.f).bind fun bt154 => (spec_RangeCmp.j0 k a0 (a2_0 == bt154.1 && (a2_1 == bt154.2)) a1_0 a1_1 a2_0 a2_1 t144 t145 t147 t148)))) else (spec_RangeCmp.j0 k a0 true a1_0 a1_1 a2_0 a2_1 t144 t145 t147 t148))) = some (r1, r2, r3, r4) := by rw [if_pos rfl] at H; exact H
   clear H
   have H := H1
   clear H1
   replace H := Option.bind_eq_some_iff.mp H
   obtain ⟨t151, A280, H⟩ := H
   replace H : (if t151 = true then ((spec_l8None.f).bind fun bt152 => (if (a1_0 == bt152.1 && (a1_1 == bt152.2)) = true then (spec_RangeCmp.j0 k a0 true a1_0 a1_1 a2_0 a2_1 t144 t145 t147 t148) else ((spec_l8None.f).bind fun bt154 => (spec_RangeCmp.j0 k a0 (a2_0 == bt154.1 && (a2_1 == bt154.2)) a1_0 a1_1 a2_0 a2_1 t144 t145 t147 t148)))) else (spec_RangeCmp.j0 k a0 true a1_0 a1_1 a2_0 a2_1 t144 t145 t147 t148)) = some (r1, r2, r3, r4) := H
   have A28 := am A280
   clear A280
   by_cases c29 : t151 = true
   ·subst c29
    have H1 : ((spec_l8None.f).bind fun bt152 => (if (a1_0 == bt152.1 && (a1_1 == bt152.2)) = true then (spec_RangeCmp.j0 k a0 true a1_0 a1_1 a2_0 a2_1 t144 t145 t147 t148) else ((spec_l8None.f).bind fun bt154 => (spec_RangeCmp.j0 k a0 (a2_0 == bt154.1 && (a2_1 == bt154.2)) a1_0 a1_1 a2_0 a2_1 t144 t145 t147 t148)))) = some (r1, r2, r3, r4) := by rw [if_pos rfl] at H; exact H
    clear H
    have H := H1
    clear H1
    replace H := Option.bind_eq_some_iff.mp H
    obtain ⟨⟨t152, t153⟩, A300, H⟩ := H
    replace H : (if (a1_0 == t152 && (a1_1 == t153)) = true then (spec_RangeCmp.j0 k a0 true a1_0 a1_1 a2_0 a2_1 t144 t145 t147 t148) else ((spec_l8None.f).bind fun bt154 => (spec_RangeCmp.j0 k a0 (a2_0 == bt154.1 && (a2_1 == bt154.2)) a1_0 a1_1 a2_0 a2_1 t144 t145 t147 t148))) = some (r1, r2, r3, r4) := H
    have A30 := am A300
    clear A300
    by_cases c31 : (a1_0 == t152 && (a1_1 == t153)) = true
    ·rw [if_pos c31] at H
     have c31b0 : (a1_0 == t152 && (a1_1 == t153)) = true := c31
     (try (have c31b1 : decide (a1_0 = t152 && (a1_1 == t153)) = true := by simpa using c31))
     (try (have c31b2 : (a1_0 == t152 && (a1_1 == t153)) = true := by simpa using c31))
     clear c31
     (first | rw [c31b0] | (simp only [i64_w, i32_w]; rw [c31b0]) | skip)
     have H' := am H
     clear H
     try go_wp2
     have n0_ : Aside0 (((w19.setCell ⟨gb149, 0, none⟩ (.int .i64 t147)).setCell ⟨gb149, 1, none⟩ (.int .i64 t148)).heap[gb140]? = some (.cells #[.int .i64 a1_0, .int .i64 a1_1] 24 (0, 0))) := ⟨by (with_reducible repeat (first | refine blk_drewN ?_ _ | refine blk_drew ?_ | refine blk_alloc ?_ _)); refine blk_far ?_ NB140_149.out _; (with_reducible repeat (first | refine blk_drewN ?_ _ | refine blk_drew ?_ | refine blk_alloc ?_ _)); refine blk_far ?_ NB140_149.out _; (with_reducible repeat (first | refine blk_drewN ?_ _ | refine blk_drew ?_ | refine blk_alloc ?_ _)); exact BK140.out⟩
     have n1_ : Aside0 (((w19.setCell ⟨gb149, 0, none⟩ (.int .i64 t147)).setCell ⟨gb149, 1, none⟩ (.int .i64 t148)).heap[gb141]? = some (.cells #[.int .i64 a2_0, .int .i64 a2_1] 24 (0, 0))) := ⟨by (with_reducible repeat (first | refine blk_drewN ?_ _ | refine blk_drew ?_ | refine blk_alloc ?_ _)); refine blk_far ?_ NB141_149.out _; (with_reducible repeat (first | refine blk_drewN ?_ _ | refine blk_drew ?_ | refine blk_alloc ?_ _)); refine blk_far ?_ NB141_149.out _; (with_reducible repeat (first | refine blk_drewN ?_ _ | refine blk_drew ?_ | refine blk_alloc ?_ _)); exact BK141.out⟩
     have n2_ : Aside0 (((w19.setCell ⟨gb149, 0, none⟩ (.int .i64 t147)).setCell ⟨gb149, 1, none⟩ (.int .i64 t148)).heap[gb142]? = some (.cells #[.int .i64 0, .int .i64 0] 24 (0, 0))) := ⟨by (with_reducible repeat (first | refine blk_drewN ?_ _ | refine blk_drew ?_ | refine blk_alloc ?_ _)); refine blk_far ?_ NB142_149.out _; (with_reducible repeat (first | refine blk_drewN ?_ _ | refine blk_drew ?_ | refine blk_alloc ?_ _)); refine blk_far ?_ NB142_149.out _; (with_reducible repeat (first | refine blk_drewN ?_ _ | refine blk_drew ?_ | refine blk_alloc ?_ _)); exact BK142.out⟩
     have n3_ : Aside0 (((w19.setCell ⟨gb149, 0, none⟩ (.int .i64 t147)).setCell ⟨gb149, 1, none⟩ (.int .i64 t148)).heap[gb143]? = some (.cells #[.int .i64 0, .int .i64 0] 24 (0, 0))) := ⟨by (with_reducible repeat (first | refine blk_drewN ?_ _ | refine blk_drew ?_ | refine blk_alloc ?_ _)); refine blk_far ?_ NB143_149.out _; (with_reducible repeat (first | refine blk_drewN ?_ _ | refine blk_drew ?_ | refine blk_alloc ?_ _)); refine blk_far ?_ NB143_149.out _; (with_reducible repeat (first | refine blk_drewN ?_ _ | refine blk_drew ?_ | refine blk_alloc ?_ _)); exact BK143.out⟩
     have n4_ : Aside0 (((w19.setCell ⟨gb149, 0, none⟩ (.int .i64 t147)).setCell ⟨gb149, 1, none⟩ (.int .i64 t148)).heap[gb146]? = some (.cells #[.int .i64 t144, .int .i64 t145] 24 (0, 0))) := ⟨by (with_reducible repeat (first | refine blk_drewN ?_ _ | refine blk_drew ?_ | refine blk_alloc ?_ _)); refine blk_far ?_ NB146_149.out _; (with_reducible repeat (first | refine blk_drewN ?_ _ | refine blk_drew ?_ | refine blk_alloc ?_ _)); refine blk_far ?_ NB146_149.out _; (with_reducible repeat (first | refine blk_drewN ?_ _ | refine blk_drew ?_ | refine blk_alloc ?_ _)); exact BK146.out⟩
     have n5_ : Aside0 (((w19.setCell ⟨gb149, 0, none⟩ (.int .i64 t147)).setCell ⟨gb149, 1, none⟩ (.int .i64 t148)).heap[gb149]? = some (.cells #[.int .i64 t147, .int .i64 t148] 24 (0, 0))) := ⟨by (with_reducible repeat (first | refine blk_drewN ?_ _ | refine blk_drew ?_ | refine blk_alloc ?_ _)); refine blk_put (cs := #[.int .i64 t147, .int .i64 0]) ?_ 1 _ rfl; (with_reducible repeat (first | refine blk_drewN ?_ _ | refine blk_drew ?_ | refine blk_alloc ?_ _)); refine blk_put (cs := #[.int .i64 0, .int .i64 0]) ?_ 0 _ rfl; (with_reducible repeat (first | refine blk_drewN ?_ _ | refine blk_drew ?_ | refine blk_alloc ?_ _)); exact BK149.out⟩
     have n6_ : Aside0 (Below w.heap.size w ((w19.setCell ⟨gb149, 0, none⟩ (.int .i64 t147)).setCell ⟨gb149, 1, none⟩ (.int .i64 t148))) := ⟨Y6 HB GE140 GE141 GE142 GE143 GE146 GE149⟩
     (try clear BK140)
     (try clear BK141)
     (try clear BK142)
     (try clear BK143)
     (try clear BK146)
     (try clear BK149)
     (try clear HB)
     generalize ((w19.setCell ⟨gb149, 0, none⟩ (.int .i64 t147)).setCell ⟨gb149, 1, none⟩ (.int .i64 t148)) = w32 at n0_ n1_ n2_ n3_ n4_ n5_ n6_ ⊢
     have BK140 := n0_
     have BK141 := n1_
     have BK142 := n2_
     have BK143 := n3_
     have BK146 := n4_
     have BK149 := n5_
     have HB := n6_
     clear n0_ n1_ n2_ n3_ n4_ n5_ n6_
     have n0_ := am (blk_drew BK140.out)
     have n1_ := am (blk_drew BK141.out)
     have n2_ := am (blk_drew BK142.out)
     have n3_ := am (blk_drew BK143.out)
     have n4_ := am (blk_drew BK146.out)
     have n5_ := am (blk_drew BK149.out)
     have n6_ := am (below_drew1 HB.out)
     clear BK140
     clear BK141
     clear BK142
     clear BK143
     clear BK146
     clear BK149
     clear HB
     have BK140 := n0_
     have BK141 := n1_
     have BK142 := n2_
     have BK143 := n3_
     have BK146 := n4_
     have BK149 := n5_
     have HB := n6_
     clear n0_ n1_ n2_ n3_ n4_ n5_ n6_
     refine start_ (n := 18) (S := fun w' => w'.cell? ⟨gb140, 0, none⟩ = some (.int .i64 a1_0) ∧ w'.cell? ⟨gb140, 1, none⟩ = some (.int .i64 a1_1) ∧ w'.cell? ⟨gb141, 0, none⟩ = some (.int .i64 a2_0) ∧ w'.cell? ⟨gb141, 1, none⟩ = some (.int .i64 a2_1)) (ds := []) #[F, F, F, F, F, F, F, F, F, F, F, F, F, F, F, F, F, F] (by kernel_rfl) rfl rfl ⟨bc BK140 0, bc BK140 1, bc BK141 0, bc BK141 1⟩ (fun hHeld => ?_); refine with_tabW spec_RangeCmp.tab3 spec_RangeCmp.bits3 (fun HT_ HW_ => ?_)
     generalize w32.drew = w33 at BK140 BK141 BK142 BK143 BK146 BK149 HB hHeld ⊢
     refine take_ (i := 0) (N := some 12) (v := ?_) (a' := ?_) #[T, F, F, F, F, F, F, F, F, F, F, F, F, F, F, F, F, F] rfl rfl (take_ofW HT_.out HW_.out (by kernel_rfl)) (fun _ _ _ h => h) (Or.inl ⟨by rfl, ?_⟩) hHeld ?_ ?_
     rotate_left
     ·rintro w' ⟨s0, s1, s2, s3⟩
      go_simp
      with_reducible rfl
     rotate_left
     ·exact pz
     refine one_ (i := 1) (N := some 13) #[T, T, F, F, F, F, F, F, F, F, F, F, F, F, F, F, F, F] rfl rfl (one_of HT_.out (by kernel_rfl)) (by decide) (fun K hK => ?_)
     refine goes_ Try.func47 (by kernel_rfl) rfl #[.agg #[.int .i64 a1_0, .int .i64 a1_1]] (by rfl) rfl rfl mz ?_
     with_reducible refine (spec_RangeOk.calls a1_0 a1_1 true _ A26.out).mono ?_
     rintro e w34 ⟨rfl, hb⟩
     refine ⟨_, rfl, ?_⟩
     have n0_ := am (blk_below (g := gb140) (o := b2 a1_0 a1_1 24) (Z BK140) hb)
     have n1_ := am (blk_below (g := gb141) (o := b2 a2_0 a2_1 24) (Z BK141) hb)
     have n2_ := am (blk_below (g := gb142) (o := b2 0 0 24) (Z BK142) hb)
     have n3_ := am (blk_below (g := gb143) (o := b2 0 0 24) (Z BK143) hb)
     have n4_ := am (blk_below (g := gb146) (o := b2 t144 t145 24) (Z BK146) hb)
     have n5_ := am (blk_below (g := gb149) (o := b2 t147 t148 24) (Z BK149) hb)
     have n6_ := am (below_step (Y6 HB GE140 GE141 GE142 GE143 GE146 GE149) hb)
     clear BK140
     clear BK141
     clear BK142
     clear BK143
     clear BK146
     clear BK149
     clear HB
     have BK140 := n0_
     have BK141 := n1_
     have BK142 := n2_
     have BK143 := n3_
     have BK146 := n4_
     have BK149 := n5_
     have HB := n6_
     clear n0_ n1_ n2_ n3_ n4_ n5_ n6_
     (try clear hb)
     (try clear hb2)
     (try clear hk)
     (try clear hi)
     refine hK.out _ _ ⟨bc BK140 0, bc BK140 1, bc BK141 0, bc BK141 1⟩ (fun hHeld => ?_)
     clear hK K
     refine norm_ (a' := ?_) ?_ ?_
     rotate_left
     ·show Act.put _ (some 13) _ = _
      simp only [Act.put, List.setIfInBounds_toArray, List.set_cons_zero, List.set_cons_succ, i64_w, i32_w]
      rfl
     refine pure_ (i := 2) (N := some 14) (v := ?_) (a' := ?_) #[T, T, T, F, F, F, F, F, F, F, F, F, F, F, F, F, F, F] rfl rfl (any_of HT_.out (by kernel_rfl)) (fun _ _ _ h => h) (Or.inl ⟨by rfl, ?_⟩) ?_ ?_
     rotate_left
     ·exact gz
     rotate_left
     ·exact pz
     refine pure_ (i := 3) (N := some 15) (v := ?_) (a' := ?_) #[T, T, T, T, F, F, F, F, F, F, F, F, F, F, F, F, F, F] rfl rfl (any_of HT_.out (by kernel_rfl)) (fun _ _ _ h => h) (Or.inl ⟨by rfl, ?_⟩) ?_ ?_
     rotate_left
     ·exact gz
     rotate_left
     ·exact pz
     refine take_ (i := 4) (N := some 16) (v := ?_) (a' := ?_) #[T, T, T, T, T, F, F, F, F, F, F, F, F, F, F, F, F, F] rfl rfl (take_ofW HT_.out HW_.out (by kernel_rfl)) (fun _ _ _ h => h) (Or.inl ⟨by rfl, ?_⟩) hHeld ?_ ?_
     rotate_left
     ·rintro w' ⟨s0, s1, s2, s3⟩
      go_simp
      with_reducible rfl
     rotate_left
     ·exact pz
     refine one_ (i := 5) (N := some 17) #[T, T, T, T, T, T, F, F, F, F, F, F, F, F, F, F, F, F] rfl rfl (one_of HT_.out (by kernel_rfl)) (by decide) (fun K hK => ?_)
     refine goes_ Try.func47 (by kernel_rfl) rfl #[.agg #[.int .i64 a2_0, .int .i64 a2_1]] (by rfl) rfl rfl mz ?_
     with_reducible refine (spec_RangeOk.calls a2_0 a2_1 true _ A28.out).mono ?_
     rintro e w35 ⟨rfl, hb⟩
     refine ⟨_, rfl, ?_⟩
     have n0_ := am (blk_below (g := gb140) (o := b2 a1_0 a1_1 24) (Z BK140) hb)
     have n1_ := am (blk_below (g := gb141) (o := b2 a2_0 a2_1 24) (Z BK141) hb)
     have n2_ := am (blk_below (g := gb142) (o := b2 0 0 24) (Z BK142) hb)
     have n3_ := am (blk_below (g := gb143) (o := b2 0 0 24) (Z BK143) hb)
     have n4_ := am (blk_below (g := gb146) (o := b2 t144 t145 24) (Z BK146) hb)
     have n5_ := am (blk_below (g := gb149) (o := b2 t147 t148 24) (Z BK149) hb)
     have n6_ := am (below_step (Y6 HB GE140 GE141 GE142 GE143 GE146 GE149) hb)
     clear BK140
     clear BK141
     clear BK142
     clear BK143
     clear BK146
     clear BK149
     clear HB
     have BK140 := n0_
     have BK141 := n1_
     have BK142 := n2_
     have BK143 := n3_
     have BK146 := n4_
     have BK149 := n5_
     have HB := n6_
     clear n0_ n1_ n2_ n3_ n4_ n5_ n6_
     (try clear hb)
     (try clear hb2)
     (try clear hk)
     (try clear hi)
     refine hK.out _ _ ⟨bc BK140 0, bc BK140 1, bc BK141 0, bc BK141 1⟩ (fun hHeld => ?_)
     clear hK K
     refine norm_ (a' := ?_) ?_ ?_
     rotate_left
     ·show Act.put _ (some 17) _ = _
      simp only [Act.put, List.setIfInBounds_toArray, List.set_cons_zero, List.set_cons_succ, i64_w, i32_w]
      rfl
     refine pure_ (i := 6) (N := some 18) (v := ?_) (a' := ?_) #[T, T, T, T, T, T, T, F, F, F, F, F, F, F, F, F, F, F] rfl rfl (any_of HT_.out (by kernel_rfl)) (fun _ _ _ h => h) (Or.inl ⟨by rfl, ?_⟩) ?_ ?_
     rotate_left
     ·exact gz
     rotate_left
     ·exact pz
     refine pure_ (i := 7) (N := some 19) (v := ?_) (a' := ?_) #[T, T, T, T, T, T, T, T, F, F, F, F, F, F, F, F, F, F] rfl rfl (any_of HT_.out (by kernel_rfl)) (fun _ _ _ h => h) (Or.inl ⟨by rfl, ?_⟩) ?_ ?_
     rotate_left
     ·exact gz
     rotate_left
     ·exact pz
     refine pure_ (i := 8) (N := some 20) (v := ?_) (a' := ?_) #[T, T, T, T, T, T, T, T, T, F, F, F, F, F, F, F, F, F] rfl rfl (any_of HT_.out (by kernel_rfl)) (fun _ _ _ h => h) (Or.inl ⟨by rfl, ?_⟩) ?_ ?_
     rotate_left
     ·exact gz
     rotate_left
     ·exact pz
     refine take_ (i := 9) (N := some 21) (v := ?_) (a' := ?_) #[T, T, T, T, T, T, T, T, T, T, F, F, F, F, F, F, F, F] rfl rfl (take_ofW HT_.out HW_.out (by kernel_rfl)) (fun _ _ _ h => h) (Or.inl ⟨by rfl, ?_⟩) hHeld ?_ ?_
     rotate_left
     ·rintro w' ⟨s0, s1, s2, s3⟩
      go_simp
      with_reducible rfl
     rotate_left
     ·exact pz
     refine one_ (i := 10) (N := some 22) #[T, T, T, T, T, T, T, T, T, T, T, F, F, F, F, F, F, F] rfl rfl (one_of HT_.out (by kernel_rfl)) (by decide) (fun K hK => ?_)
     refine goes_ Try.func48 (by kernel_rfl) rfl #[] (by rfl) rfl rfl mz ?_
     with_reducible refine (spec_l8None.calls  t152 t153 _ A30.out).mono ?_
     rintro e w36 ⟨rfl, hb⟩
     refine ⟨_, rfl, ?_⟩
     have n0_ := am (blk_below (g := gb140) (o := b2 a1_0 a1_1 24) (Z BK140) hb)
     have n1_ := am (blk_below (g := gb141) (o := b2 a2_0 a2_1 24) (Z BK141) hb)
     have n2_ := am (blk_below (g := gb142) (o := b2 0 0 24) (Z BK142) hb)
     have n3_ := am (blk_below (g := gb143) (o := b2 0 0 24) (Z BK143) hb)
     have n4_ := am (blk_below (g := gb146) (o := b2 t144 t145 24) (Z BK146) hb)
     have n5_ := am (blk_below (g := gb149) (o := b2 t147 t148 24) (Z BK149) hb)
     have n6_ := am (below_step (Y6 HB GE140 GE141 GE142 GE143 GE146 GE149) hb)
     clear BK140
     clear BK141
     clear BK142
     clear BK143
     clear BK146
     clear BK149
     clear HB
     have BK140 := n0_
     have BK141 := n1_
     have BK142 := n2_
     have BK143 := n3_
     have BK146 := n4_
     have BK149 := n5_
     have HB := n6_
     clear n0_ n1_ n2_ n3_ n4_ n5_ n6_
     (try clear hb)
     (try clear hb2)
     (try clear hk)
     (try clear hi)
     refine hK.out _ _ ⟨bc BK140 0, bc BK140 1, bc BK141 0, bc BK141 1⟩ (fun hHeld => ?_)
     clear hK K
     refine norm_ (a' := ?_) ?_ ?_
     rotate_left
     ·show Act.put _ (some 22) _ = _
      simp only [Act.put, List.setIfInBounds_toArray, List.set_cons_zero, List.set_cons_succ, i64_w, i32_w]
      rfl
     refine pure_ (i := 11) (N := some 23) (v := ?_) (a' := ?_) #[T, T, T, T, T, T, T, T, T, T, T, T, F, F, F, F, F, F] rfl rfl (any_of HT_.out (by kernel_rfl)) (fun _ _ _ h => h) (Or.inl ⟨by rfl, ?_⟩) ?_ ?_
     rotate_left
     ·exact gz
     rotate_left
     ·exact pz
     refine pure_ (i := 12) (N := some 24) (v := ?_) (a' := ?_) #[T, T, T, T, T, T, T, T, T, T, T, T, T, F, F, F, F, F] rfl rfl (any_of HT_.out (by kernel_rfl)) (fun _ _ _ h => h) (Or.inl ⟨by rfl, ?_⟩) ?_ ?_
     rotate_left
     ·exact gz
     rotate_left
     ·exact pz
     refine pure_ (i := 13) (N := some 25) (v := ?_) (a' := ?_) #[T, T, T, T, T, T, T, T, T, T, T, T, T, T, F, F, F, F] rfl rfl (any_of HT_.out (by kernel_rfl)) (fun _ _ _ h => h) (Or.inl ⟨by rfl, ?_⟩) ?_ ?_
     rotate_left
     ·exact gz
     rotate_left
     ·exact pz
     refine pure_ (i := 14) (N := some 26) (v := undef) (a' := ?_) #[T, T, T, T, T, T, T, T, T, T, T, T, T, T, T, F, F, F] rfl rfl (any_of HT_.out (by kernel_rfl)) (fun _ _ _ h => h) (Or.inr ⟨by rfl, rfl⟩) ?_ ?_
     rotate_left
     ·exact pz
     refine pure_ (i := 15) (N := some 27) (v := undef) (a' := ?_) #[T, T, T, T, T, T, T, T, T, T, T, T, T, T, T, T, F, F] rfl rfl (any_of HT_.out (by kernel_rfl)) (fun _ _ _ h => h) (Or.inr ⟨by rfl, rfl⟩) ?_ ?_
     rotate_left
     ·exact pz
     refine pure_ (i := 16) (N := some 28) (v := undef) (a' := ?_) #[T, T, T, T, T, T, T, T, T, T, T, T, T, T, T, T, T, F] rfl rfl (any_of HT_.out (by kernel_rfl)) (fun _ _ _ h => h) (Or.inr ⟨by rfl, rfl⟩) ?_ ?_
     rotate_left
     ·exact pz
     refine pure_ (i := 17) (N := some 29) (v := ?_) (a' := ?_) #[T, T, T, T, T, T, T, T, T, T, T, T, T, T, T, T, T, T] rfl rfl (any_of HT_.out (by kernel_rfl)) (fun _ _ _ h => h) (Or.inl ⟨by rfl, ?_⟩) ?_ ?_
     rotate_left
     ·exact gz
     rotate_left
     ·exact pz
     refine done_ (done_of HT_.out (by kernel_rfl)) ?_
     try go_wp2
     go_meet
     case rel => exact ⟨_, (true), (by first | rfl | (simp; done) | (simp [*]; done)), H', ⟨by first | omega | exact Nat.le_refl _⟩, ⟨Z BK140⟩, ⟨Z BK141⟩, ⟨Z BK142⟩, ⟨Z BK143⟩, ⟨Z BK146⟩, ⟨Z BK149⟩, ⟨Y6 HB GE140 GE141 GE142 GE143 GE146 GE149⟩⟩
    ·rw [if_neg c31] at H
     have c31b0 : (a1_0 == t152 && (a1_1 == t153)) = false := by simpa using c31
     (try (have c31b1 : decide (a1_0 = t152 && (a1_1 == t153)) = false := by simpa using c31))
     (try (have c31b2 : (a1_0 == t152 && (a1_1 == t153)) = false := by simpa using c31))
     (try (have c31b3 : ¬ (a1_0 = t152 && (a1_1 == t153)) := by simpa using c31))
     clear c31
     (first | rw [c31b0] | (simp only [i64_w, i32_w]; rw [c31b0]) | skip)
     replace H := Option.bind_eq_some_iff.mp H
     obtain ⟨⟨t154, t155⟩, A370, H⟩ := H
     replace H : (spec_RangeCmp.j0 k a0 (a2_0 == t154 && (a2_1 == t155)) a1_0 a1_1 a2_0 a2_1 t144 t145 t147 t148) = some (r1, r2, r3, r4) := H
     have A37 := am A370
     clear A370
     have H' := am H
     clear H
     try go_wp2
     have n0_ : Aside0 (((w19.setCell ⟨gb149, 0, none⟩ (.int .i64 t147)).setCell ⟨gb149, 1, none⟩ (.int .i64 t148)).heap[gb140]? = some (.cells #[.int .i64 a1_0, .int .i64 a1_1] 24 (0, 0))) := ⟨by (with_reducible repeat (first | refine blk_drewN ?_ _ | refine blk_drew ?_ | refine blk_alloc ?_ _)); refine blk_far ?_ NB140_149.out _; (with_reducible repeat (first | refine blk_drewN ?_ _ | refine blk_drew ?_ | refine blk_alloc ?_ _)); refine blk_far ?_ NB140_149.out _; (with_reducible repeat (first | refine blk_drewN ?_ _ | refine blk_drew ?_ | refine blk_alloc ?_ _)); exact BK140.out⟩
     have n1_ : Aside0 (((w19.setCell ⟨gb149, 0, none⟩ (.int .i64 t147)).setCell ⟨gb149, 1, none⟩ (.int .i64 t148)).heap[gb141]? = some (.cells #[.int .i64 a2_0, .int .i64 a2_1] 24 (0, 0))) := ⟨by (with_reducible repeat (first | refine blk_drewN ?_ _ | refine blk_drew ?_ | refine blk_alloc ?_ _)); refine blk_far ?_ NB141_149.out _; (with_reducible repeat (first | refine blk_drewN ?_ _ | refine blk_drew ?_ | refine blk_alloc ?_ _)); refine blk_far ?_ NB141_149.out _; (with_reducible repeat (first | refine blk_drewN ?_ _ | refine blk_drew ?_ | refine blk_alloc ?_ _)); exact BK141.out⟩
     have n2_ : Aside0 (((w19.setCell ⟨gb149, 0, none⟩ (.int .i64 t147)).setCell ⟨gb149, 1, none⟩ (.int .i64 t148)).heap[gb142]? = some (.cells #[.int .i64 0, .int .i64 0] 24 (0, 0))) := ⟨by (with_reducible repeat (first | refine blk_drewN ?_ _ | refine blk_drew ?_ | refine blk_alloc ?_ _)); refine blk_far ?_ NB142_149.out _; (with_reducible repeat (first | refine blk_drewN ?_ _ | refine blk_drew ?_ | refine blk_alloc ?_ _)); refine blk_far ?_ NB142_149.out _; (with_reducible repeat (first | refine blk_drewN ?_ _ | refine blk_drew ?_ | refine blk_alloc ?_ _)); exact BK142.out⟩
     have n3_ : Aside0 (((w19.setCell ⟨gb149, 0, none⟩ (.int .i64 t147)).setCell ⟨gb149, 1, none⟩ (.int .i64 t148)).heap[gb143]? = some (.cells #[.int .i64 0, .int .i64 0] 24 (0, 0))) := ⟨by (with_reducible repeat (first | refine blk_drewN ?_ _ | refine blk_drew ?_ | refine blk_alloc ?_ _)); refine blk_far ?_ NB143_149.out _; (with_reducible repeat (first | refine blk_drewN ?_ _ | refine blk_drew ?_ | refine blk_alloc ?_ _)); refine blk_far ?_ NB143_149.out _; (with_reducible repeat (first | refine blk_drewN ?_ _ | refine blk_drew ?_ | refine blk_alloc ?_ _)); exact BK143.out⟩
     have n4_ : Aside0 (((w19.setCell ⟨gb149, 0, none⟩ (.int .i64 t147)).setCell ⟨gb149, 1, none⟩ (.int .i64 t148)).heap[gb146]? = some (.cells #[.int .i64 t144, .int .i64 t145] 24 (0, 0))) := ⟨by (with_reducible repeat (first | refine blk_drewN ?_ _ | refine blk_drew ?_ | refine blk_alloc ?_ _)); refine blk_far ?_ NB146_149.out _; (with_reducible repeat (first | refine blk_drewN ?_ _ | refine blk_drew ?_ | refine blk_alloc ?_ _)); refine blk_far ?_ NB146_149.out _; (with_reducible repeat (first | refine blk_drewN ?_ _ | refine blk_drew ?_ | refine blk_alloc ?_ _)); exact BK146.out⟩
     have n5_ : Aside0 (((w19.setCell ⟨gb149, 0, none⟩ (.int .i64 t147)).setCell ⟨gb149, 1, none⟩ (.int .i64 t148)).heap[gb149]? = some (.cells #[.int .i64 t147, .int .i64 t148] 24 (0, 0))) := ⟨by (with_reducible repeat (first | refine blk_drewN ?_ _ | refine blk_drew ?_ | refine blk_alloc ?_ _)); refine blk_put (cs := #[.int .i64 t147, .int .i64 0]) ?_ 1 _ rfl; (with_reducible repeat (first | refine blk_drewN ?_ _ | refine blk_drew ?_ | refine blk_alloc ?_ _)); refine blk_put (cs := #[.int .i64 0, .int .i64 0]) ?_ 0 _ rfl; (with_reducible repeat (first | refine blk_drewN ?_ _ | refine blk_drew ?_ | refine blk_alloc ?_ _)); exact BK149.out⟩
     have n6_ : Aside0 (Below w.heap.size w ((w19.setCell ⟨gb149, 0, none⟩ (.int .i64 t147)).setCell ⟨gb149, 1, none⟩ (.int .i64 t148))) := ⟨Y6 HB GE140 GE141 GE142 GE143 GE146 GE149⟩
     (try clear BK140)
     (try clear BK141)
     (try clear BK142)
     (try clear BK143)
     (try clear BK146)
     (try clear BK149)
     (try clear HB)
     generalize ((w19.setCell ⟨gb149, 0, none⟩ (.int .i64 t147)).setCell ⟨gb149, 1, none⟩ (.int .i64 t148)) = w38 at n0_ n1_ n2_ n3_ n4_ n5_ n6_ ⊢
     have BK140 := n0_
     have BK141 := n1_
     have BK142 := n2_
     have BK143 := n3_
     have BK146 := n4_
     have BK149 := n5_
     have HB := n6_
     clear n0_ n1_ n2_ n3_ n4_ n5_ n6_
     have n0_ := am (blk_drew BK140.out)
     have n1_ := am (blk_drew BK141.out)
     have n2_ := am (blk_drew BK142.out)
     have n3_ := am (blk_drew BK143.out)
     have n4_ := am (blk_drew BK146.out)
     have n5_ := am (blk_drew BK149.out)
     have n6_ := am (below_drew1 HB.out)
     clear BK140
     clear BK141
     clear BK142
     clear BK143
     clear BK146
     clear BK149
     clear HB
     have BK140 := n0_
     have BK141 := n1_
     have BK142 := n2_
     have BK143 := n3_
     have BK146 := n4_
     have BK149 := n5_
     have HB := n6_
     clear n0_ n1_ n2_ n3_ n4_ n5_ n6_
     refine start_ (n := 18) (S := fun w' => w'.cell? ⟨gb140, 0, none⟩ = some (.int .i64 a1_0) ∧ w'.cell? ⟨gb140, 1, none⟩ = some (.int .i64 a1_1) ∧ w'.cell? ⟨gb141, 0, none⟩ = some (.int .i64 a2_0) ∧ w'.cell? ⟨gb141, 1, none⟩ = some (.int .i64 a2_1)) (ds := []) #[F, F, F, F, F, F, F, F, F, F, F, F, F, F, F, F, F, F] (by kernel_rfl) rfl rfl ⟨bc BK140 0, bc BK140 1, bc BK141 0, bc BK141 1⟩ (fun hHeld => ?_); refine with_tabW spec_RangeCmp.tab3 spec_RangeCmp.bits3 (fun HT_ HW_ => ?_)
     generalize w38.drew = w39 at BK140 BK141 BK142 BK143 BK146 BK149 HB hHeld ⊢
     refine take_ (i := 0) (N := some 12) (v := ?_) (a' := ?_) #[T, F, F, F, F, F, F, F, F, F, F, F, F, F, F, F, F, F] rfl rfl (take_ofW HT_.out HW_.out (by kernel_rfl)) (fun _ _ _ h => h) (Or.inl ⟨by rfl, ?_⟩) hHeld ?_ ?_
     rotate_left
     ·rintro w' ⟨s0, s1, s2, s3⟩
      go_simp
      with_reducible rfl
     rotate_left
     ·exact pz
     refine one_ (i := 1) (N := some 13) #[T, T, F, F, F, F, F, F, F, F, F, F, F, F, F, F, F, F] rfl rfl (one_of HT_.out (by kernel_rfl)) (by decide) (fun K hK => ?_)
     refine goes_ Try.func47 (by kernel_rfl) rfl #[.agg #[.int .i64 a1_0, .int .i64 a1_1]] (by rfl) rfl rfl mz ?_
     with_reducible refine (spec_RangeOk.calls a1_0 a1_1 true _ A26.out).mono ?_
     rintro e w40 ⟨rfl, hb⟩
     refine ⟨_, rfl, ?_⟩
     have n0_ := am (blk_below (g := gb140) (o := b2 a1_0 a1_1 24) (Z BK140) hb)
     have n1_ := am (blk_below (g := gb141) (o := b2 a2_0 a2_1 24) (Z BK141) hb)
     have n2_ := am (blk_below (g := gb142) (o := b2 0 0 24) (Z BK142) hb)
     have n3_ := am (blk_below (g := gb143) (o := b2 0 0 24) (Z BK143) hb)
     have n4_ := am (blk_below (g := gb146) (o := b2 t144 t145 24) (Z BK146) hb)
     have n5_ := am (blk_below (g := gb149) (o := b2 t147 t148 24) (Z BK149) hb)
     have n6_ := am (below_step (Y6 HB GE140 GE141 GE142 GE143 GE146 GE149) hb)
     clear BK140
     clear BK141
     clear BK142
     clear BK143
     clear BK146
     clear BK149
     clear HB
     have BK140 := n0_
     have BK141 := n1_
     have BK142 := n2_
     have BK143 := n3_
     have BK146 := n4_
     have BK149 := n5_
     have HB := n6_
     clear n0_ n1_ n2_ n3_ n4_ n5_ n6_
     (try clear hb)
     (try clear hb2)
     (try clear hk)
     (try clear hi)
     refine hK.out _ _ ⟨bc BK140 0, bc BK140 1, bc BK141 0, bc BK141 1⟩ (fun hHeld => ?_)
     clear hK K
     refine norm_ (a' := ?_) ?_ ?_
     rotate_left
     ·show Act.put _ (some 13) _ = _
      simp only [Act.put, List.setIfInBounds_toArray, List.set_cons_zero, List.set_cons_succ, i64_w, i32_w]
      rfl
     refine pure_ (i := 2) (N := some 14) (v := ?_) (a' := ?_) #[T, T, T, F, F, F, F, F, F, F, F, F, F, F, F, F, F, F] rfl rfl (any_of HT_.out (by kernel_rfl)) (fun _ _ _ h => h) (Or.inl ⟨by rfl, ?_⟩) ?_ ?_
     rotate_left
     ·exact gz
     rotate_left
     ·exact pz
     refine pure_ (i := 3) (N := some 15) (v := ?_) (a' := ?_) #[T, T, T, T, F, F, F, F, F, F, F, F, F, F, F, F, F, F] rfl rfl (any_of HT_.out (by kernel_rfl)) (fun _ _ _ h => h) (Or.inl ⟨by rfl, ?_⟩) ?_ ?_
     rotate_left
     ·exact gz
     rotate_left
     ·exact pz
     refine take_ (i := 4) (N := some 16) (v := ?_) (a' := ?_) #[T, T, T, T, T, F, F, F, F, F, F, F, F, F, F, F, F, F] rfl rfl (take_ofW HT_.out HW_.out (by kernel_rfl)) (fun _ _ _ h => h) (Or.inl ⟨by rfl, ?_⟩) hHeld ?_ ?_
     rotate_left
     ·rintro w' ⟨s0, s1, s2, s3⟩
      go_simp
      with_reducible rfl
     rotate_left
     ·exact pz
     refine one_ (i := 5) (N := some 17) #[T, T, T, T, T, T, F, F, F, F, F, F, F, F, F, F, F, F] rfl rfl (one_of HT_.out (by kernel_rfl)) (by decide) (fun K hK => ?_)
     refine goes_ Try.func47 (by kernel_rfl) rfl #[.agg #[.int .i64 a2_0, .int .i64 a2_1]] (by rfl) rfl rfl mz ?_
     with_reducible refine (spec_RangeOk.calls a2_0 a2_1 true _ A28.out).mono ?_
     rintro e w41 ⟨rfl, hb⟩
     refine ⟨_, rfl, ?_⟩
     have n0_ := am (blk_below (g := gb140) (o := b2 a1_0 a1_1 24) (Z BK140) hb)
     have n1_ := am (blk_below (g := gb141) (o := b2 a2_0 a2_1 24) (Z BK141) hb)
     have n2_ := am (blk_below (g := gb142) (o := b2 0 0 24) (Z BK142) hb)
     have n3_ := am (blk_below (g := gb143) (o := b2 0 0 24) (Z BK143) hb)
     have n4_ := am (blk_below (g := gb146) (o := b2 t144 t145 24) (Z BK146) hb)
     have n5_ := am (blk_below (g := gb149) (o := b2 t147 t148 24) (Z BK149) hb)
     have n6_ := am (below_step (Y6 HB GE140 GE141 GE142 GE143 GE146 GE149) hb)
     clear BK140
     clear BK141
     clear BK142
     clear BK143
     clear BK146
     clear BK149
     clear HB
     have BK140 := n0_
     have BK141 := n1_
     have BK142 := n2_
     have BK143 := n3_
     have BK146 := n4_
     have BK149 := n5_
     have HB := n6_
     clear n0_ n1_ n2_ n3_ n4_ n5_ n6_
     (try clear hb)
     (try clear hb2)
     (try clear hk)
     (try clear hi)
     refine hK.out _ _ ⟨bc BK140 0, bc BK140 1, bc BK141 0, bc BK141 1⟩ (fun hHeld => ?_)
     clear hK K
     refine norm_ (a' := ?_) ?_ ?_
     rotate_left
     ·show Act.put _ (some 17) _ = _
      simp only [Act.put, List.setIfInBounds_toArray, List.set_cons_zero, List.set_cons_succ, i64_w, i32_w]
      rfl
     refine pure_ (i := 6) (N := some 18) (v := ?_) (a' := ?_) #[T, T, T, T, T, T, T, F, F, F, F, F, F, F, F, F, F, F] rfl rfl (any_of HT_.out (by kernel_rfl)) (fun _ _ _ h => h) (Or.inl ⟨by rfl, ?_⟩) ?_ ?_
     rotate_left
     ·exact gz
     rotate_left
     ·exact pz
     refine pure_ (i := 7) (N := some 19) (v := ?_) (a' := ?_) #[T, T, T, T, T, T, T, T, F, F, F, F, F, F, F, F, F, F] rfl rfl (any_of HT_.out (by kernel_rfl)) (fun _ _ _ h => h) (Or.inl ⟨by rfl, ?_⟩) ?_ ?_
     rotate_left
     ·exact gz
     rotate_left
     ·exact pz
     refine pure_ (i := 8) (N := some 20) (v := ?_) (a' := ?_) #[T, T, T, T, T, T, T, T, T, F, F, F, F, F, F, F, F, F] rfl rfl (any_of HT_.out (by kernel_rfl)) (fun _ _ _ h => h) (Or.inl ⟨by rfl, ?_⟩) ?_ ?_
     rotate_left
     ·exact gz
     rotate_left
     ·exact pz
     refine take_ (i := 9) (N := some 21) (v := ?_) (a' := ?_) #[T, T, T, T, T, T, T, T, T, T, F, F, F, F, F, F, F, F] rfl rfl (take_ofW HT_.out HW_.out (by kernel_rfl)) (fun _ _ _ h => h) (Or.inl ⟨by rfl, ?_⟩) hHeld ?_ ?_
     rotate_left
     ·rintro w' ⟨s0, s1, s2, s3⟩
      go_simp
      with_reducible rfl
     rotate_left
     ·exact pz
     refine one_ (i := 10) (N := some 22) #[T, T, T, T, T, T, T, T, T, T, T, F, F, F, F, F, F, F] rfl rfl (one_of HT_.out (by kernel_rfl)) (by decide) (fun K hK => ?_)
     refine goes_ Try.func48 (by kernel_rfl) rfl #[] (by rfl) rfl rfl mz ?_
     with_reducible refine (spec_l8None.calls  t152 t153 _ A30.out).mono ?_
     rintro e w42 ⟨rfl, hb⟩
     refine ⟨_, rfl, ?_⟩
     have n0_ := am (blk_below (g := gb140) (o := b2 a1_0 a1_1 24) (Z BK140) hb)
     have n1_ := am (blk_below (g := gb141) (o := b2 a2_0 a2_1 24) (Z BK141) hb)
     have n2_ := am (blk_below (g := gb142) (o := b2 0 0 24) (Z BK142) hb)
     have n3_ := am (blk_below (g := gb143) (o := b2 0 0 24) (Z BK143) hb)
     have n4_ := am (blk_below (g := gb146) (o := b2 t144 t145 24) (Z BK146) hb)
     have n5_ := am (blk_below (g := gb149) (o := b2 t147 t148 24) (Z BK149) hb)
     have n6_ := am (below_step (Y6 HB GE140 GE141 GE142 GE143 GE146 GE149) hb)
     clear BK140
     clear BK141
     clear BK142
     clear BK143
     clear BK146
     clear BK149
     clear HB
     have BK140 := n0_
     have BK141 := n1_
     have BK142 := n2_
     have BK143 := n3_
     have BK146 := n4_
     have BK149 := n5_
     have HB := n6_
     clear n0_ n1_ n2_ n3_ n4_ n5_ n6_
     (try clear hb)
     (try clear hb2)
     (try clear hk)
     (try clear hi)
     refine hK.out _ _ ⟨bc BK140 0, bc BK140 1, bc BK141 0, bc BK141 1⟩ (fun hHeld => ?_)
     clear hK K
     refine norm_ (a' := ?_) ?_ ?_
     rotate_left
     ·show Act.put _ (some 22) _ = _
      simp only [Act.put, List.setIfInBounds_toArray, List.set_cons_zero, List.set_cons_succ, i64_w, i32_w]
      rfl
     refine pure_ (i := 11) (N := some 23) (v := ?_) (a' := ?_) #[T, T, T, T, T, T, T, T, T, T, T, T, F, F, F, F, F, F] rfl rfl (any_of HT_.out (by kernel_rfl)) (fun _ _ _ h => h) (Or.inl ⟨by rfl, ?_⟩) ?_ ?_
     rotate_left
     ·exact gz
     rotate_left
     ·exact pz
     refine pure_ (i := 12) (N := some 24) (v := ?_) (a' := ?_) #[T, T, T, T, T, T, T, T, T, T, T, T, T, F, F, F, F, F] rfl rfl (any_of HT_.out (by kernel_rfl)) (fun _ _ _ h => h) (Or.inl ⟨by rfl, ?_⟩) ?_ ?_
     rotate_left
     ·exact gz
     rotate_left
     ·exact pz
     refine pure_ (i := 13) (N := some 25) (v := ?_) (a' := ?_) #[T, T, T, T, T, T, T, T, T, T, T, T, T, T, F, F, F, F] rfl rfl (any_of HT_.out (by kernel_rfl)) (fun _ _ _ h => h) (Or.inl ⟨by rfl, ?_⟩) ?_ ?_
     rotate_left
     ·exact gz
     rotate_left
     ·exact pz
     refine take_ (i := 14) (N := some 26) (v := ?_) (a' := ?_) #[T, T, T, T, T, T, T, T, T, T, T, T, T, T, T, F, F, F] rfl rfl (take_ofW HT_.out HW_.out (by kernel_rfl)) (fun _ _ _ h => h) (Or.inl ⟨by rfl, ?_⟩) hHeld ?_ ?_
     rotate_left
     ·rintro w' ⟨s0, s1, s2, s3⟩
      go_simp
      with_reducible rfl
     rotate_left
     ·exact pz
     refine one_ (i := 15) (N := some 27) #[T, T, T, T, T, T, T, T, T, T, T, T, T, T, T, T, F, F] rfl rfl (one_of HT_.out (by kernel_rfl)) (by decide) (fun K hK => ?_)
     refine goes_ Try.func48 (by kernel_rfl) rfl #[] (by rfl) rfl rfl mz ?_
     with_reducible refine (spec_l8None.calls  t154 t155 _ A37.out).mono ?_
     rintro e w43 ⟨rfl, hb⟩
     refine ⟨_, rfl, ?_⟩
     have n0_ := am (blk_below (g := gb140) (o := b2 a1_0 a1_1 24) (Z BK140) hb)
     have n1_ := am (blk_below (g := gb141) (o := b2 a2_0 a2_1 24) (Z BK141) hb)
     have n2_ := am (blk_below (g := gb142) (o := b2 0 0 24) (Z BK142) hb)
     have n3_ := am (blk_below (g := gb143) (o := b2 0 0 24) (Z BK143) hb)
     have n4_ := am (blk_below (g := gb146) (o := b2 t144 t145 24) (Z BK146) hb)
     have n5_ := am (blk_below (g := gb149) (o := b2 t147 t148 24) (Z BK149) hb)
     have n6_ := am (below_step (Y6 HB GE140 GE141 GE142 GE143 GE146 GE149) hb)
     clear BK140
     clear BK141
     clear BK142
     clear BK143
     clear BK146
     clear BK149
     clear HB
     have BK140 := n0_
     have BK141 := n1_
     have BK142 := n2_
     have BK143 := n3_
     have BK146 := n4_
     have BK149 := n5_
     have HB := n6_
     clear n0_ n1_ n2_ n3_ n4_ n5_ n6_
     (try clear hb)
     (try clear hb2)
     (try clear hk)
     (try clear hi)
     refine hK.out _ _ ⟨bc BK140 0, bc BK140 1, bc BK141 0, bc BK141 1⟩ (fun hHeld => ?_)
     clear hK K
     refine norm_ (a' := ?_) ?_ ?_
     rotate_left
     ·show Act.put _ (some 27) _ = _
      simp only [Act.put, List.setIfInBounds_toArray, List.set_cons_zero, List.set_cons_succ, i64_w, i32_w]
      rfl
     refine pure_ (i := 16) (N := some 28) (v := ?_) (a' := ?_) #[T, T, T, T, T, T, T, T, T, T, T, T, T, T, T, T, T, F] rfl rfl (any_of HT_.out (by kernel_rfl)) (fun _ _ _ h => h) (Or.inl ⟨by rfl, ?_⟩) ?_ ?_
     rotate_left
     ·exact gz
     rotate_left
     ·exact pz
     refine pure_ (i := 17) (N := some 29) (v := ?_) (a' := ?_) #[T, T, T, T, T, T, T, T, T, T, T, T, T, T, T, T, T, T] rfl rfl (any_of HT_.out (by kernel_rfl)) (fun _ _ _ h => h) (Or.inl ⟨by rfl, ?_⟩) ?_ ?_
     rotate_left
     ·exact gz
     rotate_left
     ·exact pz
     refine done_ (done_of HT_.out (by kernel_rfl)) ?_
     try go_wp2
     go_meet
     case rel => exact ⟨_, ((a2_0 == t154 && (a2_1 == t155))), (by first | rfl | (simp; done) | (simp [*]; done)), H', ⟨by first | omega | exact Nat.le_refl _⟩, ⟨Z BK140⟩, ⟨Z BK141⟩, ⟨Z BK142⟩, ⟨Z BK143⟩, ⟨Z BK146⟩, ⟨Z BK149⟩, ⟨Y6 HB GE140 GE141 GE142 GE143 GE146 GE149⟩⟩
   ·replace c29 := Bool.eq_false_iff.mpr c29
    subst c29
    have H1 : (spec_RangeCmp.j0 k a0 true a1_0 a1_1 a2_0 a2_1 t144 t145 t147 t148) = some (r1, r2, r3, r4) := by rw [if_neg (show ¬ (false = true) by decide)] at H; exact H
    clear H
    have H := H1
    clear H1
    have H' := am H
    clear H
    try go_wp2
    have n0_ : Aside0 (((w19.setCell ⟨gb149, 0, none⟩ (.int .i64 t147)).setCell ⟨gb149, 1, none⟩ (.int .i64 t148)).heap[gb140]? = some (.cells #[.int .i64 a1_0, .int .i64 a1_1] 24 (0, 0))) := ⟨by (with_reducible repeat (first | refine blk_drewN ?_ _ | refine blk_drew ?_ | refine blk_alloc ?_ _)); refine blk_far ?_ NB140_149.out _; (with_reducible repeat (first | refine blk_drewN ?_ _ | refine blk_drew ?_ | refine blk_alloc ?_ _)); refine blk_far ?_ NB140_149.out _; (with_reducible repeat (first | refine blk_drewN ?_ _ | refine blk_drew ?_ | refine blk_alloc ?_ _)); exact BK140.out⟩
    have n1_ : Aside0 (((w19.setCell ⟨gb149, 0, none⟩ (.int .i64 t147)).setCell ⟨gb149, 1, none⟩ (.int .i64 t148)).heap[gb141]? = some (.cells #[.int .i64 a2_0, .int .i64 a2_1] 24 (0, 0))) := ⟨by (with_reducible repeat (first | refine blk_drewN ?_ _ | refine blk_drew ?_ | refine blk_alloc ?_ _)); refine blk_far ?_ NB141_149.out _; (with_reducible repeat (first | refine blk_drewN ?_ _ | refine blk_drew ?_ | refine blk_alloc ?_ _)); refine blk_far ?_ NB141_149.out _; (with_reducible repeat (first | refine blk_drewN ?_ _ | refine blk_drew ?_ | refine blk_alloc ?_ _)); exact BK141.out⟩
    have n2_ : Aside0 (((w19.setCell ⟨gb149, 0, none⟩ (.int .i64 t147)).setCell ⟨gb149, 1, none⟩ (.int .i64 t148)).heap[gb142]? = some (.cells #[.int .i64 0, .int .i64 0] 24 (0, 0))) := ⟨by (with_reducible repeat (first | refine blk_drewN ?_ _ | refine blk_drew ?_ | refine blk_alloc ?_ _)); refine blk_far ?_ NB142_149.out _; (with_reducible repeat (first | refine blk_drewN ?_ _ | refine blk_drew ?_ | refine blk_alloc ?_ _)); refine blk_far ?_ NB142_149.out _; (with_reducible repeat (first | refine blk_drewN ?_ _ | refine blk_drew ?_ | refine blk_alloc ?_ _)); exact BK142.out⟩
    have n3_ : Aside0 (((w19.setCell ⟨gb149, 0, none⟩ (.int .i64 t147)).setCell ⟨gb149, 1, none⟩ (.int .i64 t148)).heap[gb143]? = some (.cells #[.int .i64 0, .int .i64 0] 24 (0, 0))) := ⟨by (with_reducible repeat (first | refine blk_drewN ?_ _ | refine blk_drew ?_ | refine blk_alloc ?_ _)); refine blk_far ?_ NB143_149.out _; (with_reducible repeat (first | refine blk_drewN ?_ _ | refine blk_drew ?_ | refine blk_alloc ?_ _)); refine blk_far ?_ NB143_149.out _; (with_reducible repeat (first | refine blk_drewN ?_ _ | refine blk_drew ?_ | refine blk_alloc ?_ _)); exact BK143.out⟩
    have n4_ : Aside0 (((w19.setCell ⟨gb149, 0, none⟩ (.int .i64 t147)).setCell ⟨gb149, 1, none⟩ (.int .i64 t148)).heap[gb146]? = some (.cells #[.int .i64 t144, .int .i64 t145] 24 (0, 0))) := ⟨by (with_reducible repeat (first | refine blk_drewN ?_ _ | refine blk_drew ?_ | refine blk_alloc ?_ _)); refine blk_far ?_ NB146_149.out _; (with_reducible repeat (first | refine blk_drewN ?_ _ | refine blk_drew ?_ | refine blk_alloc ?_ _)); refine blk_far ?_ NB146_149.out _; (with_reducible repeat (first | refine blk_drewN ?_ _ | refine blk_drew ?_ | refine blk_alloc ?_ _)); exact BK146.out⟩
    have n5_ : Aside0 (((w19.setCell ⟨gb149, 0, none⟩ (.int .i64 t147)).setCell ⟨gb149, 1, none⟩ (.int .i64 t148)).heap[gb149]? = some (.cells #[.int .i64 t147, .int .i64 t148] 24 (0, 0))) := ⟨by (with_reducible repeat (first | refine blk_drewN ?_ _ | refine blk_drew ?_ | refine blk_alloc ?_ _)); refine blk_put (cs := #[.int .i64 t147, .int .i64 0]) ?_ 1 _ rfl; (with_reducible repeat (first | refine blk_drewN ?_ _ | refine blk_drew ?_ | refine blk_alloc ?_ _)); refine blk_put (cs := #[.int .i64 0, .int .i64 0]) ?_ 0 _ rfl; (with_reducible repeat (first | refine blk_drewN ?_ _ | refine blk_drew ?_ | refine blk_alloc ?_ _)); exact BK149.out⟩
    have n6_ : Aside0 (Below w.heap.size w ((w19.setCell ⟨gb149, 0, none⟩ (.int .i64 t147)).setCell ⟨gb149, 1, none⟩ (.int .i64 t148))) := ⟨Y6 HB GE140 GE141 GE142 GE143 GE146 GE149⟩
    (try clear BK140)
    (try clear BK141)
    (try clear BK142)
    (try clear BK143)
    (try clear BK146)
    (try clear BK149)
    (try clear HB)
    generalize ((w19.setCell ⟨gb149, 0, none⟩ (.int .i64 t147)).setCell ⟨gb149, 1, none⟩ (.int .i64 t148)) = w44 at n0_ n1_ n2_ n3_ n4_ n5_ n6_ ⊢
    have BK140 := n0_
    have BK141 := n1_
    have BK142 := n2_
    have BK143 := n3_
    have BK146 := n4_
    have BK149 := n5_
    have HB := n6_
    clear n0_ n1_ n2_ n3_ n4_ n5_ n6_
    have n0_ := am (blk_drew BK140.out)
    have n1_ := am (blk_drew BK141.out)
    have n2_ := am (blk_drew BK142.out)
    have n3_ := am (blk_drew BK143.out)
    have n4_ := am (blk_drew BK146.out)
    have n5_ := am (blk_drew BK149.out)
    have n6_ := am (below_drew1 HB.out)
    clear BK140
    clear BK141
    clear BK142
    clear BK143
    clear BK146
    clear BK149
    clear HB
    have BK140 := n0_
    have BK141 := n1_
    have BK142 := n2_
    have BK143 := n3_
    have BK146 := n4_
    have BK149 := n5_
    have HB := n6_
    clear n0_ n1_ n2_ n3_ n4_ n5_ n6_
    refine start_ (n := 18) (S := fun w' => w'.cell? ⟨gb140, 0, none⟩ = some (.int .i64 a1_0) ∧ w'.cell? ⟨gb140, 1, none⟩ = some (.int .i64 a1_1) ∧ w'.cell? ⟨gb141, 0, none⟩ = some (.int .i64 a2_0) ∧ w'.cell? ⟨gb141, 1, none⟩ = some (.int .i64 a2_1)) (ds := []) #[F, F, F, F, F, F, F, F, F, F, F, F, F, F, F, F, F, F] (by kernel_rfl) rfl rfl ⟨bc BK140 0, bc BK140 1, bc BK141 0, bc BK141 1⟩ (fun hHeld => ?_); refine with_tabW spec_RangeCmp.tab3 spec_RangeCmp.bits3 (fun HT_ HW_ => ?_)
    generalize w44.drew = w45 at BK140 BK141 BK142 BK143 BK146 BK149 HB hHeld ⊢
    refine take_ (i := 0) (N := some 12) (v := ?_) (a' := ?_) #[T, F, F, F, F, F, F, F, F, F, F, F, F, F, F, F, F, F] rfl rfl (take_ofW HT_.out HW_.out (by kernel_rfl)) (fun _ _ _ h => h) (Or.inl ⟨by rfl, ?_⟩) hHeld ?_ ?_
    rotate_left
    ·rintro w' ⟨s0, s1, s2, s3⟩
     go_simp
     with_reducible rfl
    rotate_left
    ·exact pz
    refine one_ (i := 1) (N := some 13) #[T, T, F, F, F, F, F, F, F, F, F, F, F, F, F, F, F, F] rfl rfl (one_of HT_.out (by kernel_rfl)) (by decide) (fun K hK => ?_)
    refine goes_ Try.func47 (by kernel_rfl) rfl #[.agg #[.int .i64 a1_0, .int .i64 a1_1]] (by rfl) rfl rfl mz ?_
    with_reducible refine (spec_RangeOk.calls a1_0 a1_1 true _ A26.out).mono ?_
    rintro e w46 ⟨rfl, hb⟩
    refine ⟨_, rfl, ?_⟩
    have n0_ := am (blk_below (g := gb140) (o := b2 a1_0 a1_1 24) (Z BK140) hb)
    have n1_ := am (blk_below (g := gb141) (o := b2 a2_0 a2_1 24) (Z BK141) hb)
    have n2_ := am (blk_below (g := gb142) (o := b2 0 0 24) (Z BK142) hb)
    have n3_ := am (blk_below (g := gb143) (o := b2 0 0 24) (Z BK143) hb)
    have n4_ := am (blk_below (g := gb146) (o := b2 t144 t145 24) (Z BK146) hb)
    have n5_ := am (blk_below (g := gb149) (o := b2 t147 t148 24) (Z BK149) hb)
    have n6_ := am (below_step (Y6 HB GE140 GE141 GE142 GE143 GE146 GE149) hb)
    clear BK140
    clear BK141
    clear BK142
    clear BK143
    clear BK146
    clear BK149
    clear HB
    have BK140 := n0_
    have BK141 := n1_
    have BK142 := n2_
    have BK143 := n3_
    have BK146 := n4_
    have BK149 := n5_
    have HB := n6_
    clear n0_ n1_ n2_ n3_ n4_ n5_ n6_
    (try clear hb)
    (try clear hb2)
    (try clear hk)
    (try clear hi)
    refine hK.out _ _ ⟨bc BK140 0, bc BK140 1, bc BK141 0, bc BK141 1⟩ (fun hHeld => ?_)
    clear hK K
    refine norm_ (a' := ?_) ?_ ?_
    rotate_left
    ·show Act.put _ (some 13) _ = _
     simp only [Act.put, List.setIfInBounds_toArray, List.set_cons_zero, List.set_cons_succ, i64_w, i32_w]
     rfl
    refine pure_ (i := 2) (N := some 14) (v := ?_) (a' := ?_) #[T, T, T, F, F, F, F, F, F, F, F, F, F, F, F, F, F, F] rfl rfl (any_of HT_.out (by kernel_rfl)) (fun _ _ _ h => h) (Or.inl ⟨by rfl, ?_⟩) ?_ ?_
    rotate_left
    ·exact gz
    rotate_left
    ·exact pz
    refine pure_ (i := 3) (N := some 15) (v := ?_) (a' := ?_) #[T, T, T, T, F, F, F, F, F, F, F, F, F, F, F, F, F, F] rfl rfl (any_of HT_.out (by kernel_rfl)) (fun _ _ _ h => h) (Or.inl ⟨by rfl, ?_⟩) ?_ ?_
    rotate_left
    ·exact gz
    rotate_left
    ·exact pz
    refine take_ (i := 4) (N := some 16) (v := ?_) (a' := ?_) #[T, T, T, T, T, F, F, F, F, F, F, F, F, F, F, F, F, F] rfl rfl (take_ofW HT_.out HW_.out (by kernel_rfl)) (fun _ _ _ h => h) (Or.inl ⟨by rfl, ?_⟩) hHeld ?_ ?_
    rotate_left
    ·rintro w' ⟨s0, s1, s2, s3⟩
     go_simp
     with_reducible rfl
    rotate_left
    ·exact pz
    refine one_ (i := 5) (N := some 17) #[T, T, T, T, T, T, F, F, F, F, F, F, F, F, F, F, F, F] rfl rfl (one_of HT_.out (by kernel_rfl)) (by decide) (fun K hK => ?_)
    refine goes_ Try.func47 (by kernel_rfl) rfl #[.agg #[.int .i64 a2_0, .int .i64 a2_1]] (by rfl) rfl rfl mz ?_
    with_reducible refine (spec_RangeOk.calls a2_0 a2_1 false _ A28.out).mono ?_
    rintro e w47 ⟨rfl, hb⟩
    refine ⟨_, rfl, ?_⟩
    have n0_ := am (blk_below (g := gb140) (o := b2 a1_0 a1_1 24) (Z BK140) hb)
    have n1_ := am (blk_below (g := gb141) (o := b2 a2_0 a2_1 24) (Z BK141) hb)
    have n2_ := am (blk_below (g := gb142) (o := b2 0 0 24) (Z BK142) hb)
    have n3_ := am (blk_below (g := gb143) (o := b2 0 0 24) (Z BK143) hb)
    have n4_ := am (blk_below (g := gb146) (o := b2 t144 t145 24) (Z BK146) hb)
    have n5_ := am (blk_below (g := gb149) (o := b2 t147 t148 24) (Z BK149) hb)
    have n6_ := am (below_step (Y6 HB GE140 GE141 GE142 GE143 GE146 GE149) hb)
    clear BK140
    clear BK141
    clear BK142
    clear BK143
    clear BK146
    clear BK149
    clear HB
    have BK140 := n0_
    have BK141 := n1_
    have BK142 := n2_
    have BK143 := n3_
    have BK146 := n4_
    have BK149 := n5_
    have HB := n6_
    clear n0_ n1_ n2_ n3_ n4_ n5_ n6_
    (try clear hb)
    (try clear hb2)
    (try clear hk)
    (try clear hi)
    refine hK.out _ _ ⟨bc BK140 0, bc BK140 1, bc BK141 0, bc BK141 1⟩ (fun hHeld => ?_)
    clear hK K
    refine norm_ (a' := ?_) ?_ ?_
    rotate_left
    ·show Act.put _ (some 17) _ = _
     simp only [Act.put, List.setIfInBounds_toArray, List.set_cons_zero, List.set_cons_succ, i64_w, i32_w]
     rfl
    refine pure_ (i := 6) (N := some 18) (v := ?_) (a' := ?_) #[T, T, T, T, T, T, T, F, F, F, F, F, F, F, F, F, F, F] rfl rfl (any_of HT_.out (by kernel_rfl)) (fun _ _ _ h => h) (Or.inl ⟨by rfl, ?_⟩) ?_ ?_
    rotate_left
    ·exact gz
    rotate_left
    ·exact pz
    refine pure_ (i := 7) (N := some 19) (v := ?_) (a' := ?_) #[T, T, T, T, T, T, T, T, F, F, F, F, F, F, F, F, F, F] rfl rfl (any_of HT_.out (by kernel_rfl)) (fun _ _ _ h => h) (Or.inl ⟨by rfl, ?_⟩) ?_ ?_
    rotate_left
    ·exact gz
    rotate_left
    ·exact pz
    refine pure_ (i := 8) (N := some 20) (v := ?_) (a' := ?_) #[T, T, T, T, T, T, T, T, T, F, F, F, F, F, F, F, F, F] rfl rfl (any_of HT_.out (by kernel_rfl)) (fun _ _ _ h => h) (Or.inl ⟨by rfl, ?_⟩) ?_ ?_
    rotate_left
    ·exact gz
    rotate_left
    ·exact pz
    refine pure_ (i := 9) (N := some 21) (v := undef) (a' := ?_) #[T, T, T, T, T, T, T, T, T, T, F, F, F, F, F, F, F, F] rfl rfl (any_of HT_.out (by kernel_rfl)) (fun _ _ _ h => h) (Or.inr ⟨by rfl, rfl⟩) ?_ ?_
    rotate_left
    ·exact pz
    refine pure_ (i := 10) (N := some 22) (v := undef) (a' := ?_) #[T, T, T, T, T, T, T, T, T, T, T, F, F, F, F, F, F, F] rfl rfl (any_of HT_.out (by kernel_rfl)) (fun _ _ _ h => h) (Or.inr ⟨by rfl, rfl⟩) ?_ ?_
    rotate_left
    ·exact pz
    refine pure_ (i := 11) (N := some 23) (v := undef) (a' := ?_) #[T, T, T, T, T, T, T, T, T, T, T, T, F, F, F, F, F, F] rfl rfl (any_of HT_.out (by kernel_rfl)) (fun _ _ _ h => h) (Or.inr ⟨by rfl, rfl⟩) ?_ ?_
    rotate_left
    ·exact pz
    refine pure_ (i := 12) (N := some 24) (v := ?_) (a' := ?_) #[T, T, T, T, T, T, T, T, T, T, T, T, T, F, F, F, F, F] rfl rfl (any_of HT_.out (by kernel_rfl)) (fun _ _ _ h => h) (Or.inl ⟨by rfl, ?_⟩) ?_ ?_
    rotate_left
    ·exact gz
    rotate_left
    ·exact pz
    refine pure_ (i := 13) (N := some 25) (v := ?_) (a' := ?_) #[T, T, T, T, T, T, T, T, T, T, T, T, T, T, F, F, F, F] rfl rfl (any_of HT_.out (by kernel_rfl)) (fun _ _ _ h => h) (Or.inl ⟨by rfl, ?_⟩) ?_ ?_
    rotate_left
    ·exact gz
    rotate_left
    ·exact pz
    refine pure_ (i := 14) (N := some 26) (v := undef) (a' := ?_) #[T, T, T, T, T, T, T, T, T, T, T, T, T, T, T, F, F, F] rfl rfl (any_of HT_.out (by kernel_rfl)) (fun _ _ _ h => h) (Or.inr ⟨by rfl, rfl⟩) ?_ ?_
    rotate_left
    ·exact pz
    refine pure_ (i := 15) (N := some 27) (v := undef) (a' := ?_) #[T, T, T, T, T, T, T, T, T, T, T, T, T, T, T, T, F, F] rfl rfl (any_of HT_.out (by kernel_rfl)) (fun _ _ _ h => h) (Or.inr ⟨by rfl, rfl⟩) ?_ ?_
    rotate_left
    ·exact pz
    refine pure_ (i := 16) (N := some 28) (v := undef) (a' := ?_) #[T, T, T, T, T, T, T, T, T, T, T, T, T, T, T, T, T, F] rfl rfl (any_of HT_.out (by kernel_rfl)) (fun _ _ _ h => h) (Or.inr ⟨by rfl, rfl⟩) ?_ ?_
    rotate_left
    ·exact pz
    refine pure_ (i := 17) (N := some 29) (v := ?_) (a' := ?_) #[T, T, T, T, T, T, T, T, T, T, T, T, T, T, T, T, T, T] rfl rfl (any_of HT_.out (by kernel_rfl)) (fun _ _ _ h => h) (Or.inl ⟨by rfl, ?_⟩) ?_ ?_
    rotate_left
    ·exact gz
    rotate_left
    ·exact pz
    refine done_ (done_of HT_.out (by kernel_rfl)) ?_
    try go_wp2
    go_meet
    case rel => exact ⟨_, (true), (by first | rfl | (simp; done) | (simp [*]; done)), H', ⟨by first | omega | exact Nat.le_refl _⟩, ⟨Z BK140⟩, ⟨Z BK141⟩, ⟨Z BK142⟩, ⟨Z BK143⟩, ⟨Z BK146⟩, ⟨Z BK149⟩, ⟨Y6 HB GE140 GE141 GE142 GE143 GE146 GE149⟩⟩
  ·replace c27 := Bool.eq_false_iff.mpr c27
   subst c27
   have H1 : (spec_RangeCmp.j0 k a0 true a1_0 a1_1 a2_0 a2_1 t144 t145 t147 t148) = some (r1, r2, r3, r4) := by rw [if_neg (show ¬ (false = true) by decide)] at H; exact H
   clear H
   have H := H1
   clear H1
   have H' := am H
   clear H
   try go_wp2
   have n0_ : Aside0 (((w19.setCell ⟨gb149, 0, none⟩ (.int .i64 t147)).setCell ⟨gb149, 1, none⟩ (.int .i64 t148)).heap[gb140]? = some (.cells #[.int .i64 a1_0, .int .i64 a1_1] 24 (0, 0))) := ⟨by (with_reducible repeat (first | refine blk_drewN ?_ _ | refine blk_drew ?_ | refine blk_alloc ?_ _)); refine blk_far ?_ NB140_149.out _; (with_reducible repeat (first | refine blk_drewN ?_ _ | refine blk_drew ?_ | refine blk_alloc ?_ _)); refine blk_far ?_ NB140_149.out _; (with_reducible repeat (first | refine blk_drewN ?_ _ | refine blk_drew ?_ | refine blk_alloc ?_ _)); exact BK140.out⟩
   have n1_ : Aside0 (((w19.setCell ⟨gb149, 0, none⟩ (.int .i64 t147)).setCell ⟨gb149, 1, none⟩ (.int .i64 t148)).heap[gb141]? = some (.cells #[.int .i64 a2_0, .int .i64 a2_1] 24 (0, 0))) := ⟨by (with_reducible repeat (first | refine blk_drewN ?_ _ | refine blk_drew ?_ | refine blk_alloc ?_ _)); refine blk_far ?_ NB141_149.out _; (with_reducible repeat (first | refine blk_drewN ?_ _ | refine blk_drew ?_ | refine blk_alloc ?_ _)); refine blk_far ?_ NB141_149.out _; (with_reducible repeat (first | refine blk_drewN ?_ _ | refine blk_drew ?_ | refine blk_alloc ?_ _)); exact BK141.out⟩
   have n2_ : Aside0 (((w19.setCell ⟨gb149, 0, none⟩ (.int .i64 t147)).setCell ⟨gb149, 1, none⟩ (.int .i64 t148)).heap[gb142]? = some (.cells #[.int .i64 0, .int .i64 0] 24 (0, 0))) := ⟨by (with_reducible repeat (first | refine blk_drewN ?_ _ | refine blk_drew ?_ | refine blk_alloc ?_ _)); refine blk_far ?_ NB142_149.out _; (with_reducible repeat (first | refine blk_drewN ?_ _ | refine blk_drew ?_ | refine blk_alloc ?_ _)); refine blk_far ?_ NB142_149.out _; (with_reducible repeat (first | refine blk_drewN ?_ _ | refine blk_drew ?_ | refine blk_alloc ?_ _)); exact BK142.out⟩
   have n3_ : Aside0 (((w19.setCell ⟨gb149, 0, none⟩ (.int .i64 t147)).setCell ⟨gb149, 1, none⟩ (.int .i64 t148)).heap[gb143]? = some (.cells #[.int .i64 0, .int .i64 0] 24 (0, 0))) := ⟨by (with_reducible repeat (first | refine blk_drewN ?_ _ | refine blk_drew ?_ | refine blk_alloc ?_ _)); refine blk_far ?_ NB143_149.out _; (with_reducible repeat (first | refine blk_drewN ?_ _ | refine blk_drew ?_ | refine blk_alloc ?_ _)); refine blk_far ?_ NB143_149.out _; (with_reducible repeat (first | refine blk_drewN ?_ _ | refine blk_drew ?_ | refine blk_alloc ?_ _)); exact BK143.out⟩
   have n4_ : Aside0 (((w19.setCell ⟨gb149, 0, none⟩ (.int .i64 t147)).setCell ⟨gb149, 1, none⟩ (.int .i64 t148)).heap[gb146]? = some (.cells #[.int .i64 t144, .int .i64 t145] 24 (0, 0))) := ⟨by (with_reducible repeat (first | refine blk_drewN ?_ _ | refine blk_drew ?_ | refine blk_alloc ?_ _)); refine blk_far ?_ NB146_149.out _; (with_reducible repeat (first | refine blk_drewN ?_ _ | refine blk_drew ?_ | refine blk_alloc ?_ _)); refine blk_far ?_ NB146_149.out _; (with_reducible repeat (first | refine blk_drewN ?_ _ | refine blk_drew ?_ | refine blk_alloc ?_ _)); exact BK146.out⟩
   have n5_ : Aside0 (((w19.setCell ⟨gb149, 0, none⟩ (.int .i64 t147)).setCell ⟨gb149, 1, none⟩ (.int .i64 t148)).heap[gb149]? = some (.cells #[.int .i64 t147, .int .i64 t148] 24 (0, 0))) := ⟨by (with_reducible repeat (first | refine blk_drewN ?_ _ | refine blk_drew ?_ | refine blk_alloc ?_ _)); refine blk_put (cs := #[.int .i64 t147, .int .i64 0]) ?_ 1 _ rfl; (with_reducible repeat (first | refine blk_drewN ?_ _ | refine blk_drew ?_ | refine blk_alloc ?_ _)); refine blk_put (cs := #[.int .i64 0, .int .i64 0]) ?_ 0 _ rfl; (with_reducible repeat (first | refine blk_drewN ?_ _ | refine blk_drew ?_ | refine blk_alloc ?_ _)); exact BK149.out⟩
   have n6_ : Aside0 (Below w.heap.size w ((w19.setCell ⟨gb149, 0, none⟩ (.int .i64 t147)).setCell ⟨gb149, 1, none⟩ (.int .i64 t148))) := ⟨Y6 HB GE140 GE141 GE142 GE143 GE146 GE149⟩
   (try clear BK140)
   (try clear BK141)
   (try clear BK142)
   (try clear BK143)
   (try clear BK146)
   (try clear BK149)
   (try clear HB)
   generalize ((w19.setCell ⟨gb149, 0, none⟩ (.int .i64 t147)).setCell ⟨gb149, 1, none⟩ (.int .i64 t148)) = w48 at n0_ n1_ n2_ n3_ n4_ n5_ n6_ ⊢
   have BK140 := n0_
   have BK141 := n1_
   have BK142 := n2_
   have BK143 := n3_
   have BK146 := n4_
   have BK149 := n5_
   have HB := n6_
   clear n0_ n1_ n2_ n3_ n4_ n5_ n6_
   have n0_ := am (blk_drew BK140.out)
   have n1_ := am (blk_drew BK141.out)
   have n2_ := am (blk_drew BK142.out)
   have n3_ := am (blk_drew BK143.out)
   have n4_ := am (blk_drew BK146.out)
   have n5_ := am (blk_drew BK149.out)
   have n6_ := am (below_drew1 HB.out)
   clear BK140
   clear BK141
   clear BK142
   clear BK143
   clear BK146
   clear BK149
   clear HB
   have BK140 := n0_
   have BK141 := n1_
   have BK142 := n2_
   have BK143 := n3_
   have BK146 := n4_
   have BK149 := n5_
   have HB := n6_
   clear n0_ n1_ n2_ n3_ n4_ n5_ n6_
   refine start_ (n := 18) (S := fun w' => w'.cell? ⟨gb140, 0, none⟩ = some (.int .i64 a1_0) ∧ w'.cell? ⟨gb140, 1, none⟩ = some (.int .i64 a1_1)) (ds := []) #[F, F, F, F, F, F, F, F, F, F, F, F, F, F, F, F, F, F] (by kernel_rfl) rfl rfl ⟨bc BK140 0, bc BK140 1⟩ (fun hHeld => ?_); refine with_tabW spec_RangeCmp.tab3 spec_RangeCmp.bits3 (fun HT_ HW_ => ?_)
   generalize w48.drew = w49 at BK140 BK141 BK142 BK143 BK146 BK149 HB hHeld ⊢
   refine take_ (i := 0) (N := some 12) (v := ?_) (a' := ?_) #[T, F, F, F, F, F, F, F, F, F, F, F, F, F, F, F, F, F] rfl rfl (take_ofW HT_.out HW_.out (by kernel_rfl)) (fun _ _ _ h => h) (Or.inl ⟨by rfl, ?_⟩) hHeld ?_ ?_
   rotate_left
   ·rintro w' ⟨s0, s1⟩
    go_simp
    with_reducible rfl
   rotate_left
   ·exact pz
   refine one_ (i := 1) (N := some 13) #[T, T, F, F, F, F, F, F, F, F, F, F, F, F, F, F, F, F] rfl rfl (one_of HT_.out (by kernel_rfl)) (by decide) (fun K hK => ?_)
   refine goes_ Try.func47 (by kernel_rfl) rfl #[.agg #[.int .i64 a1_0, .int .i64 a1_1]] (by rfl) rfl rfl mz ?_
   with_reducible refine (spec_RangeOk.calls a1_0 a1_1 false _ A26.out).mono ?_
   rintro e w50 ⟨rfl, hb⟩
   refine ⟨_, rfl, ?_⟩
   have n0_ := am (blk_below (g := gb140) (o := b2 a1_0 a1_1 24) (Z BK140) hb)
   have n1_ := am (blk_below (g := gb141) (o := b2 a2_0 a2_1 24) (Z BK141) hb)
   have n2_ := am (blk_below (g := gb142) (o := b2 0 0 24) (Z BK142) hb)
   have n3_ := am (blk_below (g := gb143) (o := b2 0 0 24) (Z BK143) hb)
   have n4_ := am (blk_below (g := gb146) (o := b2 t144 t145 24) (Z BK146) hb)
   have n5_ := am (blk_below (g := gb149) (o := b2 t147 t148 24) (Z BK149) hb)
   have n6_ := am (below_step (Y6 HB GE140 GE141 GE142 GE143 GE146 GE149) hb)
   clear BK140
   clear BK141
   clear BK142
   clear BK143
   clear BK146
   clear BK149
   clear HB
   have BK140 := n0_
   have BK141 := n1_
   have BK142 := n2_
   have BK143 := n3_
   have BK146 := n4_
   have BK149 := n5_
   have HB := n6_
   clear n0_ n1_ n2_ n3_ n4_ n5_ n6_
   (try clear hb)
   (try clear hb2)
   (try clear hk)
   (try clear hi)
   refine hK.out _ _ ⟨bc BK140 0, bc BK140 1⟩ (fun hHeld => ?_)
   clear hK K
   refine norm_ (a' := ?_) ?_ ?_
   rotate_left
   ·show Act.put _ (some 13) _ = _
    simp only [Act.put, List.setIfInBounds_toArray, List.set_cons_zero, List.set_cons_succ, i64_w, i32_w]
    rfl
   refine pure_ (i := 2) (N := some 14) (v := ?_) (a' := ?_) #[T, T, T, F, F, F, F, F, F, F, F, F, F, F, F, F, F, F] rfl rfl (any_of HT_.out (by kernel_rfl)) (fun _ _ _ h => h) (Or.inl ⟨by rfl, ?_⟩) ?_ ?_
   rotate_left
   ·exact gz
   rotate_left
   ·exact pz
   refine pure_ (i := 3) (N := some 15) (v := ?_) (a' := ?_) #[T, T, T, T, F, F, F, F, F, F, F, F, F, F, F, F, F, F] rfl rfl (any_of HT_.out (by kernel_rfl)) (fun _ _ _ h => h) (Or.inl ⟨by rfl, ?_⟩) ?_ ?_
   rotate_left
   ·exact gz
   rotate_left
   ·exact pz
   refine pure_ (i := 4) (N := some 16) (v := undef) (a' := ?_) #[T, T, T, T, T, F, F, F, F, F, F, F, F, F, F, F, F, F] rfl rfl (any_of HT_.out (by kernel_rfl)) (fun _ _ _ h => h) (Or.inr ⟨by rfl, rfl⟩) ?_ ?_
   rotate_left
   ·exact pz
   refine pure_ (i := 5) (N := some 17) (v := undef) (a' := ?_) #[T, T, T, T, T, T, F, F, F, F, F, F, F, F, F, F, F, F] rfl rfl (any_of HT_.out (by kernel_rfl)) (fun _ _ _ h => h) (Or.inr ⟨by rfl, rfl⟩) ?_ ?_
   rotate_left
   ·exact pz
   refine pure_ (i := 6) (N := some 18) (v := undef) (a' := ?_) #[T, T, T, T, T, T, T, F, F, F, F, F, F, F, F, F, F, F] rfl rfl (any_of HT_.out (by kernel_rfl)) (fun _ _ _ h => h) (Or.inr ⟨by rfl, rfl⟩) ?_ ?_
   rotate_left
   ·exact pz
   refine pure_ (i := 7) (N := some 19) (v := ?_) (a' := ?_) #[T, T, T, T, T, T, T, T, F, F, F, F, F, F, F, F, F, F] rfl rfl (any_of HT_.out (by kernel_rfl)) (fun _ _ _ h => h) (Or.inl ⟨by rfl, ?_⟩) ?_ ?_
   rotate_left
   ·exact gz
   rotate_left
   ·exact pz
   refine pure_ (i := 8) (N := some 20) (v := ?_) (a' := ?_) #[T, T, T, T, T, T, T, T, T, F, F, F, F, F, F, F, F, F] rfl rfl (any_of HT_.out (by kernel_rfl)) (fun _ _ _ h => h) (Or.inl ⟨by rfl, ?_⟩) ?_ ?_
   rotate_left
   ·exact gz
   rotate_left
   ·exact pz
   refine pure_ (i := 9) (N := some 21) (v := undef) (a' := ?_) #[T, T, T, T, T, T, T, T, T, T, F, F, F, F, F, F, F, F] rfl rfl (any_of HT_.out (by kernel_rfl)) (fun _ _ _ h => h) (Or.inr ⟨by rfl, rfl⟩) ?_ ?_
   rotate_left
   ·exact pz
   refine pure_ (i := 10) (N := some 22) (v := undef) (a' := ?_) #[T, T, T, T, T, T, T, T, T, T, T, F, F, F, F, F, F, F] rfl rfl (any_of HT_.out (by kernel_rfl)) (fun _ _ _ h => h) (Or.inr ⟨by rfl, rfl⟩) ?_ ?_
   rotate_left
   ·exact pz
   refine pure_ (i := 11) (N := some 23) (v := undef) (a' := ?_) #[T, T, T, T, T, T, T, T, T, T, T, T, F, F, F, F, F, F] rfl rfl (any_of HT_.out (by kernel_rfl)) (fun _ _ _ h => h) (Or.inr ⟨by rfl, rfl⟩) ?_ ?_
   rotate_left
   ·exact pz
   refine pure_ (i := 12) (N := some 24) (v := ?_) (a' := ?_) #[T, T, T, T, T, T, T, T, T, T, T, T, T, F, F, F, F, F] rfl rfl (any_of HT_.out (by kernel_rfl)) (fun _ _ _ h => h) (Or.inl ⟨by rfl, ?_⟩) ?_ ?_
   rotate_left
   ·exact gz
   rotate_left
   ·exact pz
   refine pure_ (i := 13) (N := some 25) (v := ?_) (a' := ?_) #[T, T, T, T, T, T, T, T, T, T, T, T, T, T, F, F, F, F] rfl rfl (any_of HT_.out (by kernel_rfl)) (fun _ _ _ h => h) (Or.inl ⟨by rfl, ?_⟩) ?_ ?_
   rotate_left
   ·exact gz
   rotate_left
   ·exact pz
   refine pure_ (i := 14) (N := some 26) (v := undef) (a' := ?_) #[T, T, T, T, T, T, T, T, T, T, T, T, T, T, T, F, F, F] rfl rfl (any_of HT_.out (by kernel_rfl)) (fun _ _ _ h => h) (Or.inr ⟨by rfl, rfl⟩) ?_ ?_
   rotate_left
   ·exact pz
   refine pure_ (i := 15) (N := some 27) (v := undef) (a' := ?_) #[T, T, T, T, T, T, T, T, T, T, T, T, T, T, T, T, F, F] rfl rfl (any_of HT_.out (by kernel_rfl)) (fun _ _ _ h => h) (Or.inr ⟨by rfl, rfl⟩) ?_ ?_
   rotate_left
   ·exact pz
   refine pure_ (i := 16) (N := some 28) (v := undef) (a' := ?_) #[T, T, T, T, T, T, T, T, T, T, T, T, T, T, T, T, T, F] rfl rfl (any_of HT_.out (by kernel_rfl)) (fun _ _ _ h => h) (Or.inr ⟨by rfl, rfl⟩) ?_ ?_
   rotate_left
   ·exact pz
   refine pure_ (i := 17) (N := some 29) (v := ?_) (a' := ?_) #[T, T, T, T, T, T, T, T, T, T, T, T, T, T, T, T, T, T] rfl rfl (any_of HT_.out (by kernel_rfl)) (fun _ _ _ h => h) (Or.inl ⟨by rfl, ?_⟩) ?_ ?_
   rotate_left
   ·exact gz
   rotate_left
   ·exact pz
   refine done_ (done_of HT_.out (by kernel_rfl)) ?_
   try go_wp2
   go_meet
   case rel => exact ⟨_, (true), (by first | rfl | (simp; done) | (simp [*]; done)), H', ⟨by first | omega | exact Nat.le_refl _⟩, ⟨Z BK140⟩, ⟨Z BK141⟩, ⟨Z BK142⟩, ⟨Z BK143⟩, ⟨Z BK146⟩, ⟨Z BK149⟩, ⟨Y6 HB GE140 GE141 GE142 GE143 GE146 GE149⟩⟩
 case rest =>
  clear HC6
  try clear c2
  try clear p2
  try clear c4
  try clear c27
  try clear c29
  try clear c47
  try clear c48
  obtain ⟨kq, x29_5, rfl, HA, HJ5, BK140, BK141, BK142, BK143, BK146, BK149, HB⟩ := hcut
  cases kq with
  | zero => exact absurd HA.out (by simp [spec_RangeCmp.j0])
  | succ kj5 =>
   have H := HA.out
   clear HA
   simp only [spec_RangeCmp.j0] at H
   by_cases c51 : x29_5 = true
   ·subst c51
    have H1 : (some (t144, t145, t147, t148)) = some (r1, r2, r3, r4) := by rw [if_pos rfl] at H; exact H
    clear H
    have H := H1
    clear H1
    simp only [Option.some.injEq, Prod.mk.injEq] at H
    obtain ⟨rfl, rfl, rfl, rfl⟩ := H
    try go_wp2
    have n0_ := am (blk_drew BK140.out)
    have n1_ := am (blk_drew BK141.out)
    have n2_ := am (blk_drew BK142.out)
    have n3_ := am (blk_drew BK143.out)
    have n4_ := am (blk_drew BK146.out)
    have n5_ := am (blk_drew BK149.out)
    have n6_ := am (below_drew1 HB.out)
    clear BK140
    clear BK141
    clear BK142
    clear BK143
    clear BK146
    clear BK149
    clear HB
    have BK140 := n0_
    have BK141 := n1_
    have BK142 := n2_
    have BK143 := n3_
    have BK146 := n4_
    have BK149 := n5_
    have HB := n6_
    clear n0_ n1_ n2_ n3_ n4_ n5_ n6_
    refine start_ (n := 4) (S := fun w' => w'.cell? ⟨gb146, 0, none⟩ = some (.int .i64 t144) ∧ w'.cell? ⟨gb146, 1, none⟩ = some (.int .i64 t145) ∧ w'.cell? ⟨gb149, 0, none⟩ = some (.int .i64 t147) ∧ w'.cell? ⟨gb149, 1, none⟩ = some (.int .i64 t148)) (ds := []) #[F, F, F, F] (by kernel_rfl) rfl rfl ⟨bc BK146 0, bc BK146 1, bc BK149 0, bc BK149 1⟩ (fun hHeld => ?_)
    generalize wc.drew = w52 at BK140 BK141 BK142 BK143 BK146 BK149 HB hHeld ⊢
    refine take_ (i := 0) (N := some 30) (v := ?_) (a' := ?_) #[T, F, F, F] rfl rfl (by kernel_rfl) (fun _ _ _ h => h) (Or.inl ⟨by rfl, ?_⟩) hHeld ?_ ?_
    rotate_left
    ·rintro w' ⟨s0, s1, s2, s3⟩
     go_simp
     with_reducible rfl
    rotate_left
    ·exact pz
    refine take_ (i := 1) (N := some 31) (v := ?_) (a' := ?_) #[T, T, F, F] rfl rfl (by kernel_rfl) (fun _ _ _ h => h) (Or.inl ⟨by rfl, ?_⟩) hHeld ?_ ?_
    rotate_left
    ·rintro w' ⟨s0, s1, s2, s3⟩
     go_simp
     with_reducible rfl
    rotate_left
    ·exact pz
    refine one_ (i := 2) (N := none) #[T, T, T, F] rfl rfl (by kernel_rfl) (by decide) (fun K hK => ?_)
    have hs53 : w52.cell? ⟨gb142, 0, none⟩ = some (.int .i64 0) := bc BK142 0
    have hfs53 := blk_frozen BK142.out 0
    have hns53_0 := NB140_142.out
    have hns53_1 := NB141_142.out
    have hns53_3 := NB143_142.out
    have hns53_4 := NB146_142.out
    have hns53_5 := NB149_142.out
    have hms53_0 := NB142_140.out
    have hms53_1 := NB142_141.out
    have hms53_3 := NB142_143.out
    have hms53_4 := NB142_146.out
    have hms53_5 := NB142_149.out
    have hs54 : w52.cell? ⟨gb142, 1, none⟩ = some (.int .i64 0) := bc BK142 1
    have hfs54 := blk_frozen BK142.out 1
    have hns54_0 := NB140_142.out
    have hns54_1 := NB141_142.out
    have hns54_3 := NB143_142.out
    have hns54_4 := NB146_142.out
    have hns54_5 := NB149_142.out
    have hms54_0 := NB142_140.out
    have hms54_1 := NB142_141.out
    have hms54_3 := NB142_143.out
    have hms54_4 := NB142_146.out
    have hms54_5 := NB142_149.out
    refine skip_ (w1 := ?_) (by rfl) rfl ?_ ?_
    rotate_left
    ·go_simp
     rfl
    refine hK.out _ _ ⟨((cell_far (p := ⟨gb142, _, none⟩) NB146_142.out _).trans (((cell_far (p := ⟨gb142, _, none⟩) NB146_142.out _).trans (hHeld.1)))), ((cell_far (p := ⟨gb142, _, none⟩) NB146_142.out _).trans (((cell_far (p := ⟨gb142, _, none⟩) NB146_142.out _).trans (hHeld.2.1)))), ((cell_far (p := ⟨gb142, _, none⟩) NB149_142.out _).trans (((cell_far (p := ⟨gb142, _, none⟩) NB149_142.out _).trans (hHeld.2.2.1)))), ((cell_far (p := ⟨gb142, _, none⟩) NB149_142.out _).trans (((cell_far (p := ⟨gb142, _, none⟩) NB149_142.out _).trans (hHeld.2.2.2))))⟩ (fun hHeld => ?_)
    clear hK K
    refine one_ (i := 3) (N := none) #[T, T, T, T] rfl rfl (by kernel_rfl) (by decide) (fun K hK => ?_)
    have hs55 : w52.cell? ⟨gb143, 0, none⟩ = some (.int .i64 0) := bc BK143 0
    have hfs55 := blk_frozen BK143.out 0
    have hns55_0 := NB140_143.out
    have hns55_1 := NB141_143.out
    have hns55_2 := NB142_143.out
    have hns55_4 := NB146_143.out
    have hns55_5 := NB149_143.out
    have hms55_0 := NB143_140.out
    have hms55_1 := NB143_141.out
    have hms55_2 := NB143_142.out
    have hms55_4 := NB143_146.out
    have hms55_5 := NB143_149.out
    have hs56 : w52.cell? ⟨gb143, 1, none⟩ = some (.int .i64 0) := bc BK143 1
    have hfs56 := blk_frozen BK143.out 1
    have hns56_0 := NB140_143.out
    have hns56_1 := NB141_143.out
    have hns56_2 := NB142_143.out
    have hns56_4 := NB146_143.out
    have hns56_5 := NB149_143.out
    have hms56_0 := NB143_140.out
    have hms56_1 := NB143_141.out
    have hms56_2 := NB143_142.out
    have hms56_4 := NB143_146.out
    have hms56_5 := NB143_149.out
    refine skip_ (w1 := ?_) (by rfl) rfl ?_ ?_
    rotate_left
    ·go_simp
     rfl
    refine hK.out _ _ ⟨((cell_far (p := ⟨gb143, _, none⟩) NB146_143.out _).trans (((cell_far (p := ⟨gb143, _, none⟩) NB146_143.out _).trans (hHeld.1)))), ((cell_far (p := ⟨gb143, _, none⟩) NB146_143.out _).trans (((cell_far (p := ⟨gb143, _, none⟩) NB146_143.out _).trans (hHeld.2.1)))), ((cell_far (p := ⟨gb143, _, none⟩) NB149_143.out _).trans (((cell_far (p := ⟨gb143, _, none⟩) NB149_143.out _).trans (hHeld.2.2.1)))), ((cell_far (p := ⟨gb143, _, none⟩) NB149_143.out _).trans (((cell_far (p := ⟨gb143, _, none⟩) NB149_143.out _).trans (hHeld.2.2.2))))⟩ (fun hHeld => ?_)
    clear hK K
    refine done_ (by kernel_rfl) ?_
    try go_wp2
    refine bodyPost_ret (results_cc rfl _ _ gb142 gb143 24 24 #[.int .i64 t144, .int .i64 t145] #[.int .i64 t147, .int .i64 t148] (0, 0) (0, 0) _ _ rfl (by (with_reducible repeat (first | refine blk_drewN ?_ _ | refine blk_drew ?_ | refine blk_alloc ?_ _)); refine blk_far ?_ NB142_143.out _; (with_reducible repeat (first | refine blk_drewN ?_ _ | refine blk_drew ?_ | refine blk_alloc ?_ _)); refine blk_far ?_ NB142_143.out _; (with_reducible repeat (first | refine blk_drewN ?_ _ | refine blk_drew ?_ | refine blk_alloc ?_ _)); refine blk_put (cs := #[.int .i64 t144, .int .i64 0]) ?_ 1 _ rfl; (with_reducible repeat (first | refine blk_drewN ?_ _ | refine blk_drew ?_ | refine blk_alloc ?_ _)); refine blk_put (cs := #[.int .i64 0, .int .i64 0]) ?_ 0 _ rfl; (with_reducible repeat (first | refine blk_drewN ?_ _ | refine blk_drew ?_ | refine blk_alloc ?_ _)); exact BK142.out) Try.underlying24 rfl (by kernel_rfl) rfl (by (with_reducible repeat (first | refine blk_drewN ?_ _ | refine blk_drew ?_ | refine blk_alloc ?_ _)); refine blk_put (cs := #[.int .i64 t147, .int .i64 0]) ?_ 1 _ rfl; (with_reducible repeat (first | refine blk_drewN ?_ _ | refine blk_drew ?_ | refine blk_alloc ?_ _)); refine blk_put (cs := #[.int .i64 0, .int .i64 0]) ?_ 0 _ rfl; (with_reducible repeat (first | refine blk_drewN ?_ _ | refine blk_drew ?_ | refine blk_alloc ?_ _)); refine blk_far ?_ NB143_142.out _; (with_reducible repeat (first | refine blk_drewN ?_ _ | refine blk_drew ?_ | refine blk_alloc ?_ _)); refine blk_far ?_ NB143_142.out _; (with_reducible repeat (first | refine blk_drewN ?_ _ | refine blk_drew ?_ | refine blk_alloc ?_ _)); exact BK143.out) Try.underlying24 rfl (by kernel_rfl)) rfl ?_
    exact ⟨by first | rfl | (simp [errW_none, errW_some] <;> rfl) | (simp [*, errW_none, errW_some] <;> rfl), Y6 HB GE140 GE141 GE142 GE143 GE146 GE149⟩
   ·replace c51 := Bool.eq_false_iff.mpr c51
    subst c51
    have H1 : (if a0 = 1 then ((spec_RangeMeet.f kj5 a1_0 a1_1 a2_0 a2_1).bind fun bt156 => (spec_RangeCmp.j1 kj5 a0 a1_0 a1_1 a2_0 a2_1 bt156.1 bt156.2 bt156.1 bt156.2)) else (spec_RangeCmp.j1 kj5 a0 a1_0 a1_1 a2_0 a2_1 t144 t145 t147 t148)) = some (r1, r2, r3, r4) := by rw [if_neg (show ¬ (false = true) by decide)] at H; exact H
    clear H
    have H := H1
    clear H1
    have HC57 := am H
    clear H
    go_upto_if 33 with (fail)
    go_cut [] (fun wc => ∃ (kq : Nat) (x147000_56 : Int) (x147001_56 : Int) (x150000_56 : Int) (x150001_56 : Int), Aside0 (spec_RangeCmp.j1 kq a0 a1_0 a1_1 a2_0 a2_1 x147000_56 x147001_56 x150000_56 x150001_56 = some (r1, r2, r3, r4)) ∧ Aside0 (kq ≤ kj5) ∧ Aside0 (wc.heap[gb140]? = some (.cells #[.int .i64 a1_0, .int .i64 a1_1] 24 (0, 0))) ∧ Aside0 (wc.heap[gb141]? = some (.cells #[.int .i64 a2_0, .int .i64 a2_1] 24 (0, 0))) ∧ Aside0 (wc.heap[gb142]? = some (.cells #[.int .i64 0, .int .i64 0] 24 (0, 0))) ∧ Aside0 (wc.heap[gb143]? = some (.cells #[.int .i64 0, .int .i64 0] 24 (0, 0))) ∧ Aside0 (wc.heap[gb146]? = some (.cells #[.int .i64 x147000_56, .int .i64 x147001_56] 24 (0, 0))) ∧ Aside0 (wc.heap[gb149]? = some (.cells #[.int .i64 x150000_56, .int .i64 x150001_56] 24 (0, 0))) ∧ Aside0 (Below w.heap.size w wc))
    case first =>
     have H := HC57.out
     clear HC57
     by_cases c58 : a0 = 1
     ·rw [if_pos c58] at H
      have c58b0 : (a0 == 1) = true := beq_iff_eq.mpr c58
      have c58b1 : (a0 != 1) = false := bne_eq_false_iff_eq.mpr c58
      clear c58
      (first | rw [c58b0] | (simp only [i64_w, i32_w]; rw [c58b0]) | skip)
      replace H := Option.bind_eq_some_iff.mp H
      obtain ⟨⟨t156, t157⟩, A590, H⟩ := H
      replace H : (spec_RangeCmp.j1 kj5 a0 a1_0 a1_1 a2_0 a2_1 t156 t157 t156 t157) = some (r1, r2, r3, r4) := H
      have A59 := am A590
      clear A590
      have H' := am H
      clear H
      have hnb60 := NB140_141.out
      have hnc60 := NB141_140.out
      have hnb61 := NB140_142.out
      have hnc61 := NB142_140.out
      have hnb62 := NB140_143.out
      have hnc62 := NB143_140.out
      have hnb63 := NB140_146.out
      have hnc63 := NB146_140.out
      have hnb64 := NB140_149.out
      have hnc64 := NB149_140.out
      have hcz65_0 : wc.cell? ⟨gb140, 0, none⟩ = some (.int .i64 a1_0) := bc BK140 0
      have hcz65_1 : wc.cell? ⟨gb140, 1, none⟩ = some (.int .i64 a1_1) := bc BK140 1
      have hfz65_0 := blk_frozen BK140.out 0
      have hfz65_1 := blk_frozen BK140.out 1
      have hnb66 := NB141_142.out
      have hnc66 := NB142_141.out
      have hnb67 := NB141_143.out
      have hnc67 := NB143_141.out
      have hnb68 := NB141_146.out
      have hnc68 := NB146_141.out
      have hnb69 := NB141_149.out
      have hnc69 := NB149_141.out
      have hcz70_0 : wc.cell? ⟨gb141, 0, none⟩ = some (.int .i64 a2_0) := bc BK141 0
      have hcz70_1 : wc.cell? ⟨gb141, 1, none⟩ = some (.int .i64 a2_1) := bc BK141 1
      have hfz70_0 := blk_frozen BK141.out 0
      have hfz70_1 := blk_frozen BK141.out 1
      go_wp2_with (first | ((with_reducible refine gate_callee (f := 19) rfl ?_); refine goesL_ (some 36) rfl rfl Try.func19 (by kernel_rfl) rfl #[.agg #[.int .i64 a1_0, .int .i64 a1_1], .agg #[.int .i64 a2_0, .int .i64 a2_1]] rfl mz ?_; (with_reducible refine (spec_RangeMeet.calls kj5 a1_0 a1_1 a2_0 a2_1 t156 t157 _ A59.out).mono ?_); rintro e w71 ⟨rfl, hb⟩; refine ⟨_, rfl, ?_⟩; have n0_ := am (blk_below (g := gb140) (o := b2 a1_0 a1_1 24) (Z BK140) hb); have n1_ := am (blk_below (g := gb141) (o := b2 a2_0 a2_1 24) (Z BK141) hb); have n2_ := am (blk_below (g := gb142) (o := b2 0 0 24) (Z BK142) hb); have n3_ := am (blk_below (g := gb143) (o := b2 0 0 24) (Z BK143) hb); have n4_ := am (blk_below (g := gb146) (o := b2 t144 t145 24) (Z BK146) hb); have n5_ := am (blk_below (g := gb149) (o := b2 t147 t148 24) (Z BK149) hb); have n6_ := am (below_step (Y6 HB GE140 GE141 GE142 GE143 GE146 GE149) hb); clear BK140; clear BK141; clear BK142; clear BK143; clear BK146; clear BK149; clear HB; have BK140 := n0_; have BK141 := n1_; have BK142 := n2_; have BK143 := n3_; have BK146 := n4_; have BK149 := n5_; have HB := n6_; clear n0_ n1_ n2_ n3_ n4_ n5_ n6_; (try clear hb); (try clear hb2); (try clear hk); (try clear hi); have hnb72 := NB146_142.out; have hnc72 := NB142_146.out; have hnb73 := NB146_143.out; have hnc73 := NB143_146.out; have hnb74 := NB146_149.out; have hnc74 := NB149_146.out; have hcz75_0 : w71.cell? ⟨gb146, 0, none⟩ = some (.int .i64 t144) := bc BK146 0; have hcz75_1 : w71.cell? ⟨gb146, 1, none⟩ = some (.int .i64 t145) := bc BK146 1; have hfz75_0 := blk_frozen BK146.out 0; have hfz75_1 := blk_frozen BK146.out 1; have hnb76 := NB149_142.out; have hnc76 := NB142_149.out; have hnb77 := NB149_143.out; have hnc77 := NB143_149.out; have hcz78_0 : w71.cell? ⟨gb149, 0, none⟩ = some (.int .i64 t147) := bc BK149 0; have hcz78_1 : w71.cell? ⟨gb149, 1, none⟩ = some (.int .i64 t148) := bc BK149 1; have hfz78_0 := blk_frozen BK149.out 0; have hfz78_1 := blk_frozen BK149.out 1))
      go_meet
      case rel => exact ⟨_, (t156), (t157), (t156), (t157), H', ⟨by have := HJ5.out; first | omega | exact Nat.le_refl _⟩, ⟨by (with_reducible repeat (first | refine blk_drewN ?_ _ | refine blk_drew ?_ | refine blk_alloc ?_ _)); refine blk_far ?_ NB140_149.out _; (with_reducible repeat (first | refine blk_drewN ?_ _ | refine blk_drew ?_ | refine blk_alloc ?_ _)); refine blk_far ?_ NB140_149.out _; (with_reducible repeat (first | refine blk_drewN ?_ _ | refine blk_drew ?_ | refine blk_alloc ?_ _)); refine blk_far ?_ NB140_146.out _; (with_reducible repeat (first | refine blk_drewN ?_ _ | refine blk_drew ?_ | refine blk_alloc ?_ _)); refine blk_far ?_ NB140_146.out _; (with_reducible repeat (first | refine blk_drewN ?_ _ | refine blk_drew ?_ | refine blk_alloc ?_ _)); exact BK140.out⟩, ⟨by (with_reducible repeat (first | refine blk_drewN ?_ _ | refine blk_drew ?_ | refine blk_alloc ?_ _)); refine blk_far ?_ NB141_149.out _; (with_reducible repeat (first | refine blk_drewN ?_ _ | refine blk_drew ?_ | refine blk_alloc ?_ _)); refine blk_far ?_ NB141_149.out _; (with_reducible repeat (first | refine blk_drewN ?_ _ | refine blk_drew ?_ | refine blk_alloc ?_ _)); refine blk_far ?_ NB141_146.out _; (with_reducible repeat (first | refine blk_drewN ?_ _ | refine blk_drew ?_ | refine blk_alloc ?_ _)); refine blk_far ?_ NB141_146.out _; (with_reducible repeat (first | refine blk_drewN ?_ _ | refine blk_drew ?_ | refine blk_alloc ?_ _)); exact BK141.out⟩, ⟨by (with_reducible repeat (first | refine blk_drewN ?_ _ | refine blk_drew ?_ | refine blk_alloc ?_ _)); refine blk_far ?_ NB142_149.out _; (with_reducible repeat (first | refine blk_drewN ?_ _ | refine blk_drew ?_ | refine blk_alloc ?_ _)); refine blk_far ?_ NB142_149.out _; (with_reducible repeat (first | refine blk_drewN ?_ _ | refine blk_drew ?_ | refine blk_alloc ?_ _)); refine blk_far ?_ NB142_146.out _; (with_reducible repeat (first | refine blk_drewN ?_ _ | refine blk_drew ?_ | refine blk_alloc ?_ _)); refine blk_far ?_ NB142_146.out _; (with_reducible repeat (first | refine blk_drewN ?_ _ | refine blk_drew ?_ | refine blk_alloc ?_ _)); exact BK142.out⟩, ⟨by (with_reducible repeat (first | refine blk_drewN ?_ _ | refine blk_drew ?_ | refine blk_alloc ?_ _)); refine blk_far ?_ NB143_149.out _; (with_reducible repeat (first | refine blk_drewN ?_ _ | refine blk_drew ?_ | refine blk_alloc ?_ _)); refine blk_far ?_ NB143_149.out _; (with_reducible repeat (first | refine blk_drewN ?_ _ | refine blk_drew ?_ | refine blk_alloc ?_ _)); refine blk_far ?_ NB143_146.out _; (with_reducible repeat (first | refine blk_drewN ?_ _ | refine blk_drew ?_ | refine blk_alloc ?_ _)); refine blk_far ?_ NB143_146.out _; (with_reducible repeat (first | refine blk_drewN ?_ _ | refine blk_drew ?_ | refine blk_alloc ?_ _)); exact BK143.out⟩, ⟨by (with_reducible repeat (first | refine blk_drewN ?_ _ | refine blk_drew ?_ | refine blk_alloc ?_ _)); refine blk_far ?_ NB146_149.out _; (with_reducible repeat (first | refine blk_drewN ?_ _ | refine blk_drew ?_ | refine blk_alloc ?_ _)); refine blk_far ?_ NB146_149.out _; (with_reducible repeat (first | refine blk_drewN ?_ _ | refine blk_drew ?_ | refine blk_alloc ?_ _)); refine blk_put (cs := #[.int .i64 t156, .int .i64 t145]) ?_ 1 _ rfl; (with_reducible repeat (first | refine blk_drewN ?_ _ | refine blk_drew ?_ | refine blk_alloc ?_ _)); refine blk_put (cs := #[.int .i64 t144, .int .i64 t145]) ?_ 0 _ rfl; (with_reducible repeat (first | refine blk_drewN ?_ _ | refine blk_drew ?_ | refine blk_alloc ?_ _)); exact BK146.out⟩, ⟨by (with_reducible repeat (first | refine blk_drewN ?_ _ | refine blk_drew ?_ | refine blk_alloc ?_ _)); refine blk_put (cs := #[.int .i64 t156, .int .i64 t148]) ?_ 1 _ rfl; (with_reducible repeat (first | refine blk_drewN ?_ _ | refine blk_drew ?_ | refine blk_alloc ?_ _)); refine blk_put (cs := #[.int .i64 t147, .int .i64 t148]) ?_ 0 _ rfl; (with_reducible repeat (first | refine blk_drewN ?_ _ | refine blk_drew ?_ | refine blk_alloc ?_ _)); refine blk_far ?_ NB149_146.out _; (with_reducible repeat (first | refine blk_drewN ?_ _ | refine blk_drew ?_ | refine blk_alloc ?_ _)); refine blk_far ?_ NB149_146.out _; (with_reducible repeat (first | refine blk_drewN ?_ _ | refine blk_drew ?_ | refine blk_alloc ?_ _)); exact BK149.out⟩, ⟨Y6 HB GE140 GE141 GE142 GE143 GE146 GE149⟩⟩
     ·rw [if_neg c58] at H
      have c58b0 : (a0 == 1) = false := beq_eq_false_iff_ne.mpr c58
      have c58b1 : (a0 != 1) = true := bne_iff_ne.mpr c58
      (first | rw [c58b0] | (simp only [i64_w, i32_w]; rw [c58b0]) | skip)
      have H' := am H
      clear H
      go_wp2
      go_meet
      case rel => exact ⟨_, (t144), (t145), (t147), (t148), H', ⟨by have := HJ5.out; first | omega | exact Nat.le_refl _⟩, ⟨Z BK140⟩, ⟨Z BK141⟩, ⟨Z BK142⟩, ⟨Z BK143⟩, ⟨Z BK146⟩, ⟨Z BK149⟩, ⟨Y6 HB GE140 GE141 GE142 GE143 GE146 GE149⟩⟩
    case rest =>
     clear HC57
     try clear c1
     try clear c2
     try clear p2
     try clear c4
     try clear c5
     try clear c6
     try clear c7
     try clear c19
     try clear c27
     try clear c29
     try clear c47
     try clear c48
     try clear c51
     try clear c58
     try clear c58b0
     try clear c58b1
     try clear c60
     try clear c61
     try clear c62
     try clear c63
     try clear c64
     try clear c66
     try clear c67
     try clear c68
     try clear c69
     try clear c72
     try clear c73
     try clear c74
     try clear c76
     try clear c77
     try clear hcz65_0
     try clear hcz65_1
     try clear hcz70_0
     try clear hcz70_1
     try clear hcz75_0
     try clear hcz75_1
     try clear hcz78_0
     try clear hcz78_1
     try clear hfz65_0
     try clear hfz65_1
     try clear hfz70_0
     try clear hfz70_1
     try clear hfz75_0
     try clear hfz75_1
     try clear hfz78_0
     try clear hfz78_1
     try clear p2
     obtain ⟨kq, x147000_56, x147001_56, x150000_56, x150001_56, HA, HJ56, BK140, BK141, BK142, BK143, BK146, BK149, HB⟩ := hcut
     cases kq with
     | zero => exact absurd HA.out (by simp [spec_RangeCmp.j1])
     | succ kj56 =>
      have H := HA.out
      clear HA
      simp only [spec_RangeCmp.j1] at H
      have HC79 := am H
      clear H
      go_upto_if 39 with (fail)
      go_cut [] (fun wc => ∃ (kq : Nat) (x147000_78 : Int) (x147001_78 : Int) (x150000_78 : Int) (x150001_78 : Int), Aside0 (spec_RangeCmp.j2 kq a0 a1_0 a1_1 a2_0 a2_1 x147000_78 x147001_78 x150000_78 x150001_78 = some (r1, r2, r3, r4)) ∧ Aside0 (kq ≤ kj56) ∧ Aside0 (wc.heap[gb140]? = some (.cells #[.int .i64 a1_0, .int .i64 a1_1] 24 (0, 0))) ∧ Aside0 (wc.heap[gb141]? = some (.cells #[.int .i64 a2_0, .int .i64 a2_1] 24 (0, 0))) ∧ Aside0 (wc.heap[gb142]? = some (.cells #[.int .i64 0, .int .i64 0] 24 (0, 0))) ∧ Aside0 (wc.heap[gb143]? = some (.cells #[.int .i64 0, .int .i64 0] 24 (0, 0))) ∧ Aside0 (wc.heap[gb146]? = some (.cells #[.int .i64 x147000_78, .int .i64 x147001_78] 24 (0, 0))) ∧ Aside0 (wc.heap[gb149]? = some (.cells #[.int .i64 x150000_78, .int .i64 x150001_78] 24 (0, 0))) ∧ Aside0 (Below w.heap.size w wc))
      case first =>
       have H := HC79.out
       clear HC79
       by_cases c80 : a0 = 2
       ·rw [if_pos c80] at H
        have c80b0 : (a0 == 2) = true := beq_iff_eq.mpr c80
        have c80b1 : (a0 != 2) = false := bne_eq_false_iff_eq.mpr c80
        clear c80
        (first | rw [c80b0] | (simp only [i64_w, i32_w]; rw [c80b0]) | skip)
        replace H := Option.bind_eq_some_iff.mp H
        obtain ⟨⟨t158, t159⟩, A810, H⟩ := H
        replace H : ((spec_l8Ne.f a2_0 a2_1 a1_0 a1_1).bind fun bt160 => (spec_RangeCmp.j2 kj56 a0 a1_0 a1_1 a2_0 a2_1 t158 t159 bt160.1 bt160.2)) = some (r1, r2, r3, r4) := H
        have A81 := am A810
        clear A810
        replace H := Option.bind_eq_some_iff.mp H
        obtain ⟨⟨t160, t161⟩, A820, H⟩ := H
        replace H : (spec_RangeCmp.j2 kj56 a0 a1_0 a1_1 a2_0 a2_1 t158 t159 t160 t161) = some (r1, r2, r3, r4) := H
        have A82 := am A820
        clear A820
        have H' := am H
        clear H
        have hnb83 := NB140_141.out
        have hnc83 := NB141_140.out
        have hnb84 := NB140_142.out
        have hnc84 := NB142_140.out
        have hnb85 := NB140_143.out
        have hnc85 := NB143_140.out
        have hnb86 := NB140_146.out
        have hnc86 := NB146_140.out
        have hnb87 := NB140_149.out
        have hnc87 := NB149_140.out
        have hcz88_0 : wc.cell? ⟨gb140, 0, none⟩ = some (.int .i64 a1_0) := bc BK140 0
        have hcz88_1 : wc.cell? ⟨gb140, 1, none⟩ = some (.int .i64 a1_1) := bc BK140 1
        have hfz88_0 := blk_frozen BK140.out 0
        have hfz88_1 := blk_frozen BK140.out 1
        have hnb89 := NB141_142.out
        have hnc89 := NB142_141.out
        have hnb90 := NB141_143.out
        have hnc90 := NB143_141.out
        have hnb91 := NB141_146.out
        have hnc91 := NB146_141.out
        have hnb92 := NB141_149.out
        have hnc92 := NB149_141.out
        have hcz93_0 : wc.cell? ⟨gb141, 0, none⟩ = some (.int .i64 a2_0) := bc BK141 0
        have hcz93_1 : wc.cell? ⟨gb141, 1, none⟩ = some (.int .i64 a2_1) := bc BK141 1
        have hfz93_0 := blk_frozen BK141.out 0
        have hfz93_1 := blk_frozen BK141.out 1
        go_wp2_with (first | ((with_reducible refine gate_callee (f := 59) rfl ?_); refine goesL_ (some 42) rfl rfl Try.func59 (by kernel_rfl) rfl #[.agg #[.int .i64 a1_0, .int .i64 a1_1], .agg #[.int .i64 a2_0, .int .i64 a2_1]] rfl mz ?_; (with_reducible refine (spec_l8Ne.calls a1_0 a1_1 a2_0 a2_1 t158 t159 _ A81.out).mono ?_); rintro e w94 ⟨rfl, hb⟩; refine ⟨_, rfl, ?_⟩; have n0_ := am (blk_below (g := gb140) (o := b2 a1_0 a1_1 24) (Z BK140) hb); have n1_ := am (blk_below (g := gb141) (o := b2 a2_0 a2_1 24) (Z BK141) hb); have n2_ := am (blk_below (g := gb142) (o := b2 0 0 24) (Z BK142) hb); have n3_ := am (blk_below (g := gb143) (o := b2 0 0 24) (Z BK143) hb); have n4_ := am (blk_below (g := gb146) (o := b2 x147000_56 x147001_56 24) (Z BK146) hb); have n5_ := am (blk_below (g := gb149) (o := b2 x150000_56 x150001_56 24) (Z BK149) hb); have n6_ := am (below_step (Y6 HB GE140 GE141 GE142 GE143 GE146 GE149) hb); clear BK140; clear BK141; clear BK142; clear BK143; clear BK146; clear BK149; clear HB; have BK140 := n0_; have BK141 := n1_; have BK142 := n2_; have BK143 := n3_; have BK146 := n4_; have BK149 := n5_; have HB := n6_; clear n0_ n1_ n2_ n3_ n4_ n5_ n6_; (try clear hb); (try clear hb2); (try clear hk); (try clear hi); have hnb95 := NB146_142.out; have hnc95 := NB142_146.out; have hnb96 := NB146_143.out; have hnc96 := NB143_146.out; have hnb97 := NB146_149.out; have hnc97 := NB149_146.out; have hcz98_0 : w94.cell? ⟨gb146, 0, none⟩ = some (.int .i64 x147000_56) := bc BK146 0; have hcz98_1 : w94.cell? ⟨gb146, 1, none⟩ = some (.int .i64 x147001_56) := bc BK146 1; have hfz98_0 := blk_frozen BK146.out 0; have hfz98_1 := blk_frozen BK146.out 1; have hcz99_0 : w94.cell? ⟨gb141, 0, none⟩ = some (.int .i64 a2_0) := bc BK141 0; have hcz99_1 : w94.cell? ⟨gb141, 1, none⟩ = some (.int .i64 a2_1) := bc BK141 1; have hfz99_0 := blk_frozen BK141.out 0; have hfz99_1 := blk_frozen BK141.out 1; have hcz100_0 : w94.cell? ⟨gb140, 0, none⟩ = some (.int .i64 a1_0) := bc BK140 0; have hcz100_1 : w94.cell? ⟨gb140, 1, none⟩ = some (.int .i64 a1_1) := bc BK140 1; have hfz100_0 := blk_frozen BK140.out 0; have hfz100_1 := blk_frozen BK140.out 1) | ((with_reducible refine gate_callee (f := 59) rfl ?_); refine goesL_ (some 45) rfl rfl Try.func59 (by kernel_rfl) rfl #[.agg #[.int .i64 a2_0, .int .i64 a2_1], .agg #[.int .i64 a1_0, .int .i64 a1_1]] rfl mz ?_; (with_reducible refine (spec_l8Ne.calls a2_0 a2_1 a1_0 a1_1 t160 t161 _ A82.out).mono ?_); rintro e w101 ⟨rfl, hb⟩; refine ⟨_, rfl, ?_⟩; have n0_ := am (blk_below (g := gb140) (o := b2 a1_0 a1_1 24) (by (with_reducible repeat (first | refine blk_drewN ?_ _ | refine blk_drew ?_ | refine blk_alloc ?_ _)); refine blk_far ?_ NB140_146.out _; (with_reducible repeat (first | refine blk_drewN ?_ _ | refine blk_drew ?_ | refine blk_alloc ?_ _)); refine blk_far ?_ NB140_146.out _; (with_reducible repeat (first | refine blk_drewN ?_ _ | refine blk_drew ?_ | refine blk_alloc ?_ _)); exact BK140.out) hb); have n1_ := am (blk_below (g := gb141) (o := b2 a2_0 a2_1 24) (by (with_reducible repeat (first | refine blk_drewN ?_ _ | refine blk_drew ?_ | refine blk_alloc ?_ _)); refine blk_far ?_ NB141_146.out _; (with_reducible repeat (first | refine blk_drewN ?_ _ | refine blk_drew ?_ | refine blk_alloc ?_ _)); refine blk_far ?_ NB141_146.out _; (with_reducible repeat (first | refine blk_drewN ?_ _ | refine blk_drew ?_ | refine blk_alloc ?_ _)); exact BK141.out) hb); have n2_ := am (blk_below (g := gb142) (o := b2 0 0 24) (by (with_reducible repeat (first | refine blk_drewN ?_ _ | refine blk_drew ?_ | refine blk_alloc ?_ _)); refine blk_far ?_ NB142_146.out _; (with_reducible repeat (first | refine blk_drewN ?_ _ | refine blk_drew ?_ | refine blk_alloc ?_ _)); refine blk_far ?_ NB142_146.out _; (with_reducible repeat (first | refine blk_drewN ?_ _ | refine blk_drew ?_ | refine blk_alloc ?_ _)); exact BK142.out) hb); have n3_ := am (blk_below (g := gb143) (o := b2 0 0 24) (by (with_reducible repeat (first | refine blk_drewN ?_ _ | refine blk_drew ?_ | refine blk_alloc ?_ _)); refine blk_far ?_ NB143_146.out _; (with_reducible repeat (first | refine blk_drewN ?_ _ | refine blk_drew ?_ | refine blk_alloc ?_ _)); refine blk_far ?_ NB143_146.out _; (with_reducible repeat (first | refine blk_drewN ?_ _ | refine blk_drew ?_ | refine blk_alloc ?_ _)); exact BK143.out) hb); have n4_ := am (blk_below (g := gb146) (o := b2 t158 t159 24) (by (with_reducible repeat (first | refine blk_drewN ?_ _ | refine blk_drew ?_ | refine blk_alloc ?_ _)); refine blk_put (cs := #[.int .i64 t158, .int .i64 x147001_56]) ?_ 1 _ rfl; (with_reducible repeat (first | refine blk_drewN ?_ _ | refine blk_drew ?_ | refine blk_alloc ?_ _)); refine blk_put (cs := #[.int .i64 x147000_56, .int .i64 x147001_56]) ?_ 0 _ rfl; (with_reducible repeat (first | refine blk_drewN ?_ _ | refine blk_drew ?_ | refine blk_alloc ?_ _)); exact BK146.out) hb); have n5_ := am (blk_below (g := gb149) (o := b2 x150000_56 x150001_56 24) (by (with_reducible repeat (first | refine blk_drewN ?_ _ | refine blk_drew ?_ | refine blk_alloc ?_ _)); refine blk_far ?_ NB149_146.out _; (with_reducible repeat (first | refine blk_drewN ?_ _ | refine blk_drew ?_ | refine blk_alloc ?_ _)); refine blk_far ?_ NB149_146.out _; (with_reducible repeat (first | refine blk_drewN ?_ _ | refine blk_drew ?_ | refine blk_alloc ?_ _)); exact BK149.out) hb); have n6_ := am (below_step (Y6 HB GE140 GE141 GE142 GE143 GE146 GE149) hb); clear BK140; clear BK141; clear BK142; clear BK143; clear BK146; clear BK149; clear HB; have BK140 := n0_; have BK141 := n1_; have BK142 := n2_; have BK143 := n3_; have BK146 := n4_; have BK149 := n5_; have HB := n6_; clear n0_ n1_ n2_ n3_ n4_ n5_ n6_; (try clear hb); (try clear hb2); (try clear hk); (try clear hi); have hnb102 := NB149_142.out; have hnc102 := NB142_149.out; have hnb103 := NB149_143.out; have hnc103 := NB143_149.out; have hcz104_0 : w101.cell? ⟨gb149, 0, none⟩ = some (.int .i64 x150000_56) := bc BK149 0; have hcz104_1 : w101.cell? ⟨gb149, 1, none⟩ = some (.int .i64 x150001_56) := bc BK149 1; have hfz104_0 := blk_frozen BK149.out 0; have hfz104_1 := blk_frozen BK149.out 1))
        go_meet
        case rel => exact ⟨_, (t158), (t159), (t160), (t161), H', ⟨by have := HJ5.out; have := HJ56.out; first | omega | exact Nat.le_refl _⟩, ⟨by (with_reducible repeat (first | refine blk_drewN ?_ _ | refine blk_drew ?_ | refine blk_alloc ?_ _)); refine blk_far ?_ NB140_149.out _; (with_reducible repeat (first | refine blk_drewN ?_ _ | refine blk_drew ?_ | refine blk_alloc ?_ _)); refine blk_far ?_ NB140_149.out _; (with_reducible repeat (first | refine blk_drewN ?_ _ | refine blk_drew ?_ | refine blk_alloc ?_ _)); exact BK140.out⟩, ⟨by (with_reducible repeat (first | refine blk_drewN ?_ _ | refine blk_drew ?_ | refine blk_alloc ?_ _)); refine blk_far ?_ NB141_149.out _; (with_reducible repeat (first | refine blk_drewN ?_ _ | refine blk_drew ?_ | refine blk_alloc ?_ _)); refine blk_far ?_ NB141_149.out _; (with_reducible repeat (first | refine blk_drewN ?_ _ | refine blk_drew ?_ | refine blk_alloc ?_ _)); exact BK141.out⟩, ⟨by (with_reducible repeat (first | refine blk_drewN ?_ _ | refine blk_drew ?_ | refine blk_alloc ?_ _)); refine blk_far ?_ NB142_149.out _; (with_reducible repeat (first | refine blk_drewN ?_ _ | refine blk_drew ?_ | refine blk_alloc ?_ _)); refine blk_far ?_ NB142_149.out _; (with_reducible repeat (first | refine blk_drewN ?_ _ | refine blk_drew ?_ | refine blk_alloc ?_ _)); exact BK142.out⟩, ⟨by (with_reducible repeat (first | refine blk_drewN ?_ _ | refine blk_drew ?_ | refine blk_alloc ?_ _)); refine blk_far ?_ NB143_149.out _; (with_reducible repeat (first | refine blk_drewN ?_ _ | refine blk_drew ?_ | refine blk_alloc ?_ _)); refine blk_far ?_ NB143_149.out _; (with_reducible repeat (first | refine blk_drewN ?_ _ | refine blk_drew ?_ | refine blk_alloc ?_ _)); exact BK143.out⟩, ⟨by (with_reducible repeat (first | refine blk_drewN ?_ _ | refine blk_drew ?_ | refine blk_alloc ?_ _)); refine blk_far ?_ NB146_149.out _; (with_reducible repeat (first | refine blk_drewN ?_ _ | refine blk_drew ?_ | refine blk_alloc ?_ _)); refine blk_far ?_ NB146_149.out _; (with_reducible repeat (first | refine blk_drewN ?_ _ | refine blk_drew ?_ | refine blk_alloc ?_ _)); exact BK146.out⟩, ⟨by (with_reducible repeat (first | refine blk_drewN ?_ _ | refine blk_drew ?_ | refine blk_alloc ?_ _)); refine blk_put (cs := #[.int .i64 t160, .int .i64 x150001_56]) ?_ 1 _ rfl; (with_reducible repeat (first | refine blk_drewN ?_ _ | refine blk_drew ?_ | refine blk_alloc ?_ _)); refine blk_put (cs := #[.int .i64 x150000_56, .int .i64 x150001_56]) ?_ 0 _ rfl; (with_reducible repeat (first | refine blk_drewN ?_ _ | refine blk_drew ?_ | refine blk_alloc ?_ _)); exact BK149.out⟩, ⟨Y6 HB GE140 GE141 GE142 GE143 GE146 GE149⟩⟩
       ·rw [if_neg c80] at H
        have c80b0 : (a0 == 2) = false := beq_eq_false_iff_ne.mpr c80
        have c80b1 : (a0 != 2) = true := bne_iff_ne.mpr c80
        (first | rw [c80b0] | (simp only [i64_w, i32_w]; rw [c80b0]) | skip)
        have H' := am H
        clear H
        go_wp2
        go_meet
        case rel => exact ⟨_, (x147000_56), (x147001_56), (x150000_56), (x150001_56), H', ⟨by have := HJ5.out; have := HJ56.out; first | omega | exact Nat.le_refl _⟩, ⟨Z BK140⟩, ⟨Z BK141⟩, ⟨Z BK142⟩, ⟨Z BK143⟩, ⟨Z BK146⟩, ⟨Z BK149⟩, ⟨Y6 HB GE140 GE141 GE142 GE143 GE146 GE149⟩⟩
      case rest =>
       clear HC79
       try clear c1
       try clear c2
       try clear p2
       try clear c4
       try clear c5
       try clear c6
       try clear c7
       try clear c8
       try clear c9
       try clear c10
       try clear c19
       try clear c27
       try clear c29
       try clear c47
       try clear c48
       try clear c51
       try clear c58
       try clear c58b0
       try clear c58b1
       try clear c59
       try clear c60
       try clear c61
       try clear c62
       try clear c63
       try clear c64
       try clear c66
       try clear c67
       try clear c68
       try clear c69
       try clear c72
       try clear c73
       try clear c74
       try clear c76
       try clear c77
       try clear c80
       try clear c80b0
       try clear c80b1
       try clear c83
       try clear c84
       try clear c85
       try clear c86
       try clear c87
       try clear c89
       try clear c90
       try clear c91
       try clear c92
       try clear c95
       try clear c96
       try clear c97
       try clear c102
       try clear c103
       try clear hcz100_0
       try clear hcz100_1
       try clear hcz104_0
       try clear hcz104_1
       try clear hcz65_0
       try clear hcz65_1
       try clear hcz70_0
       try clear hcz70_1
       try clear hcz75_0
       try clear hcz75_1
       try clear hcz78_0
       try clear hcz78_1
       try clear hcz88_0
       try clear hcz88_1
       try clear hcz93_0
       try clear hcz93_1
       try clear hcz98_0
       try clear hcz98_1
       try clear hcz99_0
       try clear hcz99_1
       try clear hfz100_0
       try clear hfz100_1
       try clear hfz104_0
       try clear hfz104_1
       try clear hfz65_0
       try clear hfz65_1
       try clear hfz70_0
       try clear hfz70_1
       try clear hfz75_0
       try clear hfz75_1
       try clear hfz78_0
       try clear hfz78_1
       try clear hfz88_0
       try clear hfz88_1
       try clear hfz93_0
       try clear hfz93_1
       try clear hfz98_0
       try clear hfz98_1
       try clear hfz99_0
       try clear hfz99_1
       try clear p2
       obtain ⟨kq, x147000_78, x147001_78, x150000_78, x150001_78, HA, HJ78, BK140, BK141, BK142, BK143, BK146, BK149, HB⟩ := hcut
       cases kq with
       | zero => exact absurd HA.out (by simp [spec_RangeCmp.j2])
       | succ kj78 =>
        have H := HA.out
        clear HA
        simp only [spec_RangeCmp.j2] at H
        have HC105 := am H
        clear H
        go_upto_if 47 with (fail)
        go_cut [] (fun wc => ∃ (kq : Nat) (x147000_104 : Int) (x147001_104 : Int) (x150000_104 : Int) (x150001_104 : Int), Aside0 (spec_RangeCmp.j3 kq a0 a1_0 a1_1 a2_0 a2_1 x147000_104 x147001_104 x150000_104 x150001_104 = some (r1, r2, r3, r4)) ∧ Aside0 (kq ≤ kj78) ∧ Aside0 (wc.heap[gb140]? = some (.cells #[.int .i64 a1_0, .int .i64 a1_1] 24 (0, 0))) ∧ Aside0 (wc.heap[gb141]? = some (.cells #[.int .i64 a2_0, .int .i64 a2_1] 24 (0, 0))) ∧ Aside0 (wc.heap[gb142]? = some (.cells #[.int .i64 0, .int .i64 0] 24 (0, 0))) ∧ Aside0 (wc.heap[gb143]? = some (.cells #[.int .i64 0, .int .i64 0] 24 (0, 0))) ∧ Aside0 (wc.heap[gb146]? = some (.cells #[.int .i64 x147000_104, .int .i64 x147001_104] 24 (0, 0))) ∧ Aside0 (wc.heap[gb149]? = some (.cells #[.int .i64 x150000_104, .int .i64 x150001_104] 24 (0, 0))) ∧ Aside0 (Below w.heap.size w wc))
        case first =>
         have H := HC105.out
         clear HC105
         by_cases c106 : a0 = 3
         ·rw [if_pos c106] at H
          have c106b0 : (a0 == 3) = true := beq_iff_eq.mpr c106
          have c106b1 : (a0 != 3) = false := bne_eq_false_iff_eq.mpr c106
          clear c106
          (first | rw [c106b0] | (simp only [i64_w, i32_w]; rw [c106b0]) | skip)
          replace H := Option.bind_eq_some_iff.mp H
          obtain ⟨t162, A1070, H⟩ := H
          replace H : ((spec_l8Cut.f a1_0 t162).bind fun bt163 => ((spec_l8Max.f a2_0 (wrap64 (a1_0 + 1))).bind fun t165 => ((spec_l8Cut.f t165 a2_1).bind fun bt166 => (spec_RangeCmp.j3 kj78 a0 a1_0 a1_1 a2_0 a2_1 bt163.1 bt163.2 bt166.1 bt166.2)))) = some (r1, r2, r3, r4) := H
          have A107 := am A1070
          clear A1070
          replace H := Option.bind_eq_some_iff.mp H
          obtain ⟨⟨t163, t164⟩, A1080, H⟩ := H
          replace H : ((spec_l8Max.f a2_0 (wrap64 (a1_0 + 1))).bind fun t165 => ((spec_l8Cut.f t165 a2_1).bind fun bt166 => (spec_RangeCmp.j3 kj78 a0 a1_0 a1_1 a2_0 a2_1 t163 t164 bt166.1 bt166.2))) = some (r1, r2, r3, r4) := H
          have A108 := am A1080
          clear A1080
          replace H := Option.bind_eq_some_iff.mp H
          obtain ⟨t165, A1090, H⟩ := H
          replace H : ((spec_l8Cut.f t165 a2_1).bind fun bt166 => (spec_RangeCmp.j3 kj78 a0 a1_0 a1_1 a2_0 a2_1 t163 t164 bt166.1 bt166.2)) = some (r1, r2, r3, r4) := H
          have A109 := am A1090
          clear A1090
          replace H := Option.bind_eq_some_iff.mp H
          obtain ⟨⟨t166, t167⟩, A1100, H⟩ := H
          replace H : (spec_RangeCmp.j3 kj78 a0 a1_0 a1_1 a2_0 a2_1 t163 t164 t166 t167) = some (r1, r2, r3, r4) := H
          have A110 := am A1100
          clear A1100
          have H' := am H
          clear H
          try go_wp2
          have n0_ := am (blk_drew BK140.out)
          have n1_ := am (blk_drew BK141.out)
          have n2_ := am (blk_drew BK142.out)
          have n3_ := am (blk_drew BK143.out)
          have n4_ := am (blk_drew BK146.out)
          have n5_ := am (blk_drew BK149.out)
          have n6_ := am (below_drew1 HB.out)
          clear BK140
          clear BK141
          clear BK142
          clear BK143
          clear BK146
          clear BK149
          clear HB
          have BK140 := n0_
          have BK141 := n1_
          have BK142 := n2_
          have BK143 := n3_
          have BK146 := n4_
          have BK149 := n5_
          have HB := n6_
          clear n0_ n1_ n2_ n3_ n4_ n5_ n6_
          refine start_ (n := 10) (S := fun w' => w'.cell? ⟨gb140, 0, none⟩ = some (.int .i64 a1_0) ∧ w'.cell? ⟨gb140, 1, none⟩ = some (.int .i64 a1_1) ∧ w'.cell? ⟨gb141, 0, none⟩ = some (.int .i64 a2_0) ∧ w'.cell? ⟨gb141, 1, none⟩ = some (.int .i64 a2_1)) (ds := []) #[F, F, F, F, F, F, F, F, F, F] (by kernel_rfl) rfl rfl ⟨bc BK140 0, bc BK140 1, bc BK141 0, bc BK141 1⟩ (fun hHeld => ?_); refine with_tabW spec_RangeCmp.tab12 spec_RangeCmp.bits12 (fun HT_ HW_ => ?_)
          generalize wc.drew = w111 at BK140 BK141 BK142 BK143 BK146 BK149 HB hHeld ⊢
          refine pure_ (i := 0) (N := some 48) (v := ?_) (a' := ?_) #[T, F, F, F, F, F, F, F, F, F] rfl rfl (any_of HT_.out (by kernel_rfl)) (fun _ _ _ h => h) (Or.inl ⟨by rfl, ?_⟩) ?_ ?_
          rotate_left
          ·exact gz
          rotate_left
          ·exact pz
          refine pure_ (i := 2) (N := some 50) (v := ?_) (a' := ?_) #[T, F, T, F, F, F, F, F, F, F] rfl rfl (any_of HT_.out (by kernel_rfl)) (fun _ _ _ h => h) (Or.inl ⟨by rfl, ?_⟩) ?_ ?_
          rotate_left
          ·exact gz
          rotate_left
          ·exact pz
          refine pure_ (i := 4) (N := some 52) (v := ?_) (a' := ?_) #[T, F, T, F, T, F, F, F, F, F] rfl rfl (any_of HT_.out (by kernel_rfl)) (fun _ _ _ h => h) (Or.inl ⟨by rfl, ?_⟩) ?_ ?_
          rotate_left
          ·exact gz
          rotate_left
          ·exact pz
          refine take_ (i := 1) (N := some 49) (v := ?_) (a' := ?_) #[T, T, T, F, T, F, F, F, F, F] rfl rfl (take_ofW HT_.out HW_.out (by kernel_rfl)) (fun _ _ _ h => h) (Or.inl ⟨by rfl, ?_⟩) hHeld ?_ ?_
          rotate_left
          ·rintro w' ⟨s0, s1, s2, s3⟩
           go_simp
           with_reducible rfl
          rotate_left
          ·exact pz
          refine take_ (i := 3) (N := some 51) (v := ?_) (a' := ?_) #[T, T, T, T, T, F, F, F, F, F] rfl rfl (take_ofW HT_.out HW_.out (by kernel_rfl)) (fun _ _ _ h => h) (Or.inl ⟨by rfl, ?_⟩) hHeld ?_ ?_
          rotate_left
          ·rintro w' ⟨s0, s1, s2, s3⟩
           go_simp
           with_reducible rfl
          rotate_left
          ·exact pz
          refine take_ (i := 5) (N := some 53) (v := ?_) (a' := ?_) #[T, T, T, T, T, T, F, F, F, F] rfl rfl (take_ofW HT_.out HW_.out (by kernel_rfl)) (fun _ _ _ h => h) (Or.inl ⟨by rfl, ?_⟩) hHeld ?_ ?_
          rotate_left
          ·rintro w' ⟨s0, s1, s2, s3⟩
           go_simp
           with_reducible rfl
          rotate_left
          ·exact pz
          refine pure_ (i := 6) (N := some 54) (v := ?_) (a' := ?_) #[T, T, T, T, T, T, T, F, F, F] rfl rfl (any_of HT_.out (by kernel_rfl)) (fun _ _ _ h => h) (Or.inl ⟨by rfl, ?_⟩) ?_ ?_
          rotate_left
          ·exact gz
          rotate_left
          ·exact pz
          refine one_ (i := 7) (N := some 55) #[T, T, T, T, T, T, T, T, F, F] rfl rfl (one_of HT_.out (by kernel_rfl)) (by decide) (fun K hK => ?_)
          refine goes_ Try.func49 (by kernel_rfl) rfl #[.int .i64 a1_1, .int .i64 (wrap64 (a2_1 - 1))] (by rfl) rfl rfl mz ?_
          with_reducible refine (spec_l8Min.calls a1_1 (wrap64 (a2_1 - 1)) t162 _ A107.out).mono ?_
          rintro e w' ⟨rfl, ⟨nd, rfl⟩⟩
          refine ⟨_, rfl, ?_⟩
          refine hK.out _ _ ⟨bc BK140 0, bc BK140 1, bc BK141 0, bc BK141 1⟩ (fun hHeld => ?_)
          clear hK K
          refine norm_ (a' := ?_) ?_ ?_
          rotate_left
          ·show Act.put _ (some 55) _ = _
           simp only [Act.put, List.setIfInBounds_toArray, List.set_cons_zero, List.set_cons_succ, i64_w, i32_w]
           rfl
          refine one_ (i := 8) (N := some 56) #[T, T, T, T, T, T, T, T, T, F] rfl rfl (one_of HT_.out (by kernel_rfl)) (by decide) (fun K hK => ?_)
          refine goes_ Try.func54 (by kernel_rfl) rfl #[.int .i64 a1_0, .int .i64 t162] (by rfl) rfl rfl mz ?_
          with_reducible refine (spec_l8Cut.calls a1_0 t162 t163 t164 _ A108.out).mono ?_
          rintro e w112 ⟨rfl, hb⟩
          refine ⟨_, rfl, ?_⟩
          have n0_ := am (blk_below (g := gb140) (o := b2 a1_0 a1_1 24) (Z BK140) hb)
          have n1_ := am (blk_below (g := gb141) (o := b2 a2_0 a2_1 24) (Z BK141) hb)
          have n2_ := am (blk_below (g := gb142) (o := b2 0 0 24) (Z BK142) hb)
          have n3_ := am (blk_below (g := gb143) (o := b2 0 0 24) (Z BK143) hb)
          have n4_ := am (blk_below (g := gb146) (o := b2 x147000_78 x147001_78 24) (Z BK146) hb)
          have n5_ := am (blk_below (g := gb149) (o := b2 x150000_78 x150001_78 24) (Z BK149) hb)
          have n6_ := am (below_step (Y6 HB GE140 GE141 GE142 GE143 GE146 GE149) hb)
          clear BK140
          clear BK141
          clear BK142
          clear BK143
          clear BK146
          clear BK149
          clear HB
          have BK140 := n0_
          have BK141 := n1_
          have BK142 := n2_
          have BK143 := n3_
          have BK146 := n4_
          have BK149 := n5_
          have HB := n6_
          clear n0_ n1_ n2_ n3_ n4_ n5_ n6_
          (try clear hb)
          (try clear hb2)
          (try clear hk)
          (try clear hi)
          refine hK.out _ _ ⟨bc BK140 0, bc BK140 1, bc BK141 0, bc BK141 1⟩ (fun hHeld => ?_)
          clear hK K
          refine norm_ (a' := ?_) ?_ ?_
          rotate_left
          ·show Act.put _ (some 56) _ = _
           simp only [Act.put, List.setIfInBounds_toArray, List.set_cons_zero, List.set_cons_succ, i64_w, i32_w]
           rfl
          refine one_ (i := 9) (N := none) #[T, T, T, T, T, T, T, T, T, T] rfl rfl (one_of HT_.out (by kernel_rfl)) (by decide) (fun K hK => ?_)
          have hs113 : w112.cell? ⟨gb146, 0, none⟩ = some (.int .i64 x147000_78) := bc BK146 0
          have hfs113 := blk_frozen BK146.out 0
          have hns113_0 := NB140_146.out
          have hns113_1 := NB141_146.out
          have hns113_2 := NB142_146.out
          have hns113_3 := NB143_146.out
          have hns113_5 := NB149_146.out
          have hms113_0 := NB146_140.out
          have hms113_1 := NB146_141.out
          have hms113_2 := NB146_142.out
          have hms113_3 := NB146_143.out
          have hms113_5 := NB146_149.out
          have hs114 : w112.cell? ⟨gb146, 1, none⟩ = some (.int .i64 x147001_78) := bc BK146 1
          have hfs114 := blk_frozen BK146.out 1
          have hns114_0 := NB140_146.out
          have hns114_1 := NB141_146.out
          have hns114_2 := NB142_146.out
          have hns114_3 := NB143_146.out
          have hns114_5 := NB149_146.out
          have hms114_0 := NB146_140.out
          have hms114_1 := NB146_141.out
          have hms114_2 := NB146_142.out
          have hms114_3 := NB146_143.out
          have hms114_5 := NB146_149.out
          refine skip_ (w1 := ?_) (by rfl) rfl ?_ ?_
          rotate_left
          ·go_simp
           rfl
          refine hK.out _ _ ⟨((cell_far (p := ⟨gb146, _, none⟩) NB140_146.out _).trans (((cell_far (p := ⟨gb146, _, none⟩) NB140_146.out _).trans (hHeld.1)))), ((cell_far (p := ⟨gb146, _, none⟩) NB140_146.out _).trans (((cell_far (p := ⟨gb146, _, none⟩) NB140_146.out _).trans (hHeld.2.1)))), ((cell_far (p := ⟨gb146, _, none⟩) NB141_146.out _).trans (((cell_far (p := ⟨gb146, _, none⟩) NB141_146.out _).trans (hHeld.2.2.1)))), ((cell_far (p := ⟨gb146, _, none⟩) NB141_146.out _).trans (((cell_far (p := ⟨gb146, _, none⟩) NB141_146.out _).trans (hHeld.2.2.2))))⟩ (fun hHeld => ?_)
          clear hK K
          refine done_ (done_of HT_.out (by kernel_rfl)) ?_
          try go_wp2
          have n0_ : Aside0 (((w112.setCell ⟨gb146, 0, none⟩ (.int .i64 t163)).setCell ⟨gb146, 1, none⟩ (.int .i64 t164)).heap[gb140]? = some (.cells #[.int .i64 a1_0, .int .i64 a1_1] 24 (0, 0))) := ⟨by (with_reducible repeat (first | refine blk_drewN ?_ _ | refine blk_drew ?_ | refine blk_alloc ?_ _)); refine blk_far ?_ NB140_146.out _; (with_reducible repeat (first | refine blk_drewN ?_ _ | refine blk_drew ?_ | refine blk_alloc ?_ _)); refine blk_far ?_ NB140_146.out _; (with_reducible repeat (first | refine blk_drewN ?_ _ | refine blk_drew ?_ | refine blk_alloc ?_ _)); exact BK140.out⟩
          have n1_ : Aside0 (((w112.setCell ⟨gb146, 0, none⟩ (.int .i64 t163)).setCell ⟨gb146, 1, none⟩ (.int .i64 t164)).heap[gb141]? = some (.cells #[.int .i64 a2_0, .int .i64 a2_1] 24 (0, 0))) := ⟨by (with_reducible repeat (first | refine blk_drewN ?_ _ | refine blk_drew ?_ | refine blk_alloc ?_ _)); refine blk_far ?_ NB141_146.out _; (with_reducible repeat (first | refine blk_drewN ?_ _ | refine blk_drew ?_ | refine blk_alloc ?_ _)); refine blk_far ?_ NB141_146.out _; (with_reducible repeat (first | refine blk_drewN ?_ _ | refine blk_drew ?_ | refine blk_alloc ?_ _)); exact BK141.out⟩
          have n2_ : Aside0 (((w112.setCell ⟨gb146, 0, none⟩ (.int .i64 t163)).setCell ⟨gb146, 1, none⟩ (.int .i64 t164)).heap[gb142]? = some (.cells #[.int .i64 0, .int .i64 0] 24 (0, 0))) := ⟨by (with_reducible repeat (first | refine blk_drewN ?_ _ | refine blk_drew ?_ | refine blk_alloc ?_ _)); refine blk_far ?_ NB142_146.out _; (with_reducible repeat (first | refine blk_drewN ?_ _ | refine blk_drew ?_ | refine blk_alloc ?_ _)); refine blk_far ?_ NB142_146.out _; (with_reducible repeat (first | refine blk_drewN ?_ _ | refine blk_drew ?_ | refine blk_alloc ?_ _)); exact BK142.out⟩
          have n3_ : Aside0 (((w112.setCell ⟨gb146, 0, none⟩ (.int .i64 t163)).setCell ⟨gb146, 1, none⟩ (.int .i64 t164)).heap[gb143]? = some (.cells #[.int .i64 0, .int .i64 0] 24 (0, 0))) := ⟨by (with_reducible repeat (first | refine blk_drewN ?_ _ | refine blk_drew ?_ | refine blk_alloc ?_ _)); refine blk_far ?_ NB143_146.out _; (with_reducible repeat (first | refine blk_drewN ?_ _ | refine blk_drew ?_ | refine blk_alloc ?_ _)); refine blk_far ?_ NB143_146.out _; (with_reducible repeat (first | refine blk_drewN ?_ _ | refine blk_drew ?_ | refine blk_alloc ?_ _)); exact BK143.out⟩
          have n4_ : Aside0 (((w112.setCell ⟨gb146, 0, none⟩ (.int .i64 t163)).setCell ⟨gb146, 1, none⟩ (.int .i64 t164)).heap[gb146]? = some (.cells #[.int .i64 t163, .int .i64 t164] 24 (0, 0))) := ⟨by (with_reducible repeat (first | refine blk_drewN ?_ _ | refine blk_drew ?_ | refine blk_alloc ?_ _)); refine blk_put (cs := #[.int .i64 t163, .int .i64 x147001_78]) ?_ 1 _ rfl; (with_reducible repeat (first | refine blk_drewN ?_ _ | refine blk_drew ?_ | refine blk_alloc ?_ _)); refine blk_put (cs := #[.int .i64 x147000_78, .int .i64 x147001_78]) ?_ 0 _ rfl; (with_reducible repeat (first | refine blk_drewN ?_ _ | refine blk_drew ?_ | refine blk_alloc ?_ _)); exact BK146.out⟩
          have n5_ : Aside0 (((w112.setCell ⟨gb146, 0, none⟩ (.int .i64 t163)).setCell ⟨gb146, 1, none⟩ (.int .i64 t164)).heap[gb149]? = some (.cells #[.int .i64 x150000_78, .int .i64 x150001_78] 24 (0, 0))) := ⟨by (with_reducible repeat (first | refine blk_drewN ?_ _ | refine blk_drew ?_ | refine blk_alloc ?_ _)); refine blk_far ?_ NB149_146.out _; (with_reducible repeat (first | refine blk_drewN ?_ _ | refine blk_drew ?_ | refine blk_alloc ?_ _)); refine blk_far ?_ NB149_146.out _; (with_reducible repeat (first | refine blk_drewN ?_ _ | refine blk_drew ?_ | refine blk_alloc ?_ _)); exact BK149.out⟩
          have n6_ : Aside0 (Below w.heap.size w ((w112.setCell ⟨gb146, 0, none⟩ (.int .i64 t163)).setCell ⟨gb146, 1, none⟩ (.int .i64 t164))) := ⟨Y6 HB GE140 GE141 GE142 GE143 GE146 GE149⟩
          (try clear BK140)
          (try clear BK141)
          (try clear BK142)
          (try clear BK143)
          (try clear BK146)
          (try clear BK149)
          (try clear HB)
          generalize ((w112.setCell ⟨gb146, 0, none⟩ (.int .i64 t163)).setCell ⟨gb146, 1, none⟩ (.int .i64 t164)) = w115 at n0_ n1_ n2_ n3_ n4_ n5_ n6_ ⊢
          have BK140 := n0_
          have BK141 := n1_
          have BK142 := n2_
          have BK143 := n3_
          have BK146 := n4_
          have BK149 := n5_
          have HB := n6_
          clear n0_ n1_ n2_ n3_ n4_ n5_ n6_
          have n0_ := am (blk_drew BK140.out)
          have n1_ := am (blk_drew BK141.out)
          have n2_ := am (blk_drew BK142.out)
          have n3_ := am (blk_drew BK143.out)
          have n4_ := am (blk_drew BK146.out)
          have n5_ := am (blk_drew BK149.out)
          have n6_ := am (below_drew1 HB.out)
          clear BK140
          clear BK141
          clear BK142
          clear BK143
          clear BK146
          clear BK149
          clear HB
          have BK140 := n0_
          have BK141 := n1_
          have BK142 := n2_
          have BK143 := n3_
          have BK146 := n4_
          have BK149 := n5_
          have HB := n6_
          clear n0_ n1_ n2_ n3_ n4_ n5_ n6_
          refine start_ (n := 10) (S := fun w' => w'.cell? ⟨gb141, 0, none⟩ = some (.int .i64 a2_0) ∧ w'.cell? ⟨gb141, 1, none⟩ = some (.int .i64 a2_1) ∧ w'.cell? ⟨gb140, 0, none⟩ = some (.int .i64 a1_0) ∧ w'.cell? ⟨gb140, 1, none⟩ = some (.int .i64 a1_1)) (ds := []) #[F, F, F, F, F, F, F, F, F, F] (by kernel_rfl) rfl rfl ⟨bc BK141 0, bc BK141 1, bc BK140 0, bc BK140 1⟩ (fun hHeld => ?_); refine with_tabW spec_RangeCmp.tab13 spec_RangeCmp.bits13 (fun HT_ HW_ => ?_)
          generalize w115.drew = w116 at BK140 BK141 BK142 BK143 BK146 BK149 HB hHeld ⊢
          refine pure_ (i := 0) (N := some 57) (v := ?_) (a' := ?_) #[T, F, F, F, F, F, F, F, F, F] rfl rfl (any_of HT_.out (by kernel_rfl)) (fun _ _ _ h => h) (Or.inl ⟨by rfl, ?_⟩) ?_ ?_
          rotate_left
          ·exact gz
          rotate_left
          ·exact pz
          refine pure_ (i := 2) (N := some 59) (v := ?_) (a' := ?_) #[T, F, T, F, F, F, F, F, F, F] rfl rfl (any_of HT_.out (by kernel_rfl)) (fun _ _ _ h => h) (Or.inl ⟨by rfl, ?_⟩) ?_ ?_
          rotate_left
          ·exact gz
          rotate_left
          ·exact pz
          refine pure_ (i := 6) (N := some 63) (v := ?_) (a' := ?_) #[T, F, T, F, F, F, T, F, F, F] rfl rfl (any_of HT_.out (by kernel_rfl)) (fun _ _ _ h => h) (Or.inl ⟨by rfl, ?_⟩) ?_ ?_
          rotate_left
          ·exact gz
          rotate_left
          ·exact pz
          refine take_ (i := 1) (N := some 58) (v := ?_) (a' := ?_) #[T, T, T, F, F, F, T, F, F, F] rfl rfl (take_ofW HT_.out HW_.out (by kernel_rfl)) (fun _ _ _ h => h) (Or.inl ⟨by rfl, ?_⟩) hHeld ?_ ?_
          rotate_left
          ·rintro w' ⟨s0, s1, s2, s3⟩
           go_simp
           with_reducible rfl
          rotate_left
          ·exact pz
          refine take_ (i := 3) (N := some 60) (v := ?_) (a' := ?_) #[T, T, T, T, F, F, T, F, F, F] rfl rfl (take_ofW HT_.out HW_.out (by kernel_rfl)) (fun _ _ _ h => h) (Or.inl ⟨by rfl, ?_⟩) hHeld ?_ ?_
          rotate_left
          ·rintro w' ⟨s0, s1, s2, s3⟩
           go_simp
           with_reducible rfl
          rotate_left
          ·exact pz
          refine pure_ (i := 4) (N := some 61) (v := ?_) (a' := ?_) #[T, T, T, T, T, F, T, F, F, F] rfl rfl (any_of HT_.out (by kernel_rfl)) (fun _ _ _ h => h) (Or.inl ⟨by rfl, ?_⟩) ?_ ?_
          rotate_left
          ·exact gz
          rotate_left
          ·exact pz
          refine take_ (i := 7) (N := some 64) (v := ?_) (a' := ?_) #[T, T, T, T, T, F, T, T, F, F] rfl rfl (take_ofW HT_.out HW_.out (by kernel_rfl)) (fun _ _ _ h => h) (Or.inl ⟨by rfl, ?_⟩) hHeld ?_ ?_
          rotate_left
          ·rintro w' ⟨s0, s1, s2, s3⟩
           go_simp
           with_reducible rfl
          rotate_left
          ·exact pz
          refine one_ (i := 5) (N := some 62) #[T, T, T, T, T, T, T, T, F, F] rfl rfl (one_of HT_.out (by kernel_rfl)) (by decide) (fun K hK => ?_)
          refine goes_ Try.func50 (by kernel_rfl) rfl #[.int .i64 a2_0, .int .i64 (wrap64 (a1_0 + 1))] (by rfl) rfl rfl mz ?_
          with_reducible refine (spec_l8Max.calls a2_0 (wrap64 (a1_0 + 1)) t165 _ A109.out).mono ?_
          rintro e w' ⟨rfl, ⟨nd, rfl⟩⟩
          refine ⟨_, rfl, ?_⟩
          refine hK.out _ _ ⟨bc BK141 0, bc BK141 1, bc BK140 0, bc BK140 1⟩ (fun hHeld => ?_)
          clear hK K
          refine norm_ (a' := ?_) ?_ ?_
          rotate_left
          ·show Act.put _ (some 62) _ = _
           simp only [Act.put, List.setIfInBounds_toArray, List.set_cons_zero, List.set_cons_succ, i64_w, i32_w]
           rfl
          refine one_ (i := 8) (N := some 65) #[T, T, T, T, T, T, T, T, T, F] rfl rfl (one_of HT_.out (by kernel_rfl)) (by decide) (fun K hK => ?_)
          refine goes_ Try.func54 (by kernel_rfl) rfl #[.int .i64 t165, .int .i64 a2_1] (by rfl) rfl rfl mz ?_
          with_reducible refine (spec_l8Cut.calls t165 a2_1 t166 t167 _ A110.out).mono ?_
          rintro e w117 ⟨rfl, hb⟩
          refine ⟨_, rfl, ?_⟩
          have n0_ := am (blk_below (g := gb140) (o := b2 a1_0 a1_1 24) (Z BK140) hb)
          have n1_ := am (blk_below (g := gb141) (o := b2 a2_0 a2_1 24) (Z BK141) hb)
          have n2_ := am (blk_below (g := gb142) (o := b2 0 0 24) (Z BK142) hb)
          have n3_ := am (blk_below (g := gb143) (o := b2 0 0 24) (Z BK143) hb)
          have n4_ := am (blk_below (g := gb146) (o := b2 t163 t164 24) (Z BK146) hb)
          have n5_ := am (blk_below (g := gb149) (o := b2 x150000_78 x150001_78 24) (Z BK149) hb)
          have n6_ := am (below_step (Y6 HB GE140 GE141 GE142 GE143 GE146 GE149) hb)
          clear BK140
          clear BK141
          clear BK142
          clear BK143
          clear BK146
          clear BK149
          clear HB
          have BK140 := n0_
          have BK141 := n1_
          have BK142 := n2_
          have BK143 := n3_
          have BK146 := n4_
          have BK149 := n5_
          have HB := n6_
          clear n0_ n1_ n2_ n3_ n4_ n5_ n6_
          (try clear hb)
          (try clear hb2)
          (try clear hk)
          (try clear hi)
          refine hK.out _ _ ⟨bc BK141 0, bc BK141 1, bc BK140 0, bc BK140 1⟩ (fun hHeld => ?_)
          clear hK K
          refine norm_ (a' := ?_) ?_ ?_
          rotate_left
          ·show Act.put _ (some 65) _ = _
           simp only [Act.put, List.setIfInBounds_toArray, List.set_cons_zero, List.set_cons_succ, i64_w, i32_w]
           rfl
          refine one_ (i := 9) (N := none) #[T, T, T, T, T, T, T, T, T, T] rfl rfl (one_of HT_.out (by kernel_rfl)) (by decide) (fun K hK => ?_)
          have hs118 : w117.cell? ⟨gb149, 0, none⟩ = some (.int .i64 x150000_78) := bc BK149 0
          have hfs118 := blk_frozen BK149.out 0
          have hns118_0 := NB140_149.out
          have hns118_1 := NB141_149.out
          have hns118_2 := NB142_149.out
          have hns118_3 := NB143_149.out
          have hns118_4 := NB146_149.out
          have hms118_0 := NB149_140.out
          have hms118_1 := NB149_141.out
          have hms118_2 := NB149_142.out
          have hms118_3 := NB149_143.out
          have hms118_4 := NB149_146.out
          have hs119 : w117.cell? ⟨gb149, 1, none⟩ = some (.int .i64 x150001_78) := bc BK149 1
          have hfs119 := blk_frozen BK149.out 1
          have hns119_0 := NB140_149.out
          have hns119_1 := NB141_149.out
          have hns119_2 := NB142_149.out
          have hns119_3 := NB143_149.out
          have hns119_4 := NB146_149.out
          have hms119_0 := NB149_140.out
          have hms119_1 := NB149_141.out
          have hms119_2 := NB149_142.out
          have hms119_3 := NB149_143.out
          have hms119_4 := NB149_146.out
          refine skip_ (w1 := ?_) (by rfl) rfl ?_ ?_
          rotate_left
          ·go_simp
           rfl
          refine hK.out _ _ ⟨((cell_far (p := ⟨gb149, _, none⟩) NB141_149.out _).trans (((cell_far (p := ⟨gb149, _, none⟩) NB141_149.out _).trans (hHeld.1)))), ((cell_far (p := ⟨gb149, _, none⟩) NB141_149.out _).trans (((cell_far (p := ⟨gb149, _, none⟩) NB141_149.out _).trans (hHeld.2.1)))), ((cell_far (p := ⟨gb149, _, none⟩) NB140_149.out _).trans (((cell_far (p := ⟨gb149, _, none⟩) NB140_149.out _).trans (hHeld.2.2.1)))), ((cell_far (p := ⟨gb149, _, none⟩) NB140_149.out _).trans (((cell_far (p := ⟨gb149, _, none⟩) NB140_149.out _).trans (hHeld.2.2.2))))⟩ (fun hHeld => ?_)
          clear hK K
          refine done_ (done_of HT_.out (by kernel_rfl)) ?_
          try go_wp2
          go_meet
          case rel => exact ⟨_, (t163), (t164), (t166), (t167), H', ⟨by have := HJ5.out; have := HJ56.out; have := HJ78.out; first | omega | exact Nat.le_refl _⟩, ⟨by (with_reducible repeat (first | refine blk_drewN ?_ _ | refine blk_drew ?_ | refine blk_alloc ?_ _)); refine blk_far ?_ NB140_149.out _; (with_reducible repeat (first | refine blk_drewN ?_ _ | refine blk_drew ?_ | refine blk_alloc ?_ _)); refine blk_far ?_ NB140_149.out _; (with_reducible repeat (first | refine blk_drewN ?_ _ | refine blk_drew ?_ | refine blk_alloc ?_ _)); exact BK140.out⟩, ⟨by (with_reducible repeat (first | refine blk_drewN ?_ _ | refine blk_drew ?_ | refine blk_alloc ?_ _)); refine blk_far ?_ NB141_149.out _; (with_reducible repeat (first | refine blk_drewN ?_ _ | refine blk_drew ?_ | refine blk_alloc ?_ _)); refine blk_far ?_ NB141_149.out _; (with_reducible repeat (first | refine blk_drewN ?_ _ | refine blk_drew ?_ | refine blk_alloc ?_ _)); exact BK141.out⟩, ⟨by (with_reducible repeat (first | refine blk_drewN ?_ _ | refine blk_drew ?_ | refine blk_alloc ?_ _)); refine blk_far ?_ NB142_149.out _; (with_reducible repeat (first | refine blk_drewN ?_ _ | refine blk_drew ?_ | refine blk_alloc ?_ _)); refine blk_far ?_ NB142_149.out _; (with_reducible repeat (first | refine blk_drewN ?_ _ | refine blk_drew ?_ | refine blk_alloc ?_ _)); exact BK142.out⟩, ⟨by (with_reducible repeat (first | refine blk_drewN ?_ _ | refine blk_drew ?_ | refine blk_alloc ?_ _)); refine blk_far ?_ NB143_149.out _; (with_reducible repeat (first | refine blk_drewN ?_ _ | refine blk_drew ?_ | refine blk_alloc ?_ _)); refine blk_far ?_ NB143_149.out _; (with_reducible repeat (first | refine blk_drewN ?_ _ | refine blk_drew ?_ | refine blk_alloc ?_ _)); exact BK143.out⟩, ⟨by (with_reducible repeat (first | refine blk_drewN ?_ _ | refine blk_drew ?_ | refine blk_alloc ?_ _)); refine blk_far ?_ NB146_149.out _; (with_reducible repeat (first | refine blk_drewN ?_ _ | refine blk_drew ?_ | refine blk_alloc ?_ _)); refine blk_far ?_ NB146_149.out _; (with_reducible repeat (first | refine blk_drewN ?_ _ | refine blk_drew ?_ | refine blk_alloc ?_ _)); exact BK146.out⟩, ⟨by (with_reducible repeat (first | refine blk_drewN ?_ _ | refine blk_drew ?_ | refine blk_alloc ?_ _)); refine blk_put (cs := #[.int .i64 t166, .int .i64 x150001_78]) ?_ 1 _ rfl; (with_reducible repeat (first | refine blk_drewN ?_ _ | refine blk_drew ?_ | refine blk_alloc ?_ _)); refine blk_put (cs := #[.int .i64 x150000_78, .int .i64 x150001_78]) ?_ 0 _ rfl; (with_reducible repeat (first | refine blk_drewN ?_ _ | refine blk_drew ?_ | refine blk_alloc ?_ _)); exact BK149.out⟩, ⟨Y6 HB GE140 GE141 GE142 GE143 GE146 GE149⟩⟩
         ·rw [if_neg c106] at H
          have c106b0 : (a0 == 3) = false := beq_eq_false_iff_ne.mpr c106
          have c106b1 : (a0 != 3) = true := bne_iff_ne.mpr c106
          (first | rw [c106b0] | (simp only [i64_w, i32_w]; rw [c106b0]) | skip)
          have H' := am H
          clear H
          go_wp2
          go_meet
          case rel => exact ⟨_, (x147000_78), (x147001_78), (x150000_78), (x150001_78), H', ⟨by have := HJ5.out; have := HJ56.out; have := HJ78.out; first | omega | exact Nat.le_refl _⟩, ⟨Z BK140⟩, ⟨Z BK141⟩, ⟨Z BK142⟩, ⟨Z BK143⟩, ⟨Z BK146⟩, ⟨Z BK149⟩, ⟨Y6 HB GE140 GE141 GE142 GE143 GE146 GE149⟩⟩
        case rest =>
         clear HC105
         try clear c1
         try clear c2
         try clear p2
         try clear c4
         try clear c5
         try clear c6
         try clear p6
         try clear c7
         try clear c8
         try clear c9
         try clear c10
         try clear c19
         try clear c27
         try clear c29
         try clear c47
         try clear c48
         try clear c49
         try clear c50
         try clear c51
         try clear c54
         try clear c58
         try clear c58b0
         try clear c58b1
         try clear c59
         try clear c60
         try clear c61
         try clear c62
         try clear c63
         try clear c64
         try clear p64
         try clear c66
         try clear c67
         try clear c68
         try clear c69
         try clear c72
         try clear c73
         try clear c74
         try clear c76
         try clear c77
         try clear c80
         try clear c80b0
         try clear c80b1
         try clear c83
         try clear c84
         try clear c85
         try clear c86
         try clear c87
         try clear c89
         try clear c90
         try clear c91
         try clear c92
         try clear c95
         try clear c96
         try clear c97
         try clear c102
         try clear c103
         try clear c106
         try clear c106b0
         try clear c106b1
         try clear hcz100_0
         try clear hcz100_1
         try clear hcz104_0
         try clear hcz104_1
         try clear hcz65_0
         try clear hcz65_1
         try clear hcz70_0
         try clear hcz70_1
         try clear hcz75_0
         try clear hcz75_1
         try clear hcz78_0
         try clear hcz78_1
         try clear hcz88_0
         try clear hcz88_1
         try clear hcz93_0
         try clear hcz93_1
         try clear hcz98_0
         try clear hcz98_1
         try clear hcz99_0
         try clear hcz99_1
         try clear hfz100_0
         try clear hfz100_1
         try clear hfz104_0
         try clear hfz104_1
         try clear hfz65_0
         try clear hfz65_1
         try clear hfz70_0
         try clear hfz70_1
         try clear hfz75_0
         try clear hfz75_1
         try clear hfz78_0
         try clear hfz78_1
         try clear hfz88_0
         try clear hfz88_1
         try clear hfz93_0
         try clear hfz93_1
         try clear hfz98_0
         try clear hfz98_1
         try clear hfz99_0
         try clear hfz99_1
         try clear p2
         obtain ⟨kq, x147000_104, x147001_104, x150000_104, x150001_104, HA, HJ104, BK140, BK141, BK142, BK143, BK146, BK149, HB⟩ := hcut
         cases kq with
         | zero => exact absurd HA.out (by simp [spec_RangeCmp.j3])
         | succ kj104 =>
          have H := HA.out
          clear HA
          simp only [spec_RangeCmp.j3] at H
          have HC120 := am H
          clear H
          go_upto_if 67 with (fail)
          go_cut [] (fun wc => ∃ (kq : Nat) (x147000_119 : Int) (x147001_119 : Int) (x150000_119 : Int) (x150001_119 : Int), Aside0 (spec_RangeCmp.j4 kq a0 a1_0 a1_1 a2_0 a2_1 x147000_119 x147001_119 x150000_119 x150001_119 = some (r1, r2, r3, r4)) ∧ Aside0 (kq ≤ kj104) ∧ Aside0 (wc.heap[gb140]? = some (.cells #[.int .i64 a1_0, .int .i64 a1_1] 24 (0, 0))) ∧ Aside0 (wc.heap[gb141]? = some (.cells #[.int .i64 a2_0, .int .i64 a2_1] 24 (0, 0))) ∧ Aside0 (wc.heap[gb142]? = some (.cells #[.int .i64 0, .int .i64 0] 24 (0, 0))) ∧ Aside0 (wc.heap[gb143]? = some (.cells #[.int .i64 0, .int .i64 0] 24 (0, 0))) ∧ Aside0 (wc.heap[gb146]? = some (.cells #[.int .i64 x147000_119, .int .i64 x147001_119] 24 (0, 0))) ∧ Aside0 (wc.heap[gb149]? = some (.cells #[.int .i64 x150000_119, .int .i64 x150001_119] 24 (0, 0))) ∧ Aside0 (Below w.heap.size w wc))
          case first =>
           have H := HC120.out
           clear HC120
           by_cases c121 : a0 = 4
           ·rw [if_pos c121] at H
            have c121b0 : (a0 == 4) = true := beq_iff_eq.mpr c121
            have c121b1 : (a0 != 4) = false := bne_eq_false_iff_eq.mpr c121
            clear c121
            (first | rw [c121b0] | (simp only [i64_w, i32_w]; rw [c121b0]) | skip)
            replace H := Option.bind_eq_some_iff.mp H
            obtain ⟨t168, A1220, H⟩ := H
            replace H : ((spec_l8Cut.f a1_0 t168).bind fun bt169 => ((spec_l8Max.f a2_0 a1_0).bind fun t171 => ((spec_l8Cut.f t171 a2_1).bind fun bt172 => (spec_RangeCmp.j4 kj104 a0 a1_0 a1_1 a2_0 a2_1 bt169.1 bt169.2 bt172.1 bt172.2)))) = some (r1, r2, r3, r4) := H
            have A122 := am A1220
            clear A1220
            replace H := Option.bind_eq_some_iff.mp H
            obtain ⟨⟨t169, t170⟩, A1230, H⟩ := H
            replace H : ((spec_l8Max.f a2_0 a1_0).bind fun t171 => ((spec_l8Cut.f t171 a2_1).bind fun bt172 => (spec_RangeCmp.j4 kj104 a0 a1_0 a1_1 a2_0 a2_1 t169 t170 bt172.1 bt172.2))) = some (r1, r2, r3, r4) := H
            have A123 := am A1230
            clear A1230
            replace H := Option.bind_eq_some_iff.mp H
            obtain ⟨t171, A1240, H⟩ := H
            replace H : ((spec_l8Cut.f t171 a2_1).bind fun bt172 => (spec_RangeCmp.j4 kj104 a0 a1_0 a1_1 a2_0 a2_1 t169 t170 bt172.1 bt172.2)) = some (r1, r2, r3, r4) := H
            have A124 := am A1240
            clear A1240
            replace H := Option.bind_eq_some_iff.mp H
            obtain ⟨⟨t172, t173⟩, A1250, H⟩ := H
            replace H : (spec_RangeCmp.j4 kj104 a0 a1_0 a1_1 a2_0 a2_1 t169 t170 t172 t173) = some (r1, r2, r3, r4) := H
            have A125 := am A1250
            clear A1250
            have H' := am H
            clear H
            try go_wp2
            have n0_ := am (blk_drew BK140.out)
            have n1_ := am (blk_drew BK141.out)
            have n2_ := am (blk_drew BK142.out)
            have n3_ := am (blk_drew BK143.out)
            have n4_ := am (blk_drew BK146.out)
            have n5_ := am (blk_drew BK149.out)
            have n6_ := am (below_drew1 HB.out)
            clear BK140
            clear BK141
            clear BK142
            clear BK143
            clear BK146
            clear BK149
            clear HB
            have BK140 := n0_
            have BK141 := n1_
            have BK142 := n2_
            have BK143 := n3_
            have BK146 := n4_
            have BK149 := n5_
            have HB := n6_
            clear n0_ n1_ n2_ n3_ n4_ n5_ n6_
            refine start_ (n := 9) (S := fun w' => w'.cell? ⟨gb140, 0, none⟩ = some (.int .i64 a1_0) ∧ w'.cell? ⟨gb140, 1, none⟩ = some (.int .i64 a1_1) ∧ w'.cell? ⟨gb141, 0, none⟩ = some (.int .i64 a2_0) ∧ w'.cell? ⟨gb141, 1, none⟩ = some (.int .i64 a2_1)) (ds := []) #[F, F, F, F, F, F, F, F, F] (by kernel_rfl) rfl rfl ⟨bc BK140 0, bc BK140 1, bc BK141 0, bc BK141 1⟩ (fun hHeld => ?_); refine with_tabW spec_RangeCmp.tab15 spec_RangeCmp.bits15 (fun HT_ HW_ => ?_)
            generalize wc.drew = w126 at BK140 BK141 BK142 BK143 BK146 BK149 HB hHeld ⊢
            refine pure_ (i := 0) (N := some 68) (v := ?_) (a' := ?_) #[T, F, F, F, F, F, F, F, F] rfl rfl (any_of HT_.out (by kernel_rfl)) (fun _ _ _ h => h) (Or.inl ⟨by rfl, ?_⟩) ?_ ?_
            rotate_left
            ·exact gz
            rotate_left
            ·exact pz
            refine pure_ (i := 2) (N := some 70) (v := ?_) (a' := ?_) #[T, F, T, F, F, F, F, F, F] rfl rfl (any_of HT_.out (by kernel_rfl)) (fun _ _ _ h => h) (Or.inl ⟨by rfl, ?_⟩) ?_ ?_
            rotate_left
            ·exact gz
            rotate_left
            ·exact pz
            refine pure_ (i := 4) (N := some 72) (v := ?_) (a' := ?_) #[T, F, T, F, T, F, F, F, F] rfl rfl (any_of HT_.out (by kernel_rfl)) (fun _ _ _ h => h) (Or.inl ⟨by rfl, ?_⟩) ?_ ?_
            rotate_left
            ·exact gz
            rotate_left
            ·exact pz
            refine take_ (i := 1) (N := some 69) (v := ?_) (a' := ?_) #[T, T, T, F, T, F, F, F, F] rfl rfl (take_ofW HT_.out HW_.out (by kernel_rfl)) (fun _ _ _ h => h) (Or.inl ⟨by rfl, ?_⟩) hHeld ?_ ?_
            rotate_left
            ·rintro w' ⟨s0, s1, s2, s3⟩
             go_simp
             with_reducible rfl
            rotate_left
            ·exact pz
            refine take_ (i := 3) (N := some 71) (v := ?_) (a' := ?_) #[T, T, T, T, T, F, F, F, F] rfl rfl (take_ofW HT_.out HW_.out (by kernel_rfl)) (fun _ _ _ h => h) (Or.inl ⟨by rfl, ?_⟩) hHeld ?_ ?_
            rotate_left
            ·rintro w' ⟨s0, s1, s2, s3⟩
             go_simp
             with_reducible rfl
            rotate_left
            ·exact pz
            refine take_ (i := 5) (N := some 73) (v := ?_) (a' := ?_) #[T, T, T, T, T, T, F, F, F] rfl rfl (take_ofW HT_.out HW_.out (by kernel_rfl)) (fun _ _ _ h => h) (Or.inl ⟨by rfl, ?_⟩) hHeld ?_ ?_
            rotate_left
            ·rintro w' ⟨s0, s1, s2, s3⟩
             go_simp
             with_reducible rfl
            rotate_left
            ·exact pz
            refine one_ (i := 6) (N := some 74) #[T, T, T, T, T, T, T, F, F] rfl rfl (one_of HT_.out (by kernel_rfl)) (by decide) (fun K hK => ?_)
            refine goes_ Try.func49 (by kernel_rfl) rfl #[.int .i64 a1_1, .int .i64 a2_1] (by rfl) rfl rfl mz ?_
            with_reducible refine (spec_l8Min.calls a1_1 a2_1 t168 _ A122.out).mono ?_
            rintro e w' ⟨rfl, ⟨nd, rfl⟩⟩
            refine ⟨_, rfl, ?_⟩
            refine hK.out _ _ ⟨bc BK140 0, bc BK140 1, bc BK141 0, bc BK141 1⟩ (fun hHeld => ?_)
            clear hK K
            refine norm_ (a' := ?_) ?_ ?_
            rotate_left
            ·show Act.put _ (some 74) _ = _
             simp only [Act.put, List.setIfInBounds_toArray, List.set_cons_zero, List.set_cons_succ, i64_w, i32_w]
             rfl
            refine one_ (i := 7) (N := some 75) #[T, T, T, T, T, T, T, T, F] rfl rfl (one_of HT_.out (by kernel_rfl)) (by decide) (fun K hK => ?_)
            refine goes_ Try.func54 (by kernel_rfl) rfl #[.int .i64 a1_0, .int .i64 t168] (by rfl) rfl rfl mz ?_
            with_reducible refine (spec_l8Cut.calls a1_0 t168 t169 t170 _ A123.out).mono ?_
            rintro e w127 ⟨rfl, hb⟩
            refine ⟨_, rfl, ?_⟩
            have n0_ := am (blk_below (g := gb140) (o := b2 a1_0 a1_1 24) (Z BK140) hb)
            have n1_ := am (blk_below (g := gb141) (o := b2 a2_0 a2_1 24) (Z BK141) hb)
            have n2_ := am (blk_below (g := gb142) (o := b2 0 0 24) (Z BK142) hb)
            have n3_ := am (blk_below (g := gb143) (o := b2 0 0 24) (Z BK143) hb)
            have n4_ := am (blk_below (g := gb146) (o := b2 x147000_104 x147001_104 24) (Z BK146) hb)
            have n5_ := am (blk_below (g := gb149) (o := b2 x150000_104 x150001_104 24) (Z BK149) hb)
            have n6_ := am (below_step (Y6 HB GE140 GE141 GE142 GE143 GE146 GE149) hb)
            clear BK140
            clear BK141
            clear BK142
            clear BK143
            clear BK146
            clear BK149
            clear HB
            have BK140 := n0_
            have BK141 := n1_
            have BK142 := n2_
            have BK143 := n3_
            have BK146 := n4_
            have BK149 := n5_
            have HB := n6_
            clear n0_ n1_ n2_ n3_ n4_ n5_ n6_
            (try clear hb)
            (try clear hb2)
            (try clear hk)
            (try clear hi)
            refine hK.out _ _ ⟨bc BK140 0, bc BK140 1, bc BK141 0, bc BK141 1⟩ (fun hHeld => ?_)
            clear hK K
            refine norm_ (a' := ?_) ?_ ?_
            rotate_left
            ·show Act.put _ (some 75) _ = _
             simp only [Act.put, List.setIfInBounds_toArray, List.set_cons_zero, List.set_cons_succ, i64_w, i32_w]
             rfl
            refine one_ (i := 8) (N := none) #[T, T, T, T, T, T, T, T, T] rfl rfl (one_of HT_.out (by kernel_rfl)) (by decide) (fun K hK => ?_)
            have hs128 : w127.cell? ⟨gb146, 0, none⟩ = some (.int .i64 x147000_104) := bc BK146 0
            have hfs128 := blk_frozen BK146.out 0
            have hns128_0 := NB140_146.out
            have hns128_1 := NB141_146.out
            have hns128_2 := NB142_146.out
            have hns128_3 := NB143_146.out
            have hns128_5 := NB149_146.out
            have hms128_0 := NB146_140.out
            have hms128_1 := NB146_141.out
            have hms128_2 := NB146_142.out
            have hms128_3 := NB146_143.out
            have hms128_5 := NB146_149.out
            have hs129 : w127.cell? ⟨gb146, 1, none⟩ = some (.int .i64 x147001_104) := bc BK146 1
            have hfs129 := blk_frozen BK146.out 1
            have hns129_0 := NB140_146.out
            have hns129_1 := NB141_146.out
            have hns129_2 := NB142_146.out
            have hns129_3 := NB143_146.out
            have hns129_5 := NB149_146.out
            have hms129_0 := NB146_140.out
            have hms129_1 := NB146_141.out
            have hms129_2 := NB146_142.out
            have hms129_3 := NB146_143.out
            have hms129_5 := NB146_149.out
            refine skip_ (w1 := ?_) (by rfl) rfl ?_ ?_
            rotate_left
            ·go_simp
             rfl
            refine hK.out _ _ ⟨((cell_far (p := ⟨gb146, _, none⟩) NB140_146.out _).trans (((cell_far (p := ⟨gb146, _, none⟩) NB140_146.out _).trans (hHeld.1)))), ((cell_far (p := ⟨gb146, _, none⟩) NB140_146.out _).trans (((cell_far (p := ⟨gb146, _, none⟩) NB140_146.out _).trans (hHeld.2.1)))), ((cell_far (p := ⟨gb146, _, none⟩) NB141_146.out _).trans (((cell_far (p := ⟨gb146, _, none⟩) NB141_146.out _).trans (hHeld.2.2.1)))), ((cell_far (p := ⟨gb146, _, none⟩) NB141_146.out _).trans (((cell_far (p := ⟨gb146, _, none⟩) NB141_146.out _).trans (hHeld.2.2.2))))⟩ (fun hHeld => ?_)
            clear hK K
            refine done_ (done_of HT_.out (by kernel_rfl)) ?_
            try go_wp2
            have n0_ : Aside0 (((w127.setCell ⟨gb146, 0, none⟩ (.int .i64 t169)).setCell ⟨gb146, 1, none⟩ (.int .i64 t170)).heap[gb140]? = some (.cells #[.int .i64 a1_0, .int .i64 a1_1] 24 (0, 0))) := ⟨by (with_reducible repeat (first | refine blk_drewN ?_ _ | refine blk_drew ?_ | refine blk_alloc ?_ _)); refine blk_far ?_ NB140_146.out _; (with_reducible repeat (first | refine blk_drewN ?_ _ | refine blk_drew ?_ | refine blk_alloc ?_ _)); refine blk_far ?_ NB140_146.out _; (with_reducible repeat (first | refine blk_drewN ?_ _ | refine blk_drew ?_ | refine blk_alloc ?_ _)); exact BK140.out⟩
            have n1_ : Aside0 (((w127.setCell ⟨gb146, 0, none⟩ (.int .i64 t169)).setCell ⟨gb146, 1, none⟩ (.int .i64 t170)).heap[gb141]? = some (.cells #[.int .i64 a2_0, .int .i64 a2_1] 24 (0, 0))) := ⟨by (with_reducible repeat (first | refine blk_drewN ?_ _ | refine blk_drew ?_ | refine blk_alloc ?_ _)); refine blk_far ?_ NB141_146.out _; (with_reducible repeat (first | refine blk_drewN ?_ _ | refine blk_drew ?_ | refine blk_alloc ?_ _)); refine blk_far ?_ NB141_146.out _; (with_reducible repeat (first | refine blk_drewN ?_ _ | refine blk_drew ?_ | refine blk_alloc ?_ _)); exact BK141.out⟩
            have n2_ : Aside0 (((w127.setCell ⟨gb146, 0, none⟩ (.int .i64 t169)).setCell ⟨gb146, 1, none⟩ (.int .i64 t170)).heap[gb142]? = some (.cells #[.int .i64 0, .int .i64 0] 24 (0, 0))) := ⟨by (with_reducible repeat (first | refine blk_drewN ?_ _ | refine blk_drew ?_ | refine blk_alloc ?_ _)); refine blk_far ?_ NB142_146.out _; (with_reducible repeat (first | refine blk_drewN ?_ _ | refine blk_drew ?_ | refine blk_alloc ?_ _)); refine blk_far ?_ NB142_146.out _; (with_reducible repeat (first | refine blk_drewN ?_ _ | refine blk_drew ?_ | refine blk_alloc ?_ _)); exact BK142.out⟩
            have n3_ : Aside0 (((w127.setCell ⟨gb146, 0, none⟩ (.int .i64 t169)).setCell ⟨gb146, 1, none⟩ (.int .i64 t170)).heap[gb143]? = some (.cells #[.int .i64 0, .int .i64 0] 24 (0, 0))) := ⟨by (with_reducible repeat (first | refine blk_drewN ?_ _ | refine blk_drew ?_ | refine blk_alloc ?_ _)); refine blk_far ?_ NB143_146.out _; (with_reducible repeat (first | refine blk_drewN ?_ _ | refine blk_drew ?_ | refine blk_alloc ?_ _)); refine blk_far ?_ NB143_146.out _; (with_reducible repeat (first | refine blk_drewN ?_ _ | refine blk_drew ?_ | refine blk_alloc ?_ _)); exact BK143.out⟩
            have n4_ : Aside0 (((w127.setCell ⟨gb146, 0, none⟩ (.int .i64 t169)).setCell ⟨gb146, 1, none⟩ (.int .i64 t170)).heap[gb146]? = some (.cells #[.int .i64 t169, .int .i64 t170] 24 (0, 0))) := ⟨by (with_reducible repeat (first | refine blk_drewN ?_ _ | refine blk_drew ?_ | refine blk_alloc ?_ _)); refine blk_put (cs := #[.int .i64 t169, .int .i64 x147001_104]) ?_ 1 _ rfl; (with_reducible repeat (first | refine blk_drewN ?_ _ | refine blk_drew ?_ | refine blk_alloc ?_ _)); refine blk_put (cs := #[.int .i64 x147000_104, .int .i64 x147001_104]) ?_ 0 _ rfl; (with_reducible repeat (first | refine blk_drewN ?_ _ | refine blk_drew ?_ | refine blk_alloc ?_ _)); exact BK146.out⟩
            have n5_ : Aside0 (((w127.setCell ⟨gb146, 0, none⟩ (.int .i64 t169)).setCell ⟨gb146, 1, none⟩ (.int .i64 t170)).heap[gb149]? = some (.cells #[.int .i64 x150000_104, .int .i64 x150001_104] 24 (0, 0))) := ⟨by (with_reducible repeat (first | refine blk_drewN ?_ _ | refine blk_drew ?_ | refine blk_alloc ?_ _)); refine blk_far ?_ NB149_146.out _; (with_reducible repeat (first | refine blk_drewN ?_ _ | refine blk_drew ?_ | refine blk_alloc ?_ _)); refine blk_far ?_ NB149_146.out _; (with_reducible repeat (first | refine blk_drewN ?_ _ | refine blk_drew ?_ | refine blk_alloc ?_ _)); exact BK149.out⟩
            have n6_ : Aside0 (Below w.heap.size w ((w127.setCell ⟨gb146, 0, none⟩ (.int .i64 t169)).setCell ⟨gb146, 1, none⟩ (.int .i64 t170))) := ⟨Y6 HB GE140 GE141 GE142 GE143 GE146 GE149⟩
            (try clear BK140)
            (try clear BK141)
            (try clear BK142)
            (try clear BK143)
            (try clear BK146)
            (try clear BK149)
            (try clear HB)
            generalize ((w127.setCell ⟨gb146, 0, none⟩ (.int .i64 t169)).setCell ⟨gb146, 1, none⟩ (.int .i64 t170)) = w130 at n0_ n1_ n2_ n3_ n4_ n5_ n6_ ⊢
            have BK140 := n0_
            have BK141 := n1_
            have BK142 := n2_
            have BK143 := n3_
            have BK146 := n4_
            have BK149 := n5_
            have HB := n6_
            clear n0_ n1_ n2_ n3_ n4_ n5_ n6_
            have n0_ := am (blk_drew BK140.out)
            have n1_ := am (blk_drew BK141.out)
            have n2_ := am (blk_drew BK142.out)
            have n3_ := am (blk_drew BK143.out)
            have n4_ := am (blk_drew BK146.out)
            have n5_ := am (blk_drew BK149.out)
            have n6_ := am (below_drew1 HB.out)
            clear BK140
            clear BK141
            clear BK142
            clear BK143
            clear BK146
            clear BK149
            clear HB
            have BK140 := n0_
            have BK141 := n1_
            have BK142 := n2_
            have BK143 := n3_
            have BK146 := n4_
            have BK149 := n5_
            have HB := n6_
            clear n0_ n1_ n2_ n3_ n4_ n5_ n6_
            refine start_ (n := 9) (S := fun w' => w'.cell? ⟨gb141, 0, none⟩ = some (.int .i64 a2_0) ∧ w'.cell? ⟨gb141, 1, none⟩ = some (.int .i64 a2_1) ∧ w'.cell? ⟨gb140, 0, none⟩ = some (.int .i64 a1_0) ∧ w'.cell? ⟨gb140, 1, none⟩ = some (.int .i64 a1_1)) (ds := []) #[F, F, F, F, F, F, F, F, F] (by kernel_rfl) rfl rfl ⟨bc BK141 0, bc BK141 1, bc BK140 0, bc BK140 1⟩ (fun hHeld => ?_); refine with_tabW spec_RangeCmp.tab16 spec_RangeCmp.bits16 (fun HT_ HW_ => ?_)
            generalize w130.drew = w131 at BK140 BK141 BK142 BK143 BK146 BK149 HB hHeld ⊢
            refine pure_ (i := 0) (N := some 76) (v := ?_) (a' := ?_) #[T, F, F, F, F, F, F, F, F] rfl rfl (any_of HT_.out (by kernel_rfl)) (fun _ _ _ h => h) (Or.inl ⟨by rfl, ?_⟩) ?_ ?_
            rotate_left
            ·exact gz
            rotate_left
            ·exact pz
            refine pure_ (i := 2) (N := some 78) (v := ?_) (a' := ?_) #[T, F, T, F, F, F, F, F, F] rfl rfl (any_of HT_.out (by kernel_rfl)) (fun _ _ _ h => h) (Or.inl ⟨by rfl, ?_⟩) ?_ ?_
            rotate_left
            ·exact gz
            rotate_left
            ·exact pz
            refine pure_ (i := 5) (N := some 81) (v := ?_) (a' := ?_) #[T, F, T, F, F, T, F, F, F] rfl rfl (any_of HT_.out (by kernel_rfl)) (fun _ _ _ h => h) (Or.inl ⟨by rfl, ?_⟩) ?_ ?_
            rotate_left
            ·exact gz
            rotate_left
            ·exact pz
            refine take_ (i := 1) (N := some 77) (v := ?_) (a' := ?_) #[T, T, T, F, F, T, F, F, F] rfl rfl (take_ofW HT_.out HW_.out (by kernel_rfl)) (fun _ _ _ h => h) (Or.inl ⟨by rfl, ?_⟩) hHeld ?_ ?_
            rotate_left
            ·rintro w' ⟨s0, s1, s2, s3⟩
             go_simp
             with_reducible rfl
            rotate_left
            ·exact pz
            refine take_ (i := 3) (N := some 79) (v := ?_) (a' := ?_) #[T, T, T, T, F, T, F, F, F] rfl rfl (take_ofW HT_.out HW_.out (by kernel_rfl)) (fun _ _ _ h => h) (Or.inl ⟨by rfl, ?_⟩) hHeld ?_ ?_
            rotate_left
            ·rintro w' ⟨s0, s1, s2, s3⟩
             go_simp
             with_reducible rfl
            rotate_left
            ·exact pz
            refine take_ (i := 6) (N := some 82) (v := ?_) (a' := ?_) #[T, T, T, T, F, T, T, F, F] rfl rfl (take_ofW HT_.out HW_.out (by kernel_rfl)) (fun _ _ _ h => h) (Or.inl ⟨by rfl, ?_⟩) hHeld ?_ ?_
            rotate_left
            ·rintro w' ⟨s0, s1, s2, s3⟩
             go_simp
             with_reducible rfl
            rotate_left
            ·exact pz
            refine one_ (i := 4) (N := some 80) #[T, T, T, T, T, T, T, F, F] rfl rfl (one_of HT_.out (by kernel_rfl)) (by decide) (fun K hK => ?_)
            refine goes_ Try.func50 (by kernel_rfl) rfl #[.int .i64 a2_0, .int .i64 a1_0] (by rfl) rfl rfl mz ?_
            with_reducible refine (spec_l8Max.calls a2_0 a1_0 t171 _ A124.out).mono ?_
            rintro e w' ⟨rfl, ⟨nd, rfl⟩⟩
            refine ⟨_, rfl, ?_⟩
            refine hK.out _ _ ⟨bc BK141 0, bc BK141 1, bc BK140 0, bc BK140 1⟩ (fun hHeld => ?_)
            clear hK K
            refine norm_ (a' := ?_) ?_ ?_
            rotate_left
            ·show Act.put _ (some 80) _ = _
             simp only [Act.put, List.setIfInBounds_toArray, List.set_cons_zero, List.set_cons_succ, i64_w, i32_w]
             rfl
            refine one_ (i := 7) (N := some 83) #[T, T, T, T, T, T, T, T, F] rfl rfl (one_of HT_.out (by kernel_rfl)) (by decide) (fun K hK => ?_)
            refine goes_ Try.func54 (by kernel_rfl) rfl #[.int .i64 t171, .int .i64 a2_1] (by rfl) rfl rfl mz ?_
            with_reducible refine (spec_l8Cut.calls t171 a2_1 t172 t173 _ A125.out).mono ?_
            rintro e w132 ⟨rfl, hb⟩
            refine ⟨_, rfl, ?_⟩
            have n0_ := am (blk_below (g := gb140) (o := b2 a1_0 a1_1 24) (Z BK140) hb)
            have n1_ := am (blk_below (g := gb141) (o := b2 a2_0 a2_1 24) (Z BK141) hb)
            have n2_ := am (blk_below (g := gb142) (o := b2 0 0 24) (Z BK142) hb)
            have n3_ := am (blk_below (g := gb143) (o := b2 0 0 24) (Z BK143) hb)
            have n4_ := am (blk_below (g := gb146) (o := b2 t169 t170 24) (Z BK146) hb)
            have n5_ := am (blk_below (g := gb149) (o := b2 x150000_104 x150001_104 24) (Z BK149) hb)
            have n6_ := am (below_step (Y6 HB GE140 GE141 GE142 GE143 GE146 GE149) hb)
            clear BK140
            clear BK141
            clear BK142
            clear BK143
            clear BK146
            clear BK149
            clear HB
            have BK140 := n0_
            have BK141 := n1_
            have BK142 := n2_
            have BK143 := n3_
            have BK146 := n4_
            have BK149 := n5_
            have HB := n6_
            clear n0_ n1_ n2_ n3_ n4_ n5_ n6_
            (try clear hb)
            (try clear hb2)
            (try clear hk)
            (try clear hi)
            refine hK.out _ _ ⟨bc BK141 0, bc BK141 1, bc BK140 0, bc BK140 1⟩ (fun hHeld => ?_)
            clear hK K
            refine norm_ (a' := ?_) ?_ ?_
            rotate_left
            ·show Act.put _ (some 83) _ = _
             simp only [Act.put, List.setIfInBounds_toArray, List.set_cons_zero, List.set_cons_succ, i64_w, i32_w]
             rfl
            refine one_ (i := 8) (N := none) #[T, T, T, T, T, T, T, T, T] rfl rfl (one_of HT_.out (by kernel_rfl)) (by decide) (fun K hK => ?_)
            have hs133 : w132.cell? ⟨gb149, 0, none⟩ = some (.int .i64 x150000_104) := bc BK149 0
            have hfs133 := blk_frozen BK149.out 0
            have hns133_0 := NB140_149.out
            have hns133_1 := NB141_149.out
            have hns133_2 := NB142_149.out
            have hns133_3 := NB143_149.out
            have hns133_4 := NB146_149.out
            have hms133_0 := NB149_140.out
            have hms133_1 := NB149_141.out
            have hms133_2 := NB149_142.out
            have hms133_3 := NB149_143.out
            have hms133_4 := NB149_146.out
            have hs134 : w132.cell? ⟨gb149, 1, none⟩ = some (.int .i64 x150001_104) := bc BK149 1
            have hfs134 := blk_frozen BK149.out 1
            have hns134_0 := NB140_149.out
            have hns134_1 := NB141_149.out
            have hns134_2 := NB142_149.out
            have hns134_3 := NB143_149.out
            have hns134_4 := NB146_149.out
            have hms134_0 := NB149_140.out
            have hms134_1 := NB149_141.out
            have hms134_2 := NB149_142.out
            have hms134_3 := NB149_143.out
            have hms134_4 := NB149_146.out
            refine skip_ (w1 := ?_) (by rfl) rfl ?_ ?_
            rotate_left
            ·go_simp
             rfl
            refine hK.out _ _ ⟨((cell_far (p := ⟨gb149, _, none⟩) NB141_149.out _).trans (((cell_far (p := ⟨gb149, _, none⟩) NB141_149.out _).trans (hHeld.1)))), ((cell_far (p := ⟨gb149, _, none⟩) NB141_149.out _).trans (((cell_far (p := ⟨gb149, _, none⟩) NB141_149.out _).trans (hHeld.2.1)))), ((cell_far (p := ⟨gb149, _, none⟩) NB140_149.out _).trans (((cell_far (p := ⟨gb149, _, none⟩) NB140_149.out _).trans (hHeld.2.2.1)))), ((cell_far (p := ⟨gb149, _, none⟩) NB140_149.out _).trans (((cell_far (p := ⟨gb149, _, none⟩) NB140_149.out _).trans (hHeld.2.2.2))))⟩ (fun hHeld => ?_)
            clear hK K
            refine done_ (done_of HT_.out (by kernel_rfl)) ?_
            try go_wp2
            go_meet
            case rel => exact ⟨_, (t169), (t170), (t172), (t173), H', ⟨by have := HJ5.out; have := HJ56.out; have := HJ78.out; have := HJ104.out; first | omega | exact Nat.le_refl _⟩, ⟨by (with_reducible repeat (first | refine blk_drewN ?_ _ | refine blk_drew ?_ | refine blk_alloc ?_ _)); refine blk_far ?_ NB140_149.out _; (with_reducible repeat (first | refine blk_drewN ?_ _ | refine blk_drew ?_ | refine blk_alloc ?_ _)); refine blk_far ?_ NB140_149.out _; (with_reducible repeat (first | refine blk_drewN ?_ _ | refine blk_drew ?_ | refine blk_alloc ?_ _)); exact BK140.out⟩, ⟨by (with_reducible repeat (first | refine blk_drewN ?_ _ | refine blk_drew ?_ | refine blk_alloc ?_ _)); refine blk_far ?_ NB141_149.out _; (with_reducible repeat (first | refine blk_drewN ?_ _ | refine blk_drew ?_ | refine blk_alloc ?_ _)); refine blk_far ?_ NB141_149.out _; (with_reducible repeat (first | refine blk_drewN ?_ _ | refine blk_drew ?_ | refine blk_alloc ?_ _)); exact BK141.out⟩, ⟨by (with_reducible repeat (first | refine blk_drewN ?_ _ | refine blk_drew ?_ | refine blk_alloc ?_ _)); refine blk_far ?_ NB142_149.out _; (with_reducible repeat (first | refine blk_drewN ?_ _ | refine blk_drew ?_ | refine blk_alloc ?_ _)); refine blk_far ?_ NB142_149.out _; (with_reducible repeat (first | refine blk_drewN ?_ _ | refine blk_drew ?_ | refine blk_alloc ?_ _)); exact BK142.out⟩, ⟨by (with_reducible repeat (first | refine blk_drewN ?_ _ | refine blk_drew ?_ | refine blk_alloc ?_ _)); refine blk_far ?_ NB143_149.out _; (with_reducible repeat (first | refine blk_drewN ?_ _ | refine blk_drew ?_ | refine blk_alloc ?_ _)); refine blk_far ?_ NB143_149.out _; (with_reducible repeat (first | refine blk_drewN ?_ _ | refine blk_drew ?_ | refine blk_alloc ?_ _)); exact BK143.out⟩, ⟨by (with_reducible repeat (first | refine blk_drewN ?_ _ | refine blk_drew ?_ | refine blk_alloc ?_ _)); refine blk_far ?_ NB146_149.out _; (with_reducible repeat (first | refine blk_drewN ?_ _ | refine blk_drew ?_ | refine blk_alloc ?_ _)); refine blk_far ?_ NB146_149.out _; (with_reducible repeat (first | refine blk_drewN ?_ _ | refine blk_drew ?_ | refine blk_alloc ?_ _)); exact BK146.out⟩, ⟨by (with_reducible repeat (first | refine blk_drewN ?_ _ | refine blk_drew ?_ | refine blk_alloc ?_ _)); refine blk_put (cs := #[.int .i64 t172, .int .i64 x150001_104]) ?_ 1 _ rfl; (with_reducible repeat (first | refine blk_drewN ?_ _ | refine blk_drew ?_ | refine blk_alloc ?_ _)); refine blk_put (cs := #[.int .i64 x150000_104, .int .i64 x150001_104]) ?_ 0 _ rfl; (with_reducible repeat (first | refine blk_drewN ?_ _ | refine blk_drew ?_ | refine blk_alloc ?_ _)); exact BK149.out⟩, ⟨Y6 HB GE140 GE141 GE142 GE143 GE146 GE149⟩⟩
           ·rw [if_neg c121] at H
            have c121b0 : (a0 == 4) = false := beq_eq_false_iff_ne.mpr c121
            have c121b1 : (a0 != 4) = true := bne_iff_ne.mpr c121
            (first | rw [c121b0] | (simp only [i64_w, i32_w]; rw [c121b0]) | skip)
            have H' := am H
            clear H
            go_wp2
            go_meet
            case rel => exact ⟨_, (x147000_104), (x147001_104), (x150000_104), (x150001_104), H', ⟨by have := HJ5.out; have := HJ56.out; have := HJ78.out; have := HJ104.out; first | omega | exact Nat.le_refl _⟩, ⟨Z BK140⟩, ⟨Z BK141⟩, ⟨Z BK142⟩, ⟨Z BK143⟩, ⟨Z BK146⟩, ⟨Z BK149⟩, ⟨Y6 HB GE140 GE141 GE142 GE143 GE146 GE149⟩⟩
          case rest =>
           clear HC120
           try clear c1
           try clear c2
           try clear p2
           try clear c4
           try clear c5
           try clear c6
           try clear p6
           try clear c7
           try clear c8
           try clear c9
           try clear c10
           try clear c12
           try clear c19
           try clear c27
           try clear c29
           try clear c47
           try clear c48
           try clear c49
           try clear c50
           try clear c51
           try clear c54
           try clear c58
           try clear c58b0
           try clear c58b1
           try clear c59
           try clear c60
           try clear c61
           try clear c62
           try clear c63
           try clear c64
           try clear p64
           try clear c66
           try clear c67
           try clear c68
           try clear c69
           try clear c72
           try clear c73
           try clear c74
           try clear c76
           try clear c77
           try clear c80
           try clear c80b0
           try clear c80b1
           try clear c83
           try clear c84
           try clear c85
           try clear c86
           try clear c87
           try clear c89
           try clear c90
           try clear c91
           try clear c92
           try clear c95
           try clear c96
           try clear c97
           try clear c102
           try clear c103
           try clear c106
           try clear c106b0
           try clear c106b1
           try clear c121
           try clear c121b0
           try clear c121b1
           try clear hcz100_0
           try clear hcz100_1
           try clear hcz104_0
           try clear hcz104_1
           try clear hcz65_0
           try clear hcz65_1
           try clear hcz70_0
           try clear hcz70_1
           try clear hcz75_0
           try clear hcz75_1
           try clear hcz78_0
           try clear hcz78_1
           try clear hcz88_0
           try clear hcz88_1
           try clear hcz93_0
           try clear hcz93_1
           try clear hcz98_0
           try clear hcz98_1
           try clear hcz99_0
           try clear hcz99_1
           try clear hfz100_0
           try clear hfz100_1
           try clear hfz104_0
           try clear hfz104_1
           try clear hfz65_0
           try clear hfz65_1
           try clear hfz70_0
           try clear hfz70_1
           try clear hfz75_0
           try clear hfz75_1
           try clear hfz78_0
           try clear hfz78_1
           try clear hfz88_0
           try clear hfz88_1
           try clear hfz93_0
           try clear hfz93_1
           try clear hfz98_0
           try clear hfz98_1
           try clear hfz99_0
           try clear hfz99_1
           try clear p2
           try clear p6
           try clear p64
           obtain ⟨kq, x147000_119, x147001_119, x150000_119, x150001_119, HA, HJ119, BK140, BK141, BK142, BK143, BK146, BK149, HB⟩ := hcut
           cases kq with
           | zero => exact absurd HA.out (by simp [spec_RangeCmp.j4])
           | succ kj119 =>
            have H := HA.out
            clear HA
            simp only [spec_RangeCmp.j4] at H
            have HC135 := am H
            clear H
            go_upto_region 17 with (fail)
            go_cut [89] (fun v89 wc => ∃ (kq : Nat) (x89_134 : Bool), v89 = .bool x89_134 ∧ Aside0 (spec_RangeCmp.j5 kq a0 x89_134 a1_0 a1_1 a2_0 a2_1 x147000_119 x147001_119 x150000_119 x150001_119 = some (r1, r2, r3, r4)) ∧ Aside0 (kq ≤ kj119) ∧ Aside0 (wc.heap[gb140]? = some (.cells #[.int .i64 a1_0, .int .i64 a1_1] 24 (0, 0))) ∧ Aside0 (wc.heap[gb141]? = some (.cells #[.int .i64 a2_0, .int .i64 a2_1] 24 (0, 0))) ∧ Aside0 (wc.heap[gb142]? = some (.cells #[.int .i64 0, .int .i64 0] 24 (0, 0))) ∧ Aside0 (wc.heap[gb143]? = some (.cells #[.int .i64 0, .int .i64 0] 24 (0, 0))) ∧ Aside0 (wc.heap[gb146]? = some (.cells #[.int .i64 x147000_119, .int .i64 x147001_119] 24 (0, 0))) ∧ Aside0 (wc.heap[gb149]? = some (.cells #[.int .i64 x150000_119, .int .i64 x150001_119] 24 (0, 0))) ∧ Aside0 (Below w.heap.size w wc))
            case first =>
             have H := HC135.out
             clear HC135
             by_cases c136 : a0 = 5
             ·rw [if_pos c136] at H
              have c136b0 : (a0 == 5) = true := beq_iff_eq.mpr c136
              have c136b1 : (a0 != 5) = false := bne_eq_false_iff_eq.mpr c136
              clear c136
              (first | rw [c136b0] | (simp only [i64_w, i32_w]; rw [c136b0]) | skip)
              have H' := am H
              clear H
              go_wp2
              go_meet
              case rel => exact ⟨_, (true), (by first | rfl | (simp; done) | (simp [*]; done)), H', ⟨by have := HJ5.out; have := HJ56.out; have := HJ78.out; have := HJ104.out; have := HJ119.out; first | omega | exact Nat.le_refl _⟩, ⟨Z BK140⟩, ⟨Z BK141⟩, ⟨Z BK142⟩, ⟨Z BK143⟩, ⟨Z BK146⟩, ⟨Z BK149⟩, ⟨Y6 HB GE140 GE141 GE142 GE143 GE146 GE149⟩⟩
             ·rw [if_neg c136] at H
              have c136b0 : (a0 == 5) = false := beq_eq_false_iff_ne.mpr c136
              have c136b1 : (a0 != 5) = true := bne_iff_ne.mpr c136
              (first | rw [c136b0] | (simp only [i64_w, i32_w]; rw [c136b0]) | skip)
              have H' := am H
              clear H
              go_wp2
              go_meet
              case rel => exact ⟨_, ((a0 == 6)), (by first | rfl | (simp; done) | (simp [*]; done)), H', ⟨by have := HJ5.out; have := HJ56.out; have := HJ78.out; have := HJ104.out; have := HJ119.out; first | omega | exact Nat.le_refl _⟩, ⟨Z BK140⟩, ⟨Z BK141⟩, ⟨Z BK142⟩, ⟨Z BK143⟩, ⟨Z BK146⟩, ⟨Z BK149⟩, ⟨Y6 HB GE140 GE141 GE142 GE143 GE146 GE149⟩⟩
            case rest =>
             clear HC135
             try clear c1
             try clear c2
             try clear p2
             try clear c4
             try clear c5
             try clear c6
             try clear p6
             try clear c7
             try clear c8
             try clear c9
             try clear c10
             try clear c12
             try clear c13
             try clear c19
             try clear c27
             try clear c29
             try clear c47
             try clear c48
             try clear c49
             try clear c50
             try clear c51
             try clear c54
             try clear c58
             try clear c58b0
             try clear c58b1
             try clear c59
             try clear c60
             try clear c61
             try clear c62
             try clear c63
             try clear c64
             try clear p64
             try clear c66
             try clear c67
             try clear c68
             try clear c69
             try clear c72
             try clear c73
             try clear c74
             try clear c76
             try clear c77
             try clear c80
             try clear c80b0
             try clear c80b1
             try clear c83
             try clear c84
             try clear c85
             try clear c86
             try clear c87
             try clear c89
             try clear c90
             try clear c91
             try clear c92
             try clear c95
             try clear c96
             try clear c97
             try clear c102
             try clear c103
             try clear c106
             try clear c106b0
             try clear c106b1
             try clear c121
             try clear c121b0
             try clear c121b1
             try clear c136
             try clear c136b0
             try clear c136b1
             try clear hcz100_0
             try clear hcz100_1
             try clear hcz104_0
             try clear hcz104_1
             try clear hcz65_0
             try clear hcz65_1
             try clear hcz70_0
             try clear hcz70_1
             try clear hcz75_0
             try clear hcz75_1
             try clear hcz78_0
             try clear hcz78_1
             try clear hcz88_0
             try clear hcz88_1
             try clear hcz93_0
             try clear hcz93_1
             try clear hcz98_0
             try clear hcz98_1
             try clear hcz99_0
             try clear hcz99_1
             try clear hfz100_0
             try clear hfz100_1
             try clear hfz104_0
             try clear hfz104_1
             try clear hfz65_0
             try clear hfz65_1
             try clear hfz70_0
             try clear hfz70_1
             try clear hfz75_0
             try clear hfz75_1
             try clear hfz78_0
             try clear hfz78_1
             try clear hfz88_0
             try clear hfz88_1
             try clear hfz93_0
             try clear hfz93_1
             try clear hfz98_0
             try clear hfz98_1
             try clear hfz99_0
             try clear hfz99_1
             try clear p2
             try clear p6
             try clear p64
             obtain ⟨kq, x89_134, rfl, HA, HJ134, BK140, BK141, BK142, BK143, BK146, BK149, HB⟩ := hcut
             cases kq with
             | zero => exact absurd HA.out (by simp [spec_RangeCmp.j5])
             | succ kj134 =>
              have H := HA.out
              clear HA
              simp only [spec_RangeCmp.j5] at H
              have HC137 := am H
              clear H
              go_upto_if 89 with (fail)
              go_cut [] (fun wc => ∃ (kq : Nat) (x147000_136 : Int) (x147001_136 : Int) (x150000_136 : Int) (x150001_136 : Int), Aside0 (spec_RangeCmp.j6 kq x147000_136 x147001_136 x150000_136 x150001_136 = some (r1, r2, r3, r4)) ∧ Aside0 (kq ≤ kj134) ∧ Aside0 (wc.heap[gb140]? = some (.cells #[.int .i64 a1_0, .int .i64 a1_1] 24 (0, 0))) ∧ Aside0 (wc.heap[gb141]? = some (.cells #[.int .i64 a2_0, .int .i64 a2_1] 24 (0, 0))) ∧ Aside0 (wc.heap[gb142]? = some (.cells #[.int .i64 0, .int .i64 0] 24 (0, 0))) ∧ Aside0 (wc.heap[gb143]? = some (.cells #[.int .i64 0, .int .i64 0] 24 (0, 0))) ∧ Aside0 (wc.heap[gb146]? = some (.cells #[.int .i64 x147000_136, .int .i64 x147001_136] 24 (0, 0))) ∧ Aside0 (wc.heap[gb149]? = some (.cells #[.int .i64 x150000_136, .int .i64 x150001_136] 24 (0, 0))) ∧ Aside0 (Below w.heap.size w wc))
              case first =>
               have H := HC137.out
               clear HC137
               by_cases c138 : x89_134 = true
               ·subst c138
                have H1 : ((spec_CmpTurn.f a0).bind fun t174 => ((spec_RangeCmp.f kj134 t174 a2_0 a2_1 a1_0 a1_1).bind fun bt175 => (spec_RangeCmp.j6 kj134 bt175.2.2.1 bt175.2.2.2 bt175.1 bt175.2.1))) = some (r1, r2, r3, r4) := by rw [if_pos rfl] at H; exact H
                clear H
                have H := H1
                clear H1
                replace H := Option.bind_eq_some_iff.mp H
                obtain ⟨t174, A1390, H⟩ := H
                replace H : ((spec_RangeCmp.f kj134 t174 a2_0 a2_1 a1_0 a1_1).bind fun bt175 => (spec_RangeCmp.j6 kj134 bt175.2.2.1 bt175.2.2.2 bt175.1 bt175.2.1)) = some (r1, r2, r3, r4) := H
                have A139 := am A1390
                clear A1390
                replace H := Option.bind_eq_some_iff.mp H
                obtain ⟨⟨t175, t176, t177, t178⟩, A1400, H⟩ := H
                replace H : (spec_RangeCmp.j6 kj134 t177 t178 t175 t176) = some (r1, r2, r3, r4) := H
                have A140 := am A1400
                clear A1400
                have H' := am H
                clear H
                try go_wp2
                have n0_ := am (blk_drew BK140.out)
                have n1_ := am (blk_drew BK141.out)
                have n2_ := am (blk_drew BK142.out)
                have n3_ := am (blk_drew BK143.out)
                have n4_ := am (blk_drew BK146.out)
                have n5_ := am (blk_drew BK149.out)
                have n6_ := am (below_drew1 HB.out)
                clear BK140
                clear BK141
                clear BK142
                clear BK143
                clear BK146
                clear BK149
                clear HB
                have BK140 := n0_
                have BK141 := n1_
                have BK142 := n2_
                have BK143 := n3_
                have BK146 := n4_
                have BK149 := n5_
                have HB := n6_
                clear n0_ n1_ n2_ n3_ n4_ n5_ n6_
                refine start_ (n := 10) (S := fun w' => w'.cell? ⟨gb141, 0, none⟩ = some (.int .i64 a2_0) ∧ w'.cell? ⟨gb141, 1, none⟩ = some (.int .i64 a2_1) ∧ w'.cell? ⟨gb140, 0, none⟩ = some (.int .i64 a1_0) ∧ w'.cell? ⟨gb140, 1, none⟩ = some (.int .i64 a1_1)) (ds := []) #[F, F, F, F, F, F, F, F, F, F] (by kernel_rfl) rfl rfl ⟨bc BK141 0, bc BK141 1, bc BK140 0, bc BK140 1⟩ (fun hHeld => ?_); refine with_tabW spec_RangeCmp.tab18 spec_RangeCmp.bits18 (fun HT_ HW_ => ?_)
                generalize wc.drew = w141 at BK140 BK141 BK142 BK143 BK146 BK149 HB hHeld ⊢
                refine pure_ (i := 0) (N := some 91) (v := ?_) (a' := ?_) #[T, F, F, F, F, F, F, F, F, F] rfl rfl (any_of HT_.out (by kernel_rfl)) (fun _ _ _ h => h) (Or.inl ⟨by rfl, ?_⟩) ?_ ?_
                rotate_left
                ·exact gz
                rotate_left
                ·exact pz
                refine take_ (i := 2) (N := some 93) (v := ?_) (a' := ?_) #[T, F, T, F, F, F, F, F, F, F] rfl rfl (take_ofW HT_.out HW_.out (by kernel_rfl)) (fun _ _ _ h => h) (Or.inl ⟨by rfl, ?_⟩) hHeld ?_ ?_
                rotate_left
                ·rintro w' ⟨s0, s1, s2, s3⟩
                 go_simp
                 with_reducible rfl
                rotate_left
                ·exact pz
                refine take_ (i := 3) (N := some 94) (v := ?_) (a' := ?_) #[T, F, T, T, F, F, F, F, F, F] rfl rfl (take_ofW HT_.out HW_.out (by kernel_rfl)) (fun _ _ _ h => h) (Or.inl ⟨by rfl, ?_⟩) hHeld ?_ ?_
                rotate_left
                ·rintro w' ⟨s0, s1, s2, s3⟩
                 go_simp
                 with_reducible rfl
                rotate_left
                ·exact pz
                refine one_ (i := 1) (N := some 92) #[T, T, T, T, F, F, F, F, F, F] rfl rfl (one_of HT_.out (by kernel_rfl)) (by decide) (fun K hK => ?_)
                refine goes_ Try.func60 (by kernel_rfl) rfl #[.int .i64 a0] (by rfl) rfl rfl mz ?_
                with_reducible refine (spec_CmpTurn.calls a0 t174 _ A139.out).mono ?_
                rintro e w' ⟨rfl, ⟨nd, rfl⟩⟩
                refine ⟨_, rfl, ?_⟩
                refine hK.out _ _ ⟨bc BK141 0, bc BK141 1, bc BK140 0, bc BK140 1⟩ (fun hHeld => ?_)
                clear hK K
                refine norm_ (a' := ?_) ?_ ?_
                rotate_left
                ·show Act.put _ (some 92) _ = _
                 simp only [Act.put, List.setIfInBounds_toArray, List.set_cons_zero, List.set_cons_succ, i64_w, i32_w]
                 rfl
                refine one_ (i := 4) (N := some 95) #[T, T, T, T, T, F, F, F, F, F] rfl rfl (one_of HT_.out (by kernel_rfl)) (by decide) (fun K hK => ?_)
                refine goes_ Try.func25 (by kernel_rfl) rfl #[.int .i64 t174, .agg #[.int .i64 a2_0, .int .i64 a2_1], .agg #[.int .i64 a1_0, .int .i64 a1_1]] (by rfl) rfl rfl mz ?_
                with_reducible refine (ih kj134 (by have := HJ5.out; have := HJ56.out; have := HJ78.out; have := HJ104.out; have := HJ119.out; have := HJ134.out; omega) t174 a2_0 a2_1 a1_0 a1_1 t175 t176 t177 t178 _ A140.out).mono ?_
                rintro e w142 ⟨rfl, hb⟩
                refine ⟨_, rfl, ?_⟩
                have n0_ := am (blk_below (g := gb140) (o := b2 a1_0 a1_1 24) (Z BK140) hb)
                have n1_ := am (blk_below (g := gb141) (o := b2 a2_0 a2_1 24) (Z BK141) hb)
                have n2_ := am (blk_below (g := gb142) (o := b2 0 0 24) (Z BK142) hb)
                have n3_ := am (blk_below (g := gb143) (o := b2 0 0 24) (Z BK143) hb)
                have n4_ := am (blk_below (g := gb146) (o := b2 x147000_119 x147001_119 24) (Z BK146) hb)
                have n5_ := am (blk_below (g := gb149) (o := b2 x150000_119 x150001_119 24) (Z BK149) hb)
                have n6_ := am (below_step (Y6 HB GE140 GE141 GE142 GE143 GE146 GE149) hb)
                clear BK140
                clear BK141
                clear BK142
                clear BK143
                clear BK146
                clear BK149
                clear HB
                have BK140 := n0_
                have BK141 := n1_
                have BK142 := n2_
                have BK143 := n3_
                have BK146 := n4_
                have BK149 := n5_
                have HB := n6_
                clear n0_ n1_ n2_ n3_ n4_ n5_ n6_
                (try clear hb)
                (try clear hb2)
                (try clear hk)
                (try clear hi)
                refine hK.out _ _ ⟨bc BK141 0, bc BK141 1, bc BK140 0, bc BK140 1⟩ (fun hHeld => ?_)
                clear hK K
                refine norm_ (a' := ?_) ?_ ?_
                rotate_left
                ·show Act.put _ (some 95) _ = _
                 simp only [Act.put, List.setIfInBounds_toArray, List.set_cons_zero, List.set_cons_succ, i64_w, i32_w]
                 rfl
                refine pure_ (i := 5) (N := some 90) (v := ?_) (a' := ?_) #[T, T, T, T, T, T, F, F, F, F] rfl rfl (any_of HT_.out (by kernel_rfl)) (fun _ _ _ h => h) (Or.inl ⟨by rfl, ?_⟩) ?_ ?_
                rotate_left
                ·exact gz
                rotate_left
                ·exact pz
                refine pure_ (i := 6) (N := some 96) (v := ?_) (a' := ?_) #[T, T, T, T, T, T, T, F, F, F] rfl rfl (any_of HT_.out (by kernel_rfl)) (fun _ _ _ h => h) (Or.inl ⟨by rfl, ?_⟩) ?_ ?_
                rotate_left
                ·exact gz
                rotate_left
                ·exact pz
                refine pure_ (i := 7) (N := some 97) (v := ?_) (a' := ?_) #[T, T, T, T, T, T, T, T, F, F] rfl rfl (any_of HT_.out (by kernel_rfl)) (fun _ _ _ h => h) (Or.inl ⟨by rfl, ?_⟩) ?_ ?_
                rotate_left
                ·exact gz
                rotate_left
                ·exact pz
                refine one_ (i := 8) (N := none) #[T, T, T, T, T, T, T, T, T, F] rfl rfl (one_of HT_.out (by kernel_rfl)) (by decide) (fun K hK => ?_)
                have hs143 : w142.cell? ⟨gb149, 0, none⟩ = some (.int .i64 x150000_119) := bc BK149 0
                have hfs143 := blk_frozen BK149.out 0
                have hns143_0 := NB140_149.out
                have hns143_1 := NB141_149.out
                have hns143_2 := NB142_149.out
                have hns143_3 := NB143_149.out
                have hns143_4 := NB146_149.out
                have hms143_0 := NB149_140.out
                have hms143_1 := NB149_141.out
                have hms143_2 := NB149_142.out
                have hms143_3 := NB149_143.out
                have hms143_4 := NB149_146.out
                have hs144 : w142.cell? ⟨gb149, 1, none⟩ = some (.int .i64 x150001_119) := bc BK149 1
                have hfs144 := blk_frozen BK149.out 1
                have hns144_0 := NB140_149.out
                have hns144_1 := NB141_149.out
                have hns144_2 := NB142_149.out
                have hns144_3 := NB143_149.out
                have hns144_4 := NB146_149.out
                have hms144_0 := NB149_140.out
                have hms144_1 := NB149_141.out
                have hms144_2 := NB149_142.out
                have hms144_3 := NB149_143.out
                have hms144_4 := NB149_146.out
                refine skip_ (w1 := ?_) (by rfl) rfl ?_ ?_
                rotate_left
                ·go_simp
                 rfl
                refine hK.out _ _ ⟨((cell_far (p := ⟨gb149, _, none⟩) NB141_149.out _).trans (((cell_far (p := ⟨gb149, _, none⟩) NB141_149.out _).trans (hHeld.1)))), ((cell_far (p := ⟨gb149, _, none⟩) NB141_149.out _).trans (((cell_far (p := ⟨gb149, _, none⟩) NB141_149.out _).trans (hHeld.2.1)))), ((cell_far (p := ⟨gb149, _, none⟩) NB140_149.out _).trans (((cell_far (p := ⟨gb149, _, none⟩) NB140_149.out _).trans (hHeld.2.2.1)))), ((cell_far (p := ⟨gb149, _, none⟩) NB140_149.out _).trans (((cell_far (p := ⟨gb149, _, none⟩) NB140_149.out _).trans (hHeld.2.2.2))))⟩ (fun hHeld => ?_)
                clear hK K
                refine one_ (i := 9) (N := none) #[T, T, T, T, T, T, T, T, T, T] rfl rfl (one_of HT_.out (by kernel_rfl)) (by decide) (fun K hK => ?_)
                have hs145 : w142.cell? ⟨gb146, 0, none⟩ = some (.int .i64 x147000_119) := bc BK146 0
                have hfs145 := blk_frozen BK146.out 0
                have hns145_0 := NB140_146.out
                have hns145_1 := NB141_146.out
                have hns145_2 := NB142_146.out
                have hns145_3 := NB143_146.out
                have hns145_5 := NB149_146.out
                have hms145_0 := NB146_140.out
                have hms145_1 := NB146_141.out
                have hms145_2 := NB146_142.out
                have hms145_3 := NB146_143.out
                have hms145_5 := NB146_149.out
                have hs146 : w142.cell? ⟨gb146, 1, none⟩ = some (.int .i64 x147001_119) := bc BK146 1
                have hfs146 := blk_frozen BK146.out 1
                have hns146_0 := NB140_146.out
                have hns146_1 := NB141_146.out
                have hns146_2 := NB142_146.out
                have hns146_3 := NB143_146.out
                have hns146_5 := NB149_146.out
                have hms146_0 := NB146_140.out
                have hms146_1 := NB146_141.out
                have hms146_2 := NB146_142.out
                have hms146_3 := NB146_143.out
                have hms146_5 := NB146_149.out
                refine skip_ (w1 := ?_) (by rfl) rfl ?_ ?_
                rotate_left
                ·go_simp
                 rfl
                refine hK.out _ _ ⟨((cell_far (p := ⟨gb146, _, none⟩) NB141_146.out _).trans (((cell_far (p := ⟨gb146, _, none⟩) NB141_146.out _).trans (hHeld.1)))), ((cell_far (p := ⟨gb146, _, none⟩) NB141_146.out _).trans (((cell_far (p := ⟨gb146, _, none⟩) NB141_146.out _).trans (hHeld.2.1)))), ((cell_far (p := ⟨gb146, _, none⟩) NB140_146.out _).trans (((cell_far (p := ⟨gb146, _, none⟩) NB140_146.out _).trans (hHeld.2.2.1)))), ((cell_far (p := ⟨gb146, _, none⟩) NB140_146.out _).trans (((cell_far (p := ⟨gb146, _, none⟩) NB140_146.out _).trans (hHeld.2.2.2))))⟩ (fun hHeld => ?_)
                clear hK K
                refine done_ (done_of HT_.out (by kernel_rfl)) ?_
                try go_wp2
                go_meet
                case rel => exact ⟨_, (t177), (t178), (t175), (t176), H', ⟨by have := HJ5.out; have := HJ56.out; have := HJ78.out; have := HJ104.out; have := HJ119.out; have := HJ134.out; first | omega | exact Nat.le_refl _⟩, ⟨by (with_reducible repeat (first | refine blk_drewN ?_ _ | refine blk_drew ?_ | refine blk_alloc ?_ _)); refine blk_far ?_ NB140_146.out _; (with_reducible repeat (first | refine blk_drewN ?_ _ | refine blk_drew ?_ | refine blk_alloc ?_ _)); refine blk_far ?_ NB140_146.out _; (with_reducible repeat (first | refine blk_drewN ?_ _ | refine blk_drew ?_ | refine blk_alloc ?_ _)); refine blk_far ?_ NB140_149.out _; (with_reducible repeat (first | refine blk_drewN ?_ _ | refine blk_drew ?_ | refine blk_alloc ?_ _)); refine blk_far ?_ NB140_149.out _; (with_reducible repeat (first | refine blk_drewN ?_ _ | refine blk_drew ?_ | refine blk_alloc ?_ _)); exact BK140.out⟩, ⟨by (with_reducible repeat (first | refine blk_drewN ?_ _ | refine blk_drew ?_ | refine blk_alloc ?_ _)); refine blk_far ?_ NB141_146.out _; (with_reducible repeat (first | refine blk_drewN ?_ _ | refine blk_drew ?_ | refine blk_alloc ?_ _)); refine blk_far ?_ NB141_146.out _; (with_reducible repeat (first | refine blk_drewN ?_ _ | refine blk_drew ?_ | refine blk_alloc ?_ _)); refine blk_far ?_ NB141_149.out _; (with_reducible repeat (first | refine blk_drewN ?_ _ | refine blk_drew ?_ | refine blk_alloc ?_ _)); refine blk_far ?_ NB141_149.out _; (with_reducible repeat (first | refine blk_drewN ?_ _ | refine blk_drew ?_ | refine blk_alloc ?_ _)); exact BK141.out⟩, ⟨by (with_reducible repeat (first | refine blk_drewN ?_ _ | refine blk_drew ?_ | refine blk_alloc ?_ _)); refine blk_far ?_ NB142_146.out _; (with_reducible repeat (first | refine blk_drewN ?_ _ | refine blk_drew ?_ | refine blk_alloc ?_ _)); refine blk_far ?_ NB142_146.out _; (with_reducible repeat (first | refine blk_drewN ?_ _ | refine blk_drew ?_ | refine blk_alloc ?_ _)); refine blk_far ?_ NB142_149.out _; (with_reducible repeat (first | refine blk_drewN ?_ _ | refine blk_drew ?_ | refine blk_alloc ?_ _)); refine blk_far ?_ NB142_149.out _; (with_reducible repeat (first | refine blk_drewN ?_ _ | refine blk_drew ?_ | refine blk_alloc ?_ _)); exact BK142.out⟩, ⟨by (with_reducible repeat (first | refine blk_drewN ?_ _ | refine blk_drew ?_ | refine blk_alloc ?_ _)); refine blk_far ?_ NB143_146.out _; (with_reducible repeat (first | refine blk_drewN ?_ _ | refine blk_drew ?_ | refine blk_alloc ?_ _)); refine blk_far ?_ NB143_146.out _; (with_reducible repeat (first | refine blk_drewN ?_ _ | refine blk_drew ?_ | refine blk_alloc ?_ _)); refine blk_far ?_ NB143_149.out _; (with_reducible repeat (first | refine blk_drewN ?_ _ | refine blk_drew ?_ | refine blk_alloc ?_ _)); refine blk_far ?_ NB143_149.out _; (with_reducible repeat (first | refine blk_drewN ?_ _ | refine blk_drew ?_ | refine blk_alloc ?_ _)); exact BK143.out⟩, ⟨by (with_reducible repeat (first | refine blk_drewN ?_ _ | refine blk_drew ?_ | refine blk_alloc ?_ _)); refine blk_put (cs := #[.int .i64 t177, .int .i64 x147001_119]) ?_ 1 _ rfl; (with_reducible repeat (first | refine blk_drewN ?_ _ | refine blk_drew ?_ | refine blk_alloc ?_ _)); refine blk_put (cs := #[.int .i64 x147000_119, .int .i64 x147001_119]) ?_ 0 _ rfl; (with_reducible repeat (first | refine blk_drewN ?_ _ | refine blk_drew ?_ | refine blk_alloc ?_ _)); refine blk_far ?_ NB146_149.out _; (with_reducible repeat (first | refine blk_drewN ?_ _ | refine blk_drew ?_ | refine blk_alloc ?_ _)); refine blk_far ?_ NB146_149.out _; (with_reducible repeat (first | refine blk_drewN ?_ _ | refine blk_drew ?_ | refine blk_alloc ?_ _)); exact BK146.out⟩, ⟨by (with_reducible repeat (first | refine blk_drewN ?_ _ | refine blk_drew ?_ | refine blk_alloc ?_ _)); refine blk_far ?_ NB149_146.out _; (with_reducible repeat (first | refine blk_drewN ?_ _ | refine blk_drew ?_ | refine blk_alloc ?_ _)); refine blk_far ?_ NB149_146.out _; (with_reducible repeat (first | refine blk_drewN ?_ _ | refine blk_drew ?_ | refine blk_alloc ?_ _)); refine blk_put (cs := #[.int .i64 t175, .int .i64 x150001_119]) ?_ 1 _ rfl; (with_reducible repeat (first | refine blk_drewN ?_ _ | refine blk_drew ?_ | refine blk_alloc ?_ _)); refine blk_put (cs := #[.int .i64 x150000_119, .int .i64 x150001_119]) ?_ 0 _ rfl; (with_reducible repeat (first | refine blk_drewN ?_ _ | refine blk_drew ?_ | refine blk_alloc ?_ _)); exact BK149.out⟩, ⟨Y6 HB GE140 GE141 GE142 GE143 GE146 GE149⟩⟩
               ·replace c138 := Bool.eq_false_iff.mpr c138
                subst c138
                have H1 : (spec_RangeCmp.j6 kj134 x147000_119 x147001_119 x150000_119 x150001_119) = some (r1, r2, r3, r4) := by rw [if_neg (show ¬ (false = true) by decide)] at H; exact H
                clear H
                have H := H1
                clear H1
                have H' := am H
                clear H
                go_wp2
                go_meet
                case rel => exact ⟨_, (x147000_119), (x147001_119), (x150000_119), (x150001_119), H', ⟨by have := HJ5.out; have := HJ56.out; have := HJ78.out; have := HJ104.out; have := HJ119.out; have := HJ134.out; first | omega | exact Nat.le_refl _⟩, ⟨Z BK140⟩, ⟨Z BK141⟩, ⟨Z BK142⟩, ⟨Z BK143⟩, ⟨Z BK146⟩, ⟨Z BK149⟩, ⟨Y6 HB GE140 GE141 GE142 GE143 GE146 GE149⟩⟩
              case rest =>
               clear HC137
               try clear c1
               try clear c2
               try clear p2
               try clear c4
               try clear c5
               try clear c6
               try clear p6
               try clear c7
               try clear c8
               try clear c9
               try clear c10
               try clear c12
               try clear c13
               try clear c19
               try clear c25
               try clear c27
               try clear c29
               try clear c47
               try clear c48
               try clear c49
               try clear c50
               try clear c51
               try clear c54
               try clear c58
               try clear c58b0
               try clear c58b1
               try clear c59
               try clear c60
               try clear c61
               try clear c62
               try clear c63
               try clear c64
               try clear p64
               try clear c66
               try clear c67
               try clear c68
               try clear c69
               try clear c72
               try clear c73
               try clear c74
               try clear c76
               try clear c77
               try clear c80
               try clear c80b0
               try clear c80b1
               try clear c83
               try clear c84
               try clear c85
               try clear c86
               try clear c87
               try clear c89
               try clear c90
               try clear c91
               try clear c92
               try clear c95
               try clear c96
               try clear c97
               try clear c102
               try clear c103
               try clear c106
               try clear c106b0
               try clear c106b1
               try clear c121
               try clear c121b0
               try clear c121b1
               try clear c136
               try clear c136b0
               try clear c136b1
               try clear c138
               try clear hcz100_0
               try clear hcz100_1
               try clear hcz104_0
               try clear hcz104_1
               try clear hcz65_0
               try clear hcz65_1
               try clear hcz70_0
               try clear hcz70_1
               try clear hcz75_0
               try clear hcz75_1
               try clear hcz78_0
               try clear hcz78_1
               try clear hcz88_0
               try clear hcz88_1
               try clear hcz93_0
               try clear hcz93_1
               try clear hcz98_0
               try clear hcz98_1
               try clear hcz99_0
               try clear hcz99_1
               try clear hfz100_0
               try clear hfz100_1
               try clear hfz104_0
               try clear hfz104_1
               try clear hfz65_0
               try clear hfz65_1
               try clear hfz70_0
               try clear hfz70_1
               try clear hfz75_0
               try clear hfz75_1
               try clear hfz78_0
               try clear hfz78_1
               try clear hfz88_0
               try clear hfz88_1
               try clear hfz93_0
               try clear hfz93_1
               try clear hfz98_0
               try clear hfz98_1
               try clear hfz99_0
               try clear hfz99_1
               try clear p2
               try clear p6
               try clear p64
               obtain ⟨kq, x147000_136, x147001_136, x150000_136, x150001_136, HA, HJ136, BK140, BK141, BK142, BK143, BK146, BK149, HB⟩ := hcut
               cases kq with
               | zero => exact absurd HA.out (by simp [spec_RangeCmp.j6])
               | succ kj136 =>
                have H := HA.out
                clear HA
                simp only [spec_RangeCmp.j6] at H
                have HC147 := am H
                clear H
                go_upto_region 19 with (fail)
                go_cut [105] (fun v105 wc => ∃ (kq : Nat) (x105_146 : Bool), v105 = .bool x105_146 ∧ Aside0 (spec_RangeCmp.j7 kq x105_146 x147000_136 x147001_136 x150000_136 x150001_136 = some (r1, r2, r3, r4)) ∧ Aside0 (kq ≤ kj136) ∧ Aside0 (wc.heap[gb140]? = some (.cells #[.int .i64 a1_0, .int .i64 a1_1] 24 (0, 0))) ∧ Aside0 (wc.heap[gb141]? = some (.cells #[.int .i64 a2_0, .int .i64 a2_1] 24 (0, 0))) ∧ Aside0 (wc.heap[gb142]? = some (.cells #[.int .i64 0, .int .i64 0] 24 (0, 0))) ∧ Aside0 (wc.heap[gb143]? = some (.cells #[.int .i64 0, .int .i64 0] 24 (0, 0))) ∧ Aside0 (wc.heap[gb146]? = some (.cells #[.int .i64 x147000_136, .int .i64 x147001_136] 24 (0, 0))) ∧ Aside0 (wc.heap[gb149]? = some (.cells #[.int .i64 x150000_136, .int .i64 x150001_136] 24 (0, 0))) ∧ Aside0 (Below w.heap.size w wc))
                case first =>
                 have H := HC147.out
                 clear HC147
                 replace H := Option.bind_eq_some_iff.mp H
                 obtain ⟨⟨t179, t180⟩, A1480, H⟩ := H
                 replace H : (if (x147000_136 == t179 && (x147001_136 == t180)) = true then (spec_RangeCmp.j7 kj136 true x147000_136 x147001_136 x150000_136 x150001_136) else ((spec_l8None.f).bind fun bt181 => (spec_RangeCmp.j7 kj136 (x150000_136 == bt181.1 && (x150001_136 == bt181.2)) x147000_136 x147001_136 x150000_136 x150001_136))) = some (r1, r2, r3, r4) := H
                 have A148 := am A1480
                 clear A1480
                 by_cases c149 : (x147000_136 == t179 && (x147001_136 == t180)) = true
                 ·rw [if_pos c149] at H
                  have c149b0 : (x147000_136 == t179 && (x147001_136 == t180)) = true := c149
                  (try (have c149b1 : decide (x147000_136 = t179 && (x147001_136 == t180)) = true := by simpa using c149))
                  (try (have c149b2 : (x147000_136 == t179 && (x147001_136 == t180)) = true := by simpa using c149))
                  clear c149
                  (first | rw [c149b0] | (simp only [i64_w, i32_w]; rw [c149b0]) | skip)
                  have H' := am H
                  clear H
                  try go_wp2
                  have n0_ := am (blk_drew BK140.out)
                  have n1_ := am (blk_drew BK141.out)
                  have n2_ := am (blk_drew BK142.out)
                  have n3_ := am (blk_drew BK143.out)
                  have n4_ := am (blk_drew BK146.out)
                  have n5_ := am (blk_drew BK149.out)
                  have n6_ := am (below_drew1 HB.out)
                  clear BK140
                  clear BK141
                  clear BK142
                  clear BK143
                  clear BK146
                  clear BK149
                  clear HB
                  have BK140 := n0_
                  have BK141 := n1_
                  have BK142 := n2_
                  have BK143 := n3_
                  have BK146 := n4_
                  have BK149 := n5_
                  have HB := n6_
                  clear n0_ n1_ n2_ n3_ n4_ n5_ n6_
                  refine start_ (n := 8) (S := fun w' => w'.cell? ⟨gb146, 0, none⟩ = some (.int .i64 x147000_136) ∧ w'.cell? ⟨gb146, 1, none⟩ = some (.int .i64 x147001_136)) (ds := []) #[F, F, F, F, F, F, F, F] (by kernel_rfl) rfl rfl ⟨bc BK146 0, bc BK146 1⟩ (fun hHeld => ?_); refine with_tabW spec_RangeCmp.tab19 spec_RangeCmp.bits19 (fun HT_ HW_ => ?_)
                  generalize wc.drew = w150 at BK140 BK141 BK142 BK143 BK146 BK149 HB hHeld ⊢
                  refine take_ (i := 0) (N := some 98) (v := ?_) (a' := ?_) #[T, F, F, F, F, F, F, F] rfl rfl (take_ofW HT_.out HW_.out (by kernel_rfl)) (fun _ _ _ h => h) (Or.inl ⟨by rfl, ?_⟩) hHeld ?_ ?_
                  rotate_left
                  ·rintro w' ⟨s0, s1⟩
                   go_simp
                   with_reducible rfl
                  rotate_left
                  ·exact pz
                  refine one_ (i := 1) (N := some 99) #[T, T, F, F, F, F, F, F] rfl rfl (one_of HT_.out (by kernel_rfl)) (by decide) (fun K hK => ?_)
                  refine goes_ Try.func48 (by kernel_rfl) rfl #[] (by rfl) rfl rfl mz ?_
                  with_reducible refine (spec_l8None.calls  t179 t180 _ A148.out).mono ?_
                  rintro e w151 ⟨rfl, hb⟩
                  refine ⟨_, rfl, ?_⟩
                  have n0_ := am (blk_below (g := gb140) (o := b2 a1_0 a1_1 24) (Z BK140) hb)
                  have n1_ := am (blk_below (g := gb141) (o := b2 a2_0 a2_1 24) (Z BK141) hb)
                  have n2_ := am (blk_below (g := gb142) (o := b2 0 0 24) (Z BK142) hb)
                  have n3_ := am (blk_below (g := gb143) (o := b2 0 0 24) (Z BK143) hb)
                  have n4_ := am (blk_below (g := gb146) (o := b2 x147000_136 x147001_136 24) (Z BK146) hb)
                  have n5_ := am (blk_below (g := gb149) (o := b2 x150000_136 x150001_136 24) (Z BK149) hb)
                  have n6_ := am (below_step (Y6 HB GE140 GE141 GE142 GE143 GE146 GE149) hb)
                  clear BK140
                  clear BK141
                  clear BK142
                  clear BK143
                  clear BK146
                  clear BK149
                  clear HB
                  have BK140 := n0_
                  have BK141 := n1_
                  have BK142 := n2_
                  have BK143 := n3_
                  have BK146 := n4_
                  have BK149 := n5_
                  have HB := n6_
                  clear n0_ n1_ n2_ n3_ n4_ n5_ n6_
                  (try clear hb)
                  (try clear hb2)
                  (try clear hk)
                  (try clear hi)
                  refine hK.out _ _ ⟨bc BK146 0, bc BK146 1⟩ (fun hHeld => ?_)
                  clear hK K
                  refine norm_ (a' := ?_) ?_ ?_
                  rotate_left
                  ·show Act.put _ (some 99) _ = _
                   simp only [Act.put, List.setIfInBounds_toArray, List.set_cons_zero, List.set_cons_succ, i64_w, i32_w]
                   rfl
                  refine pure_ (i := 2) (N := some 100) (v := ?_) (a' := ?_) #[T, T, T, F, F, F, F, F] rfl rfl (any_of HT_.out (by kernel_rfl)) (fun _ _ _ h => h) (Or.inl ⟨by rfl, ?_⟩) ?_ ?_
                  rotate_left
                  ·exact gz
                  rotate_left
                  ·exact pz
                  refine pure_ (i := 3) (N := some 101) (v := ?_) (a' := ?_) #[T, T, T, T, F, F, F, F] rfl rfl (any_of HT_.out (by kernel_rfl)) (fun _ _ _ h => h) (Or.inl ⟨by rfl, ?_⟩) ?_ ?_
                  rotate_left
                  ·exact gz
                  rotate_left
                  ·exact pz
                  refine pure_ (i := 4) (N := some 102) (v := undef) (a' := ?_) #[T, T, T, T, T, F, F, F] rfl rfl (any_of HT_.out (by kernel_rfl)) (fun _ _ _ h => h) (Or.inr ⟨by rfl, rfl⟩) ?_ ?_
                  rotate_left
                  ·exact pz
                  refine pure_ (i := 5) (N := some 103) (v := undef) (a' := ?_) #[T, T, T, T, T, T, F, F] rfl rfl (any_of HT_.out (by kernel_rfl)) (fun _ _ _ h => h) (Or.inr ⟨by rfl, rfl⟩) ?_ ?_
                  rotate_left
                  ·exact pz
                  refine pure_ (i := 6) (N := some 104) (v := undef) (a' := ?_) #[T, T, T, T, T, T, T, F] rfl rfl (any_of HT_.out (by kernel_rfl)) (fun _ _ _ h => h) (Or.inr ⟨by rfl, rfl⟩) ?_ ?_
                  rotate_left
                  ·exact pz
                  refine pure_ (i := 7) (N := some 105) (v := ?_) (a' := ?_) #[T, T, T, T, T, T, T, T] rfl rfl (any_of HT_.out (by kernel_rfl)) (fun _ _ _ h => h) (Or.inl ⟨by rfl, ?_⟩) ?_ ?_
                  rotate_left
                  ·exact gz
                  rotate_left
                  ·exact pz
                  refine done_ (done_of HT_.out (by kernel_rfl)) ?_
                  try go_wp2
                  go_meet
                  case rel => exact ⟨_, (true), (by first | rfl | (simp; done) | (simp [*]; done)), H', ⟨by have := HJ5.out; have := HJ56.out; have := HJ78.out; have := HJ104.out; have := HJ119.out; have := HJ134.out; have := HJ136.out; first | omega | exact Nat.le_refl _⟩, ⟨Z BK140⟩, ⟨Z BK141⟩, ⟨Z BK142⟩, ⟨Z BK143⟩, ⟨Z BK146⟩, ⟨Z BK149⟩, ⟨Y6 HB GE140 GE141 GE142 GE143 GE146 GE149⟩⟩
                 ·rw [if_neg c149] at H
                  have c149b0 : (x147000_136 == t179 && (x147001_136 == t180)) = false := by simpa using c149
                  (try (have c149b1 : decide (x147000_136 = t179 && (x147001_136 == t180)) = false := by simpa using c149))
                  (try (have c149b2 : (x147000_136 == t179 && (x147001_136 == t180)) = false := by simpa using c149))
                  (try (have c149b3 : ¬ (x147000_136 = t179 && (x147001_136 == t180)) := by simpa using c149))
                  clear c149
                  (first | rw [c149b0] | (simp only [i64_w, i32_w]; rw [c149b0]) | skip)
                  replace H := Option.bind_eq_some_iff.mp H
                  obtain ⟨⟨t181, t182⟩, A1520, H⟩ := H
                  replace H : (spec_RangeCmp.j7 kj136 (x150000_136 == t181 && (x150001_136 == t182)) x147000_136 x147001_136 x150000_136 x150001_136) = some (r1, r2, r3, r4) := H
                  have A152 := am A1520
                  clear A1520
                  have H' := am H
                  clear H
                  try go_wp2
                  have n0_ := am (blk_drew BK140.out)
                  have n1_ := am (blk_drew BK141.out)
                  have n2_ := am (blk_drew BK142.out)
                  have n3_ := am (blk_drew BK143.out)
                  have n4_ := am (blk_drew BK146.out)
                  have n5_ := am (blk_drew BK149.out)
                  have n6_ := am (below_drew1 HB.out)
                  clear BK140
                  clear BK141
                  clear BK142
                  clear BK143
                  clear BK146
                  clear BK149
                  clear HB
                  have BK140 := n0_
                  have BK141 := n1_
                  have BK142 := n2_
                  have BK143 := n3_
                  have BK146 := n4_
                  have BK149 := n5_
                  have HB := n6_
                  clear n0_ n1_ n2_ n3_ n4_ n5_ n6_
                  refine start_ (n := 8) (S := fun w' => w'.cell? ⟨gb146, 0, none⟩ = some (.int .i64 x147000_136) ∧ w'.cell? ⟨gb146, 1, none⟩ = some (.int .i64 x147001_136) ∧ w'.cell? ⟨gb149, 0, none⟩ = some (.int .i64 x150000_136) ∧ w'.cell? ⟨gb149, 1, none⟩ = some (.int .i64 x150001_136)) (ds := []) #[F, F, F, F, F, F, F, F] (by kernel_rfl) rfl rfl ⟨bc BK146 0, bc BK146 1, bc BK149 0, bc BK149 1⟩ (fun hHeld => ?_); refine with_tabW spec_RangeCmp.tab19 spec_RangeCmp.bits19 (fun HT_ HW_ => ?_)
                  generalize wc.drew = w153 at BK140 BK141 BK142 BK143 BK146 BK149 HB hHeld ⊢
                  refine take_ (i := 0) (N := some 98) (v := ?_) (a' := ?_) #[T, F, F, F, F, F, F, F] rfl rfl (take_ofW HT_.out HW_.out (by kernel_rfl)) (fun _ _ _ h => h) (Or.inl ⟨by rfl, ?_⟩) hHeld ?_ ?_
                  rotate_left
                  ·rintro w' ⟨s0, s1, s2, s3⟩
                   go_simp
                   with_reducible rfl
                  rotate_left
                  ·exact pz
                  refine one_ (i := 1) (N := some 99) #[T, T, F, F, F, F, F, F] rfl rfl (one_of HT_.out (by kernel_rfl)) (by decide) (fun K hK => ?_)
                  refine goes_ Try.func48 (by kernel_rfl) rfl #[] (by rfl) rfl rfl mz ?_
                  with_reducible refine (spec_l8None.calls  t179 t180 _ A148.out).mono ?_
                  rintro e w154 ⟨rfl, hb⟩
                  refine ⟨_, rfl, ?_⟩
                  have n0_ := am (blk_below (g := gb140) (o := b2 a1_0 a1_1 24) (Z BK140) hb)
                  have n1_ := am (blk_below (g := gb141) (o := b2 a2_0 a2_1 24) (Z BK141) hb)
                  have n2_ := am (blk_below (g := gb142) (o := b2 0 0 24) (Z BK142) hb)
                  have n3_ := am (blk_below (g := gb143) (o := b2 0 0 24) (Z BK143) hb)
                  have n4_ := am (blk_below (g := gb146) (o := b2 x147000_136 x147001_136 24) (Z BK146) hb)
                  have n5_ := am (blk_below (g := gb149) (o := b2 x150000_136 x150001_136 24) (Z BK149) hb)
                  have n6_ := am (below_step (Y6 HB GE140 GE141 GE142 GE143 GE146 GE149) hb)
                  clear BK140
                  clear BK141
                  clear BK142
                  clear BK143
                  clear BK146
                  clear BK149
                  clear HB
                  have BK140 := n0_
                  have BK141 := n1_
                  have BK142 := n2_
                  have BK143 := n3_
                  have BK146 := n4_
                  have BK149 := n5_
                  have HB := n6_
                  clear n0_ n1_ n2_ n3_ n4_ n5_ n6_
                  (try clear hb)
                  (try clear hb2)
                  (try clear hk)
                  (try clear hi)
                  refine hK.out _ _ ⟨bc BK146 0, bc BK146 1, bc BK149 0, bc BK149 1⟩ (fun hHeld => ?_)
                  clear hK K
                  refine norm_ (a' := ?_) ?_ ?_
                  rotate_left
                  ·show Act.put _ (some 99) _ = _
                   simp only [Act.put, List.setIfInBounds_toArray, List.set_cons_zero, List.set_cons_succ, i64_w, i32_w]
                   rfl
                  refine pure_ (i := 2) (N := some 100) (v := ?_) (a' := ?_) #[T, T, T, F, F, F, F, F] rfl rfl (any_of HT_.out (by kernel_rfl)) (fun _ _ _ h => h) (Or.inl ⟨by rfl, ?_⟩) ?_ ?_
                  rotate_left
                  ·exact gz
                  rotate_left
                  ·exact pz
                  refine pure_ (i := 3) (N := some 101) (v := ?_) (a' := ?_) #[T, T, T, T, F, F, F, F] rfl rfl (any_of HT_.out (by kernel_rfl)) (fun _ _ _ h => h) (Or.inl ⟨by rfl, ?_⟩) ?_ ?_
                  rotate_left
                  ·exact gz
                  rotate_left
                  ·exact pz
                  refine take_ (i := 4) (N := some 102) (v := ?_) (a' := ?_) #[T, T, T, T, T, F, F, F] rfl rfl (take_ofW HT_.out HW_.out (by kernel_rfl)) (fun _ _ _ h => h) (Or.inl ⟨by rfl, ?_⟩) hHeld ?_ ?_
                  rotate_left
                  ·rintro w' ⟨s0, s1, s2, s3⟩
                   go_simp
                   with_reducible rfl
                  rotate_left
                  ·exact pz
                  refine one_ (i := 5) (N := some 103) #[T, T, T, T, T, T, F, F] rfl rfl (one_of HT_.out (by kernel_rfl)) (by decide) (fun K hK => ?_)
                  refine goes_ Try.func48 (by kernel_rfl) rfl #[] (by rfl) rfl rfl mz ?_
                  with_reducible refine (spec_l8None.calls  t181 t182 _ A152.out).mono ?_
                  rintro e w155 ⟨rfl, hb⟩
                  refine ⟨_, rfl, ?_⟩
                  have n0_ := am (blk_below (g := gb140) (o := b2 a1_0 a1_1 24) (Z BK140) hb)
                  have n1_ := am (blk_below (g := gb141) (o := b2 a2_0 a2_1 24) (Z BK141) hb)
                  have n2_ := am (blk_below (g := gb142) (o := b2 0 0 24) (Z BK142) hb)
                  have n3_ := am (blk_below (g := gb143) (o := b2 0 0 24) (Z BK143) hb)
                  have n4_ := am (blk_below (g := gb146) (o := b2 x147000_136 x147001_136 24) (Z BK146) hb)
                  have n5_ := am (blk_below (g := gb149) (o := b2 x150000_136 x150001_136 24) (Z BK149) hb)
                  have n6_ := am (below_step (Y6 HB GE140 GE141 GE142 GE143 GE146 GE149) hb)
                  clear BK140
                  clear BK141
                  clear BK142
                  clear BK143
                  clear BK146
                  clear BK149
                  clear HB
                  have BK140 := n0_
                  have BK141 := n1_
                  have BK142 := n2_
                  have BK143 := n3_
                  have BK146 := n4_
                  have BK149 := n5_
                  have HB := n6_
                  clear n0_ n1_ n2_ n3_ n4_ n5_ n6_
                  (try clear hb)
                  (try clear hb2)
                  (try clear hk)
                  (try clear hi)
                  refine hK.out _ _ ⟨bc BK146 0, bc BK146 1, bc BK149 0, bc BK149 1⟩ (fun hHeld => ?_)
                  clear hK K
                  refine norm_ (a' := ?_) ?_ ?_
                  rotate_left
                  ·show Act.put _ (some 103) _ = _
                   simp only [Act.put, List.setIfInBounds_toArray, List.set_cons_zero, List.set_cons_succ, i64_w, i32_w]
                   rfl
                  refine pure_ (i := 6) (N := some 104) (v := ?_) (a' := ?_) #[T, T, T, T, T, T, T, F] rfl rfl (any_of HT_.out (by kernel_rfl)) (fun _ _ _ h => h) (Or.inl ⟨by rfl, ?_⟩) ?_ ?_
                  rotate_left
                  ·exact gz
                  rotate_left
                  ·exact pz
                  refine pure_ (i := 7) (N := some 105) (v := ?_) (a' := ?_) #[T, T, T, T, T, T, T, T] rfl rfl (any_of HT_.out (by kernel_rfl)) (fun _ _ _ h => h) (Or.inl ⟨by rfl, ?_⟩) ?_ ?_
                  rotate_left
                  ·exact gz
                  rotate_left
                  ·exact pz
                  refine done_ (done_of HT_.out (by kernel_rfl)) ?_
                  try go_wp2
                  go_meet
                  case rel => exact ⟨_, ((x150000_136 == t181 && (x150001_136 == t182))), (by first | rfl | (simp; done) | (simp [*]; done)), H', ⟨by have := HJ5.out; have := HJ56.out; have := HJ78.out; have := HJ104.out; have := HJ119.out; have := HJ134.out; have := HJ136.out; first | omega | exact Nat.le_refl _⟩, ⟨Z BK140⟩, ⟨Z BK141⟩, ⟨Z BK142⟩, ⟨Z BK143⟩, ⟨Z BK146⟩, ⟨Z BK149⟩, ⟨Y6 HB GE140 GE141 GE142 GE143 GE146 GE149⟩⟩
                case rest =>
                 clear HC147
                 try clear c1
                 try clear c2
                 try clear p2
                 try clear c4
                 try clear c5
                 try clear c6
                 try clear p6
                 try clear c7
                 try clear c8
                 try clear c9
                 try clear c10
                 try clear c12
                 try clear c13
                 try clear c14
                 try clear c19
                 try clear c25
                 try clear c27
                 try clear c29
                 try clear c47
                 try clear c48
                 try clear c49
                 try clear c50
                 try clear c51
                 try clear c54
                 try clear c58
                 try clear c58b0
                 try clear c58b1
                 try clear c59
                 try clear c60
                 try clear c61
                 try clear c62
                 try clear c63
                 try clear c64
                 try clear p64
                 try clear c66
                 try clear c67
                 try clear c68
                 try clear c69
                 try clear c72
                 try clear c73
                 try clear c74
                 try clear c76
                 try clear c77
                 try clear c80
                 try clear c80b0
                 try clear c80b1
                 try clear c83
                 try clear c84
                 try clear c85
                 try clear c86
                 try clear c87
                 try clear c89
                 try clear c90
                 try clear c91
                 try clear c92
                 try clear c95
                 try clear c96
                 try clear c97
                 try clear c102
                 try clear c103
                 try clear c106
                 try clear c106b0
                 try clear c106b1
                 try clear c121
                 try clear c121b0
                 try clear c121b1
                 try clear c136
                 try clear c136b0
                 try clear c136b1
                 try clear c138
                 try clear c149
                 try clear c149b0
                 try clear c149b1
                 try clear c149b2
                 try clear hcz100_0
                 try clear hcz100_1
                 try clear hcz104_0
                 try clear hcz104_1
                 try clear hcz65_0
                 try clear hcz65_1
                 try clear hcz70_0
                 try clear hcz70_1
                 try clear hcz75_0
                 try clear hcz75_1
                 try clear hcz78_0
                 try clear hcz78_1
                 try clear hcz88_0
                 try clear hcz88_1
                 try clear hcz93_0
                 try clear hcz93_1
                 try clear hcz98_0
                 try clear hcz98_1
                 try clear hcz99_0
                 try clear hcz99_1
                 try clear hfz100_0
                 try clear hfz100_1
                 try clear hfz104_0
                 try clear hfz104_1
                 try clear hfz65_0
                 try clear hfz65_1
                 try clear hfz70_0
                 try clear hfz70_1
                 try clear hfz75_0
                 try clear hfz75_1
                 try clear hfz78_0
                 try clear hfz78_1
                 try clear hfz88_0
                 try clear hfz88_1
                 try clear hfz93_0
                 try clear hfz93_1
                 try clear hfz98_0
                 try clear hfz98_1
                 try clear hfz99_0
                 try clear hfz99_1
                 try clear p2
                 try clear p6
                 try clear p64
                 obtain ⟨kq, x105_146, rfl, HA, HJ146, BK140, BK141, BK142, BK143, BK146, BK149, HB⟩ := hcut
                 cases kq with
                 | zero => exact absurd HA.out (by simp [spec_RangeCmp.j7])
                 | succ kj146 =>
                  have H := HA.out
                  clear HA
                  simp only [spec_RangeCmp.j7] at H
                  by_cases c156 : x105_146 = true
                  ·subst c156
                   have H1 : ((spec_l8None.f).bind fun bt183 => ((spec_l8None.f).bind fun bt185 => (some (bt183.1, bt183.2, bt185.1, bt185.2)))) = some (r1, r2, r3, r4) := by rw [if_pos rfl] at H; exact H
                   clear H
                   have H := H1
                   clear H1
                   replace H := Option.bind_eq_some_iff.mp H
                   obtain ⟨⟨t183, t184⟩, A1570, H⟩ := H
                   replace H : ((spec_l8None.f).bind fun bt185 => (some (t183, t184, bt185.1, bt185.2))) = some (r1, r2, r3, r4) := H
                   have A157 := am A1570
                   clear A1570
                   replace H := Option.bind_eq_some_iff.mp H
                   obtain ⟨⟨t185, t186⟩, A1580, H⟩ := H
                   replace H : (some (t183, t184, t185, t186)) = some (r1, r2, r3, r4) := H
                   have A158 := am A1580
                   clear A1580
                   simp only [Option.some.injEq, Prod.mk.injEq] at H
                   obtain ⟨rfl, rfl, rfl, rfl⟩ := H
                   go_wp2_with (first | ((with_reducible refine gate_callee (f := 48) rfl ?_); refine goesL_ (some 106) rfl rfl Try.func48 (by kernel_rfl) rfl #[] rfl mz ?_; (with_reducible refine (spec_l8None.calls  t183 t184 _ A157.out).mono ?_); rintro e w159 ⟨rfl, hb⟩; refine ⟨_, rfl, ?_⟩; have n0_ := am (blk_below (g := gb140) (o := b2 a1_0 a1_1 24) (Z BK140) hb); have n1_ := am (blk_below (g := gb141) (o := b2 a2_0 a2_1 24) (Z BK141) hb); have n2_ := am (blk_below (g := gb142) (o := b2 0 0 24) (Z BK142) hb); have n3_ := am (blk_below (g := gb143) (o := b2 0 0 24) (Z BK143) hb); have n4_ := am (blk_below (g := gb146) (o := b2 x147000_136 x147001_136 24) (Z BK146) hb); have n5_ := am (blk_below (g := gb149) (o := b2 x150000_136 x150001_136 24) (Z BK149) hb); have n6_ := am (below_step (Y6 HB GE140 GE141 GE142 GE143 GE146 GE149) hb); clear BK140; clear BK141; clear BK142; clear BK143; clear BK146; clear BK149; clear HB; have BK140 := n0_; have BK141 := n1_; have BK142 := n2_; have BK143 := n3_; have BK146 := n4_; have BK149 := n5_; have HB := n6_; clear n0_ n1_ n2_ n3_ n4_ n5_ n6_; (try clear hb); (try clear hb2); (try clear hk); (try clear hi)) | ((with_reducible refine gate_callee (f := 48) rfl ?_); refine goesL_ (some 107) rfl rfl Try.func48 (by kernel_rfl) rfl #[] rfl mz ?_; (with_reducible refine (spec_l8None.calls  t185 t186 _ A158.out).mono ?_); rintro e w160 ⟨rfl, hb⟩; refine ⟨_, rfl, ?_⟩; have n0_ := am (blk_below (g := gb140) (o := b2 a1_0 a1_1 24) (Z BK140) hb); have n1_ := am (blk_below (g := gb141) (o := b2 a2_0 a2_1 24) (Z BK141) hb); have n2_ := am (blk_below (g := gb142) (o := b2 0 0 24) (Z BK142) hb); have n3_ := am (blk_below (g := gb143) (o := b2 0 0 24) (Z BK143) hb); have n4_ := am (blk_below (g := gb146) (o := b2 x147000_136 x147001_136 24) (Z BK146) hb); have n5_ := am (blk_below (g := gb149) (o := b2 x150000_136 x150001_136 24) (Z BK149) hb); have n6_ := am (below_step (Y6 HB GE140 GE141 GE142 GE143 GE146 GE149) hb); clear BK140; clear BK141; clear BK142; clear BK143; clear BK146; clear BK149; clear HB; have BK140 := n0_; have BK141 := n1_; have BK142 := n2_; have BK143 := n3_; have BK146 := n4_; have BK149 := n5_; have HB := n6_; clear n0_ n1_ n2_ n3_ n4_ n5_ n6_; (try clear hb); (try clear hb2); (try clear hk); (try clear hi); have hnb161 := NB142_140.out; have hnc161 := NB140_142.out; have hnb162 := NB142_141.out; have hnc162 := NB141_142.out; have hnb163 := NB142_143.out; have hnc163 := NB143_142.out; have hnb164 := NB142_146.out; have hnc164 := NB146_142.out; have hnb165 := NB142_149.out; have hnc165 := NB149_142.out; have hcz166_0 : w160.cell? ⟨gb142, 0, none⟩ = some (.int .i64 0) := bc BK142 0; have hcz166_1 : w160.cell? ⟨gb142, 1, none⟩ = some (.int .i64 0) := bc BK142 1; have hfz166_0 := blk_frozen BK142.out 0; have hfz166_1 := blk_frozen BK142.out 1; have hnb167 := NB143_140.out; have hnc167 := NB140_143.out; have hnb168 := NB143_141.out; have hnc168 := NB141_143.out; have hnb169 := NB143_146.out; have hnc169 := NB146_143.out; have hnb170 := NB143_149.out; have hnc170 := NB149_143.out; have hcz171_0 : w160.cell? ⟨gb143, 0, none⟩ = some (.int .i64 0) := bc BK143 0; have hcz171_1 : w160.cell? ⟨gb143, 1, none⟩ = some (.int .i64 0) := bc BK143 1; have hfz171_0 := blk_frozen BK143.out 0; have hfz171_1 := blk_frozen BK143.out 1))
                   refine bodyPost_ret (results_cc rfl _ _ gb142 gb143 24 24 #[.int .i64 t183, .int .i64 t184] #[.int .i64 t185, .int .i64 t186] (0, 0) (0, 0) _ _ rfl (by (with_reducible repeat (first | refine blk_drewN ?_ _ | refine blk_drew ?_ | refine blk_alloc ?_ _)); refine blk_far ?_ NB142_143.out _; (with_reducible repeat (first | refine blk_drewN ?_ _ | refine blk_drew ?_ | refine blk_alloc ?_ _)); refine blk_far ?_ NB142_143.out _; (with_reducible repeat (first | refine blk_drewN ?_ _ | refine blk_drew ?_ | refine blk_alloc ?_ _)); refine blk_put (cs := #[.int .i64 t183, .int .i64 0]) ?_ 1 _ rfl; (with_reducible repeat (first | refine blk_drewN ?_ _ | refine blk_drew ?_ | refine blk_alloc ?_ _)); refine blk_put (cs := #[.int .i64 0, .int .i64 0]) ?_ 0 _ rfl; (with_reducible repeat (first | refine blk_drewN ?_ _ | refine blk_drew ?_ | refine blk_alloc ?_ _)); exact BK142.out) Try.underlying24 rfl (by kernel_rfl) rfl (by (with_reducible repeat (first | refine blk_drewN ?_ _ | refine blk_drew ?_ | refine blk_alloc ?_ _)); refine blk_put (cs := #[.int .i64 t185, .int .i64 0]) ?_ 1 _ rfl; (with_reducible repeat (first | refine blk_drewN ?_ _ | refine blk_drew ?_ | refine blk_alloc ?_ _)); refine blk_put (cs := #[.int .i64 0, .int .i64 0]) ?_ 0 _ rfl; (with_reducible repeat (first | refine blk_drewN ?_ _ | refine blk_drew ?_ | refine blk_alloc ?_ _)); refine blk_far ?_ NB143_142.out _; (with_reducible repeat (first | refine blk_drewN ?_ _ | refine blk_drew ?_ | refine blk_alloc ?_ _)); refine blk_far ?_ NB143_142.out _; (with_reducible repeat (first | refine blk_drewN ?_ _ | refine blk_drew ?_ | refine blk_alloc ?_ _)); exact BK143.out) Try.underlying24 rfl (by kernel_rfl)) rfl ?_
                   exact ⟨by first | rfl | (simp [errW_none, errW_some] <;> rfl) | (simp [*, errW_none, errW_some] <;> rfl), Y6 HB GE140 GE141 GE142 GE143 GE146 GE149⟩
                  ·replace c156 := Bool.eq_false_iff.mpr c156
                   subst c156
                   have H1 : (some (x147000_136, x147001_136, x150000_136, x150001_136)) = some (r1, r2, r3, r4) := by rw [if_neg (show ¬ (false = true) by decide)] at H; exact H
                   clear H
                   have H := H1
                   clear H1
                   simp only [Option.some.injEq, Prod.mk.injEq] at H
                   obtain ⟨rfl, rfl, rfl, rfl⟩ := H
                   try go_wp2
                   have n0_ := am (blk_drew BK140.out)
                   have n1_ := am (blk_drew BK141.out)
                   have n2_ := am (blk_drew BK142.out)
                   have n3_ := am (blk_drew BK143.out)
                   have n4_ := am (blk_drew BK146.out)
                   have n5_ := am (blk_drew BK149.out)
                   have n6_ := am (below_drew1 HB.out)
                   clear BK140
                   clear BK141
                   clear BK142
                   clear BK143
                   clear BK146
                   clear BK149
                   clear HB
                   have BK140 := n0_
                   have BK141 := n1_
                   have BK142 := n2_
                   have BK143 := n3_
                   have BK146 := n4_
                   have BK149 := n5_
                   have HB := n6_
                   clear n0_ n1_ n2_ n3_ n4_ n5_ n6_
                   refine start_ (n := 4) (S := fun w' => w'.cell? ⟨gb146, 0, none⟩ = some (.int .i64 x147000_136) ∧ w'.cell? ⟨gb146, 1, none⟩ = some (.int .i64 x147001_136) ∧ w'.cell? ⟨gb149, 0, none⟩ = some (.int .i64 x150000_136) ∧ w'.cell? ⟨gb149, 1, none⟩ = some (.int .i64 x150001_136)) (ds := []) #[F, F, F, F] (by kernel_rfl) rfl rfl ⟨bc BK146 0, bc BK146 1, bc BK149 0, bc BK149 1⟩ (fun hHeld => ?_)
                   generalize wc.drew = w172 at BK140 BK141 BK142 BK143 BK146 BK149 HB hHeld ⊢
                   refine take_ (i := 0) (N := some 108) (v := ?_) (a' := ?_) #[T, F, F, F] rfl rfl (by kernel_rfl) (fun _ _ _ h => h) (Or.inl ⟨by rfl, ?_⟩) hHeld ?_ ?_
                   rotate_left
                   ·rintro w' ⟨s0, s1, s2, s3⟩
                    go_simp
                    with_reducible rfl
                   rotate_left
                   ·exact pz
                   refine take_ (i := 1) (N := some 109) (v := ?_) (a' := ?_) #[T, T, F, F] rfl rfl (by kernel_rfl) (fun _ _ _ h => h) (Or.inl ⟨by rfl, ?_⟩) hHeld ?_ ?_
                   rotate_left
                   ·rintro w' ⟨s0, s1, s2, s3⟩
                    go_simp
                    with_reducible rfl
                   rotate_left
                   ·exact pz
                   refine one_ (i := 2) (N := none) #[T, T, T, F] rfl rfl (by kernel_rfl) (by decide) (fun K hK => ?_)
                   have hs173 : w172.cell? ⟨gb142, 0, none⟩ = some (.int .i64 0) := bc BK142 0
                   have hfs173 := blk_frozen BK142.out 0
                   have hns173_0 := NB140_142.out
                   have hns173_1 := NB141_142.out
                   have hns173_3 := NB143_142.out
                   have hns173_4 := NB146_142.out
                   have hns173_5 := NB149_142.out
                   have hms173_0 := NB142_140.out
                   have hms173_1 := NB142_141.out
                   have hms173_3 := NB142_143.out
                   have hms173_4 := NB142_146.out
                   have hms173_5 := NB142_149.out
                   have hs174 : w172.cell? ⟨gb142, 1, none⟩ = some (.int .i64 0) := bc BK142 1
                   have hfs174 := blk_frozen BK142.out 1
                   have hns174_0 := NB140_142.out
                   have hns174_1 := NB141_142.out
                   have hns174_3 := NB143_142.out
                   have hns174_4 := NB146_142.out
                   have hns174_5 := NB149_142.out
                   have hms174_0 := NB142_140.out
                   have hms174_1 := NB142_141.out
                   have hms174_3 := NB142_143.out
                   have hms174_4 := NB142_146.out
                   have hms174_5 := NB142_149.out
                   refine skip_ (w1 := ?_) (by rfl) rfl ?_ ?_
                   rotate_left
                   ·go_simp
                    rfl
                   refine hK.out _ _ ⟨((cell_far (p := ⟨gb142, _, none⟩) NB146_142.out _).trans (((cell_far (p := ⟨gb142, _, none⟩) NB146_142.out _).trans (hHeld.1)))), ((cell_far (p := ⟨gb142, _, none⟩) NB146_142.out _).trans (((cell_far (p := ⟨gb142, _, none⟩) NB146_142.out _).trans (hHeld.2.1)))), ((cell_far (p := ⟨gb142, _, none⟩) NB149_142.out _).trans (((cell_far (p := ⟨gb142, _, none⟩) NB149_142.out _).trans (hHeld.2.2.1)))), ((cell_far (p := ⟨gb142, _, none⟩) NB149_142.out _).trans (((cell_far (p := ⟨gb142, _, none⟩) NB149_142.out _).trans (hHeld.2.2.2))))⟩ (fun hHeld => ?_)
                   clear hK K
                   refine one_ (i := 3) (N := none) #[T, T, T, T] rfl rfl (by kernel_rfl) (by decide) (fun K hK => ?_)
                   have hs175 : w172.cell? ⟨gb143, 0, none⟩ = some (.int .i64 0) := bc BK143 0
                   have hfs175 := blk_frozen BK143.out 0
                   have hns175_0 := NB140_143.out
                   have hns175_1 := NB141_143.out
                   have hns175_2 := NB142_143.out
                   have hns175_4 := NB146_143.out
                   have hns175_5 := NB149_143.out
                   have hms175_0 := NB143_140.out
                   have hms175_1 := NB143_141.out
                   have hms175_2 := NB143_142.out
                   have hms175_4 := NB143_146.out
                   have hms175_5 := NB143_149.out
                   have hs176 : w172.cell? ⟨gb143, 1, none⟩ = some (.int .i64 0) := bc BK143 1
                   have hfs176 := blk_frozen BK143.out 1
                   have hns176_0 := NB140_143.out
                   have hns176_1 := NB141_143.out
                   have hns176_2 := NB142_143.out
                   have hns176_4 := NB146_143.out
                   have hns176_5 := NB149_143.out
                   have hms176_0 := NB143_140.out
                   have hms176_1 := NB143_141.out
                   have hms176_2 := NB143_142.out
                   have hms176_4 := NB143_146.out
                   have hms176_5 := NB143_149.out
                   refine skip_ (w1 := ?_) (by rfl) rfl ?_ ?_
                   rotate_left
                   ·go_simp
                    rfl
                   refine hK.out _ _ ⟨((cell_far (p := ⟨gb143, _, none⟩) NB146_143.out _).trans (((cell_far (p := ⟨gb143, _, none⟩) NB146_143.out _).trans (hHeld.1)))), ((cell_far (p := ⟨gb143, _, none⟩) NB146_143.out _).trans (((cell_far (p := ⟨gb143, _, none⟩) NB146_143.out _).trans (hHeld.2.1)))), ((cell_far (p := ⟨gb143, _, none⟩) NB149_143.out _).trans (((cell_far (p := ⟨gb143, _, none⟩) NB149_143.out _).trans (hHeld.2.2.1)))), ((cell_far (p := ⟨gb143, _, none⟩) NB149_143.out _).trans (((cell_far (p := ⟨gb143, _, none⟩) NB149_143.out _).trans (hHeld.2.2.2))))⟩ (fun hHeld => ?_)
                   clear hK K
                   refine done_ (by kernel_rfl) ?_
                   try go_wp2
                   refine bodyPost_ret (results_cc rfl _ _ gb142 gb143 24 24 #[.int .i64 x147000_136, .int .i64 x147001_136] #[.int .i64 x150000_136, .int .i64 x150001_136] (0, 0) (0, 0) _ _ rfl (by (with_reducible repeat (first | refine blk_drewN ?_ _ | refine blk_drew ?_ | refine blk_alloc ?_ _)); refine blk_far ?_ NB142_143.out _; (with_reducible repeat (first | refine blk_drewN ?_ _ | refine blk_drew ?_ | refine blk_alloc ?_ _)); refine blk_far ?_ NB142_143.out _; (with_reducible repeat (first | refine blk_drewN ?_ _ | refine blk_drew ?_ | refine blk_alloc ?_ _)); refine blk_put (cs := #[.int .i64 x147000_136, .int .i64 0]) ?_ 1 _ rfl; (with_reducible repeat (first | refine blk_drewN ?_ _ | refine blk_drew ?_ | refine blk_alloc ?_ _)); refine blk_put (cs := #[.int .i64 0, .int .i64 0]) ?_ 0 _ rfl; (with_reducible repeat (first | refine blk_drewN ?_ _ | refine blk_drew ?_ | refine blk_alloc ?_ _)); exact BK142.out) Try.underlying24 rfl (by kernel_rfl) rfl (by (with_reducible repeat (first | refine blk_drewN ?_ _ | refine blk_drew ?_ | refine blk_alloc ?_ _)); refine blk_put (cs := #[.int .i64 x150000_136, .int .i64 0]) ?_ 1 _ rfl; (with_reducible repeat (first | refine blk_drewN ?_ _ | refine blk_drew ?_ | refine blk_alloc ?_ _)); refine blk_put (cs := #[.int .i64 0, .int .i64 0]) ?_ 0 _ rfl; (with_reducible repeat (first | refine blk_drewN ?_ _ | refine blk_drew ?_ | refine blk_alloc ?_ _)); refine blk_far ?_ NB143_142.out _; (with_reducible repeat (first | refine blk_drewN ?_ _ | refine blk_drew ?_ | refine blk_alloc ?_ _)); refine blk_far ?_ NB143_142.out _; (with_reducible repeat (first | refine blk_drewN ?_ _ | refine blk_drew ?_ | refine blk_alloc ?_ _)); exact BK143.out) Try.underlying24 rfl (by kernel_rfl)) rfl ?_
                   exact ⟨by first | rfl | (simp [errW_none, errW_some] <;> rfl) | (simp [*, errW_none, errW_some] <;> rfl), Y6 HB GE140 GE141 GE142 GE143 GE146 GE149⟩

end Go.Proofs.Ytlipfemjlicbbaa.PFnExactRangeCmp
