/- Written by this session's own driver (wip/dprint.py): the functions that the law FnRangeFaults reaches, as Lean functions, each with its contract. -/
import Derived.Test.YthbkakcchgnhpaaPFnRangeFaultsx0
import Derived.Test.YthbkakcchgnhpaaPFnRangeFaultsx1
import Derived.Test.YthbkakcchgnhpaaPFnRangeFaultsx2
import Derived.Test.YthbkakcchgnhpaaPFnRangeFaultsx3
import Derived.Test.YthbkakcchgnhpaaPFnRangeFaultsx4
import Derived.Test.YthbkakcchgnhpaaPFnRangeFaultsx5
import Derived.Test.YthbkakcchgnhpaaPFnRangeFaultsx6
import Derived.Test.YthbkakcchgnhpaaSv
namespace Go.Proofs.Ythbkakcchgnhpaa.PFnRangeFaults
open Go.RowKit Go.Proofs.YthbkakcchgnhpaaV.PrintWords Go.Proofs.YthbkakcchgnhpaaV.PrintLast Go.Proofs.YthbkakcchgnhpaaV.PrintMore Go.Proofs.YthbkakcchgnhpaaSv
attribute [local go_sem] max2_int min2_int max_two min_two max_three min_three max_four min_four   -- for this text's walks alone
set_option linter.unusedVariables false
set_option linter.unusedSimpArgs false

attribute [local go_sem high] eqA24
/-! ### spec_l8Div: function 39 -/
attribute [local go_sem] Go.Proofs.YthbkakcchgnhpaaSet.isSome_setCell
mutual
def spec_l8Div.j0 : Nat → Int → List Int → Bool → Int → Int → Int → Int → Int → Int → Int → Int → Option (Int × Int × List Int)
 | 0, _, _, _, _, _, _, _, _, _, _, _ => none
 | k + 1, x0, x8, x31, x178000, x178001, x179000, x179001, x186000, x186001, x189000, x189001 => if x31 = true then (if x8.length < 17592186044416 then (spec_l8Div.j1 k x0 (x8 ++ [1]) x178000 x178001 x179000 x179001 x186000 x186001 x189000 x189001) else (none)) else (spec_l8Div.j1 k x0 x8 x178000 x178001 x179000 x179001 x186000 x186001 x189000 x189001)
def spec_l8Div.j1 : Nat → Int → List Int → Int → Int → Int → Int → Int → Int → Int → Int → Option (Int × Int × List Int)
 | 0, _, _, _, _, _, _, _, _, _, _ => none
 | k + 1, x0, x8, x178000, x178001, x179000, x179001, x186000, x186001, x189000, x189001 => (spec_RangeHas.f x179000 x179001 0).bind fun t193 => (if t193 = true then (if x8.length < 17592186044416 then (spec_l8Div.j2 k x0 (x8 ++ [2]) x178000 x178001 x179000 x179001 x186000 x186001 x189000 x189001) else (none)) else (spec_l8Div.j2 k x0 x8 x178000 x178001 x179000 x179001 x186000 x186001 x189000 x189001))
def spec_l8Div.j2 : Nat → Int → List Int → Int → Int → Int → Int → Int → Int → Int → Int → Option (Int × Int × List Int)
 | 0, _, _, _, _, _, _, _, _, _, _ => none
 | k + 1, x0, x8, x178000, x178001, x179000, x179001, x186000, x186001, x189000, x189001 => if x0 = 5 then ((spec_l8None.f).bind fun bt197 => ((spec_l8None.f).bind fun bt200 => (if (!(x186000 == bt200.1) || (!(x186001 == bt200.2))) = true then ((spec_l8Rem.f k x178000 x178001 (wrap64 (-x186001)) (wrap64 (-x186000))).bind fun bt202 => ((spec_RangeJoin.f k bt197.1 bt197.2 bt202.1 bt202.2).bind fun bt204 => (spec_l8Div.j3 k x0 x8 x178000 x178001 x179000 x179001 x189000 x189001 bt204.1 bt204.2))) else (spec_l8Div.j3 k x0 x8 x178000 x178001 x179000 x179001 x189000 x189001 bt197.1 bt197.2)))) else ((spec_l8None.f).bind fun bt215 => (if (!(x186000 == bt215.1) || (!(x186001 == bt215.2))) = true then ((spec_l8R_corners.f k false 0 0 x0 x178000 x178001 x186000 x186001).bind fun bt217 => (spec_l8Div.j4 k x0 x8 x178000 x178001 x189000 x189001 bt217.1 bt217.2.1 bt217.2.2)) else (spec_l8Div.j4 k x0 x8 x178000 x178001 x189000 x189001 false 0 0)))
def spec_l8Div.j3 : Nat → Int → List Int → Int → Int → Int → Int → Int → Int → Int → Int → Option (Int × Int × List Int)
 | 0, _, _, _, _, _, _, _, _, _, _ => none
 | k + 1, x0, x8, x178000, x178001, x179000, x179001, x189000, x189001, x200000, x200001 => (spec_l8None.f).bind fun bt206 => (if (!(x189000 == bt206.1) || (!(x189001 == bt206.2))) = true then ((spec_l8Rem.f k x178000 x178001 x189000 x189001).bind fun bt208 => ((spec_RangeJoin.f k x200000 x200001 bt208.1 bt208.2).bind fun bt210 => (if x178000 = x178001 then (if x179000 = x179001 then (if x179000 = 0 then (some (bt210.1, bt210.2, x8)) else ((spec_l1Exact.f k x0 x178000 x179000).bind fun t212 => (some (t212, t212, x8)))) else (some (bt210.1, bt210.2, x8))) else (some (bt210.1, bt210.2, x8))))) else (if x178000 = x178001 then (if x179000 = x179001 then (if x179000 = 0 then (some (x200000, x200001, x8)) else ((spec_l1Exact.f k x0 x178000 x179000).bind fun t213 => (some (t213, t213, x8)))) else (some (x200000, x200001, x8))) else (some (x200000, x200001, x8))))
def spec_l8Div.j4 : Nat → Int → List Int → Int → Int → Int → Int → Bool → Int → Int → Option (Int × Int × List Int)
 | 0, _, _, _, _, _, _, _, _, _ => none
 | k + 1, x0, x8, x178000, x178001, x189000, x189001, x215000, x215001, x215002 => (spec_l8None.f).bind fun bt220 => (if (!(x189000 == bt220.1) || (!(x189001 == bt220.2))) = true then ((spec_l8R_corners.f k x215000 x215001 x215002 x0 x178000 x178001 x189000 x189001).bind fun bt222 => (spec_l8Div.j5 k x8 bt222.1 bt222.2.1 bt222.2.2)) else (spec_l8Div.j5 k x8 x215000 x215001 x215002))
def spec_l8Div.j5 : Nat → List Int → Bool → Int → Int → Option (Int × Int × List Int)
 | 0, _, _, _, _ => none
 | k + 1, x8, x215000, x215001, x215002 => if x215000 = true then ((spec_l8Cut.f x215001 x215002).bind fun bt225 => (some (bt225.1, bt225.2, x8))) else ((spec_l8None.f).bind fun bt227 => (some (bt227.1, bt227.2, x8)))
end
def spec_l8Div.f (k : Nat) (a0 : Int) (a1_0 : Int) (a1_1 : Int) (a2_0 : Int) (a2_1 : Int) : Option (Int × Int × List Int) := (some (([] : List Int) : List Int)).bind fun y180 => ((spec_RangeMeet.f k a2_0 a2_1 (-2147483648) (-1)).bind fun bt183 => ((spec_RangeMeet.f k a2_0 a2_1 1 2147483647).bind fun bt186 => (if a0 = 4 then (if a1_0 = (-2147483648) then ((spec_RangeHas.f a2_0 a2_1 (-1)).bind fun t189 => (spec_l8Div.j0 k a0 y180 t189 a1_0 a1_1 a2_0 a2_1 bt183.1 bt183.2 bt186.1 bt186.2)) else (spec_l8Div.j0 k a0 y180 false a1_0 a1_1 a2_0 a2_1 bt183.1 bt183.2 bt186.1 bt186.2)) else (spec_l8Div.j0 k a0 y180 false a1_0 a1_1 a2_0 a2_1 bt183.1 bt183.2 bt186.1 bt186.2))))
theorem spec_l8Div.mono_l : ∀ k, (∀ y0 y1 y2 y3 y4 y5 y6 y7 y8 y9 y10, LeO (spec_l8Div.j0 k y0 y1 y2 y3 y4 y5 y6 y7 y8 y9 y10) (spec_l8Div.j0 (k + 1) y0 y1 y2 y3 y4 y5 y6 y7 y8 y9 y10)) ∧ (∀ y0 y1 y2 y3 y4 y5 y6 y7 y8 y9, LeO (spec_l8Div.j1 k y0 y1 y2 y3 y4 y5 y6 y7 y8 y9) (spec_l8Div.j1 (k + 1) y0 y1 y2 y3 y4 y5 y6 y7 y8 y9)) ∧ (∀ y0 y1 y2 y3 y4 y5 y6 y7 y8 y9, LeO (spec_l8Div.j2 k y0 y1 y2 y3 y4 y5 y6 y7 y8 y9) (spec_l8Div.j2 (k + 1) y0 y1 y2 y3 y4 y5 y6 y7 y8 y9)) ∧ (∀ y0 y1 y2 y3 y4 y5 y6 y7 y8 y9, LeO (spec_l8Div.j3 k y0 y1 y2 y3 y4 y5 y6 y7 y8 y9) (spec_l8Div.j3 (k + 1) y0 y1 y2 y3 y4 y5 y6 y7 y8 y9)) ∧ (∀ y0 y1 y2 y3 y4 y5 y6 y7 y8, LeO (spec_l8Div.j4 k y0 y1 y2 y3 y4 y5 y6 y7 y8) (spec_l8Div.j4 (k + 1) y0 y1 y2 y3 y4 y5 y6 y7 y8)) ∧ (∀ y0 y1 y2 y3, LeO (spec_l8Div.j5 k y0 y1 y2 y3) (spec_l8Div.j5 (k + 1) y0 y1 y2 y3))
 | 0 => ⟨fun _ _ _ _ _ _ _ _ _ _ _ r h => by simp [spec_l8Div.j0] at h, fun _ _ _ _ _ _ _ _ _ _ r h => by simp [spec_l8Div.j1] at h, fun _ _ _ _ _ _ _ _ _ _ r h => by simp [spec_l8Div.j2] at h, fun _ _ _ _ _ _ _ _ _ _ r h => by simp [spec_l8Div.j3] at h, fun _ _ _ _ _ _ _ _ _ r h => by simp [spec_l8Div.j4] at h, fun _ _ _ _ r h => by simp [spec_l8Div.j5] at h⟩
 | k + 1 => by
  obtain ⟨ih0, ih1, ih2, ih3, ih4, ih5⟩ := spec_l8Div.mono_l k
  refine ⟨?_, ?_, ?_, ?_, ?_, ?_⟩ <;> (intros; (first | unfold spec_l8Div.j0 | unfold spec_l8Div.j1 | unfold spec_l8Div.j2 | unfold spec_l8Div.j3 | unfold spec_l8Div.j4 | unfold spec_l8Div.j5); repeat' first | (with_reducible first | apply ih0 | apply ih1 | apply ih2 | apply ih3 | apply ih4 | apply ih5 | apply spec_RangeJoin.mono | apply spec_RangeMeet.mono | apply spec_l1Exact.mono | apply spec_l8R_corners.mono | apply spec_l8Rem.mono | apply LeO.refl | apply LeO.none | refine LeO.ite ?_ ?_ | refine LeO.bind ?_ (fun _ => ?_)) | apply ih0 | apply ih1 | apply ih2 | apply ih3 | apply ih4 | apply ih5 | apply spec_RangeJoin.mono | apply spec_RangeMeet.mono | apply spec_l1Exact.mono | apply spec_l8R_corners.mono | apply spec_l8Rem.mono | apply LeO.none | refine LeO.ite ?_ ?_ | refine LeO.bind ?_ (fun _ => ?_))
theorem spec_l8Div.mono : ∀ a0 a1 a2 a3 a4 k, LeO (spec_l8Div.f k a0 a1 a2 a3 a4) (spec_l8Div.f (k + 1) a0 a1 a2 a3 a4) := by
 intro a0 a1 a2 a3 a4 k
 obtain ⟨ih0, ih1, ih2, ih3, ih4, ih5⟩ := spec_l8Div.mono_l k
 unfold spec_l8Div.f
 repeat' first | (with_reducible first | apply ih0 | apply ih1 | apply ih2 | apply ih3 | apply ih4 | apply ih5 | apply spec_RangeJoin.mono | apply spec_RangeMeet.mono | apply spec_l1Exact.mono | apply spec_l8R_corners.mono | apply spec_l8Rem.mono | apply LeO.refl | apply LeO.none | refine LeO.ite ?_ ?_ | refine LeO.bind ?_ (fun _ => ?_)) | apply ih0 | apply ih1 | apply ih2 | apply ih3 | apply ih4 | apply ih5 | apply spec_RangeJoin.mono | apply spec_RangeMeet.mono | apply spec_l1Exact.mono | apply spec_l8R_corners.mono | apply spec_l8Rem.mono | apply LeO.none | refine LeO.ite ?_ ?_ | refine LeO.bind ?_ (fun _ => ?_)
def spec_l8Div.T11 : Bool × List (List Nat × List Nat) := (true, [([], []), ([], []), ([], []), ([2], [2]), ([3], [3]), ([], []), ([5], [5]), ([6], [6]), ([1, 4, 7], [1, 4, 7]), ([0, 8, 8], [0, 8]), ([9, 9, 0, 1, 2, 3, 4, 5, 6, 7, 8, 9], [9])])
def spec_l8Div.B11 : List Nat := [0, 0, 0, 4, 12, 0, 32, 96, 254, 511, 1023]
theorem spec_l8Div.tab11 : rtab .any (opsOf Try.f39 11) = spec_l8Div.T11 := by kernel_rfl
theorem spec_l8Div.bits11 : waitsOk spec_l8Div.T11.2 spec_l8Div.B11 = true := by kernel_rfl
def spec_l8Div.T13 : Bool × List (List Nat × List Nat) := (true, [([], []), ([], []), ([], []), ([2], [2]), ([], []), ([4], [4]), ([1, 3, 5], [1, 3, 5]), ([0, 6, 6], [0, 6]), ([7, 7, 0, 1, 2, 3, 4, 5, 6, 7], [7])])
def spec_l8Div.B13 : List Nat := [0, 0, 0, 4, 0, 16, 62, 127, 255]
theorem spec_l8Div.tab13 : rtab .any (opsOf Try.f39 13) = spec_l8Div.T13 := by kernel_rfl
theorem spec_l8Div.bits13 : waitsOk spec_l8Div.T13.2 spec_l8Div.B13 = true := by kernel_rfl
def spec_l8Div.T25 : Bool × List (List Nat × List Nat) := (true, [([], []), ([0], [0]), ([1], [1]), ([2], [2]), ([], []), ([4], [4]), ([5], [5]), ([6], [6]), ([3, 7], [3, 7]), ([], []), ([8, 8, 0, 1, 2, 3, 4, 5, 6, 7, 8], [8]), ([9, 10, 0, 1, 2, 3, 4, 5, 6, 7, 8, 9, 10], [9])])
def spec_l8Div.B25 : List Nat := [0, 1, 3, 7, 0, 16, 48, 112, 255, 0, 511, 2047]
theorem spec_l8Div.tab25 : rtab .any (opsOf Try.f39 25) = spec_l8Div.T25 := by kernel_rfl
theorem spec_l8Div.bits25 : waitsOk spec_l8Div.T25.2 spec_l8Div.B25 = true := by kernel_rfl
set_option maxHeartbeats 8000000 in
set_option maxRecDepth 100000 in
theorem spec_l8Div.calls (k : Nat) (a0 : Int) (a1_0 : Int) (a1_1 : Int) (a2_0 : Int) (a2_1 : Int) (r1 : Int) (r2 : Int) (r3 : List Int) (w : World) (h : spec_l8Div.f k a0 a1_0 a1_1 a2_0 a2_1 = some (r1, r2, r3)) :
  Calls Try.prog 39 #[.int .i64 a0, .agg #[.int .i64 a1_0, .int .i64 a1_1], .agg #[.int .i64 a2_0, .int .i64 a2_1]] w fun e w' => ∃ v2_ : Value, e = .returned (.tuple #[.agg #[.int .i64 r1, .int .i64 r2], v2_]) ∧ Kd.R (Kd.int .i64) 3 w' w.heap.size (fun _ => True) v2_ r3 ∧ Below w.heap.size w w' := by
 have hu24 := Try.underlying24
 have hu67 := Try.underlying67
 have HB := am (Below.refl w.heap.size w)
 have H : ((some (([] : List Int) : List Int)).bind fun y180 => ((spec_RangeMeet.f k a2_0 a2_1 (-2147483648) (-1)).bind fun bt183 => ((spec_RangeMeet.f k a2_0 a2_1 1 2147483647).bind fun bt186 => (if a0 = 4 then (if a1_0 = (-2147483648) then ((spec_RangeHas.f a2_0 a2_1 (-1)).bind fun t189 => (spec_l8Div.j0 k a0 y180 t189 a1_0 a1_1 a2_0 a2_1 bt183.1 bt183.2 bt186.1 bt186.2)) else (spec_l8Div.j0 k a0 y180 false a1_0 a1_1 a2_0 a2_1 bt183.1 bt183.2 bt186.1 bt186.2)) else (spec_l8Div.j0 k a0 y180 false a1_0 a1_1 a2_0 a2_1 bt183.1 bt183.2 bt186.1 bt186.2))))) = some (r1, r2, r3) := h
 clear h
 obtain ⟨y180, hy180⟩ : ∃ y_ : List Int, y_ = (([] : List Int)) := ⟨_, rfl⟩
 replace H : ((spec_RangeMeet.f k a2_0 a2_1 (-2147483648) (-1)).bind fun bt183 => ((spec_RangeMeet.f k a2_0 a2_1 1 2147483647).bind fun bt186 => (if a0 = 4 then (if a1_0 = (-2147483648) then ((spec_RangeHas.f a2_0 a2_1 (-1)).bind fun t189 => (spec_l8Div.j0 k a0 y180 t189 a1_0 a1_1 a2_0 a2_1 bt183.1 bt183.2 bt186.1 bt186.2)) else (spec_l8Div.j0 k a0 y180 false a1_0 a1_1 a2_0 a2_1 bt183.1 bt183.2 bt186.1 bt186.2)) else (spec_l8Div.j0 k a0 y180 false a1_0 a1_1 a2_0 a2_1 bt183.1 bt183.2 bt186.1 bt186.2)))) = some (r1, r2, r3) := by first | (rw [hy180]; with_reducible exact H) | (have H2_ := (Option.bind_some _ _).symm.trans H; rw [hy180]; with_reducible exact H2_) | (have H2_ := (Option.bind_some _ _).symm.trans H; with_reducible exact H2_) | with_reducible exact H | (rw [hy180]; exact H) | exact H
 have Ny180 := am hy180
 clear hy180
 obtain ⟨⟨t183, t184⟩, A4, H⟩ := bd H
 try dsimp only at H
 obtain ⟨⟨t186, t187⟩, A5, H⟩ := bd H
 try dsimp only at H
 have HC6 := am H
 clear H
 go_enter Try.func39, Try.ntmps39
 go_upto_region 4 with (first | ((with_reducible refine gate_dst (N := 4) rfl ?_); refine bx 4 #[.int .i64 a1_0, .int .i64 a1_1] 24 ?_; intro gb177 hg w7 hbox hb; have BK177 := am (hbox); have GW177 := am (bs hg (YA HB)); have GE177 := GW177; replace HB := am (below_step (YA HB) hb); clear hb hbox hg) | ((with_reducible refine gate_dst (N := 5) rfl ?_); refine bx 5 #[.int .i64 a2_0, .int .i64 a2_1] 24 ?_; intro gb178 hg w8 hbox hb; have BK178 := am (hbox); have GW178 := am (bs hg (YA HB)); have GE178 := GW178; obtain ⟨NB177_178,NB178_177⟩ := ne_ hg BK177; obtain ⟨BK177, HB⟩ := bk1 BK177 HB hb; clear hb hbox hg) | ((with_reducible refine gate_dst (N := 6) rfl ?_); refine bx 6 #[.int .i64 0, .int .i64 0] 24 ?_; intro gb179 hg w9 hbox hb; have BK179 := am (hbox); have GW179 := am (bs hg (YA HB)); have GE179 := GW179; obtain ⟨NB177_179,NB179_177⟩ := ne_ hg BK177; obtain ⟨NB178_179,NB179_178⟩ := ne_ hg BK178; obtain ⟨BK177, BK178, HB⟩ := bk2 BK177 BK178 HB hb; clear hb hbox hg) | ((with_reducible refine gate_dst (N := 14) rfl ?_); refine Kd.R_lit (Kd.int .i64) _ 3 ?hg (N := 14) ?hd (xs := ([] : List Int)) (inner := []) (ok := fun _ => True) (okp := fun _ => True) ?hr ?hp (fun _ hk => hk) trivial (Below.refl _ _) (Nat.le_refl _) (by simp) ?_; (case hd => rfl); (case hg => rfl); (case hr => first | (go_simp; done) | (go_simp; rfl)); (case hp => exact (Reps.none _ _)); intro v181 w10 ho11 hb hg_ hnew_; clear hg_ hnew_; (first | rw [← Ny180.out] at ho11 | (simp only [Int.reduceToNat] at ho11; rw [← Ny180.out] at ho11)); have HO182 := am (Kd.R_lower ho11 (below_size (YA HB))); obtain ⟨BK177, BK178, BK179, HB⟩ := bk3 BK177 BK178 BK179 HB hb; clear hb ho11; obtain ⟨hnb12,hnc12⟩ := nn NB178_177; obtain ⟨hnb13,hnc13⟩ := nn NB178_179; obtain ⟨hcz14_0,hcz14_1,hfz14_0,hfz14_1⟩ := cB2 BK178) | ((with_reducible refine gate_callee (f := 41) rfl ?_); refine gL 17 Try.func41 (spec_RangeMeet.calls _ _ _ _ _ _ _ _ A4.out) fun w15 hb => ?_; replace HO182 := am (Kd.R_below (RZ HO182) hb); obtain ⟨BK177, BK178, BK179, HB⟩ := bk3 BK177 BK178 BK179 HB hb; (try clear hb)) | ((with_reducible refine gate_dst (N := 9) rfl ?_); refine bx 9 #[.int .i64 0, .int .i64 0] 24 ?_; intro gb185 hg w16 hbox hb; have BK185 := am (hbox); have GW185 := am (bs hg (YA HB)); have GE185 := GW185; obtain ⟨NB177_185,NB185_177⟩ := ne_ hg BK177; obtain ⟨NB178_185,NB185_178⟩ := ne_ hg BK178; obtain ⟨NB179_185,NB185_179⟩ := ne_ hg BK179; replace HO182 := am (Kd.R_below (RZ HO182) hb); obtain ⟨BK177, BK178, BK179, HB⟩ := bk3 BK177 BK178 BK179 HB hb; clear hb hbox hg; obtain ⟨hnb17,hnc17⟩ := nn NB185_177; obtain ⟨hnb18,hnc18⟩ := nn NB185_178; obtain ⟨hnb19,hnc19⟩ := nn NB185_179; obtain ⟨hcz20_0,hcz20_1,hfz20_0,hfz20_1⟩ := cB2 BK185; obtain ⟨hcz21_0,hcz21_1,hfz21_0,hfz21_1⟩ := cB2 BK178) | ((with_reducible refine gate_callee (f := 41) rfl ?_); refine gL 20 Try.func41 (spec_RangeMeet.calls _ _ _ _ _ _ _ _ A5.out) fun w22 hb => ?_; replace HO182 := am (Kd.R_below (by (with_reducible repeat (first | apply Kd.R_alloc | apply Kd.R_drewN | apply Kd.R_drew)); exact (Kd.R_mono (Kd.R_far (p := ⟨gb185, 1, none⟩) (Kd.R_far (p := ⟨gb185, 0, none⟩) (Kd.R_types HO182.out BK185.out (by decide)) (fun _ hk => hk.2) (.int .i64 t183)) (fun _ hk => hk.2) (.int .i64 t184)) (fun _ h_ => h_.1))) hb); replace BK177 := am (blk_below (g := gb177) (o := b2 a1_0 a1_1 24) (by refine fa NB177_185 ?_; refine fa NB177_185 ?_; exact Z BK177) hb); replace BK178 := am (blk_below (g := gb178) (o := b2 a2_0 a2_1 24) (by refine fa NB178_185 ?_; refine fa NB178_185 ?_; exact Z BK178) hb); replace BK179 := am (blk_below (g := gb179) (o := b2 0 0 24) (by refine fa NB179_185 ?_; refine fa NB179_185 ?_; exact Z BK179) hb); replace BK185 := am (blk_below (g := gb185) (o := b2 t183 t184 24) (by refine pf ?_; refine blk_put (cs := #[.int .i64 t183, .int .i64 0]) ?_ 1 _ rfl; refine pf ?_; refine blk_put (cs := #[.int .i64 0, .int .i64 0]) ?_ 0 _ rfl; exact Z BK185) hb); replace HB := am (below_step (YA HB) hb); (try clear hb)) | ((with_reducible refine gate_dst (N := 10) rfl ?_); refine bx 10 #[.int .i64 0, .int .i64 0] 24 ?_; intro gb188 hg w23 hbox hb; have BK188 := am (hbox); have GW188 := am (bs hg (YA HB)); have GE188 := GW188; obtain ⟨NB177_188,NB188_177⟩ := ne_ hg BK177; obtain ⟨NB178_188,NB188_178⟩ := ne_ hg BK178; obtain ⟨NB179_188,NB188_179⟩ := ne_ hg BK179; obtain ⟨NB185_188,NB188_185⟩ := ne_ hg BK185; replace HO182 := am (Kd.R_below (RZ HO182) hb); obtain ⟨BK177, BK178, BK179, BK185, HB⟩ := bk4 BK177 BK178 BK179 BK185 HB hb; clear hb hbox hg; obtain ⟨hnb24,hnc24⟩ := nn NB188_177; obtain ⟨hnb25,hnc25⟩ := nn NB188_178; obtain ⟨hnb26,hnc26⟩ := nn NB188_179; obtain ⟨hnb27,hnc27⟩ := nn NB188_185; obtain ⟨hcz28_0,hcz28_1,hfz28_0,hfz28_1⟩ := cB2 BK188))
 (try simp only [Act.put, List.setIfInBounds_toArray, List.set_cons_zero, List.set_cons_succ])
 go_cut [31] (fun v31 wc => ∃ (kq : Nat) (x31_5 : Bool), v31 = .bool x31_5 ∧ Aside0 (spec_l8Div.j0 kq a0 y180 x31_5 a1_0 a1_1 a2_0 a2_1 t183 t184 t186 t187 = some (r1, r2, r3)) ∧ Aside0 (kq ≤ k) ∧ Aside0 (Kd.R (Kd.int .i64) 3 wc w.heap.size (fun _ => True) v181 y180) ∧ Bx2 wc gb177 a1_0 a1_1 24 ∧ Bx2 wc gb178 a2_0 a2_1 24 ∧ Bx2 wc gb179 0 0 24 ∧ Bx2 wc gb185 t183 t184 24 ∧ Bx2 wc gb188 t186 t187 24 ∧ Aside0 (Below w.heap.size w wc))
 case first =>
  have H := HC6.out
  clear HC6
  by_cases c29 : a0 = 4
  rotate_left
  ·rw [if_neg c29] at H
   have c29b0 := eF c29
   have c29b1 := nT c29
   (first | rw [c29b0] | (simp only [i64_w, i32_w]; rw [c29b0]) | skip)
   have H' := am H
   clear H
   go_wp2
   go_meet
   case rel => exact ⟨_, (false), ey, H', le0, ⟨by (with_reducible repeat (first | apply Kd.R_alloc | apply Kd.R_drewN | apply Kd.R_drew)); exact Kd.R_mono (Kd.R_far (p := ⟨gb188, 1, none⟩) (Kd.R_far (p := ⟨gb188, 0, none⟩) (Kd.R_types HO182.out BK188.out (by decide)) (fun _ hk => hk.2) (.int .i64 t186)) (fun _ hk => hk.2) (.int .i64 t187)) (fun _ hk => trivial)⟩, ⟨by refine fa NB177_188 ?_; refine fa NB177_188 ?_; exact Z BK177⟩, ⟨by refine fa NB178_188 ?_; refine fa NB178_188 ?_; exact Z BK178⟩, ⟨by refine fa NB179_188 ?_; refine fa NB179_188 ?_; exact Z BK179⟩, ⟨by refine fa NB185_188 ?_; refine fa NB185_188 ?_; exact Z BK185⟩, ⟨by refine pf ?_; refine blk_put (cs := #[.int .i64 t186, .int .i64 0]) ?_ 1 _ rfl; refine pf ?_; refine blk_put (cs := #[.int .i64 0, .int .i64 0]) ?_ 0 _ rfl; exact Z BK188⟩, ⟨YA HB⟩⟩
  rw [if_pos c29] at H
  have c29b0 := eT c29
  have c29b1 := nF c29
  clear c29
  (first | rw [c29b0] | (simp only [i64_w, i32_w]; rw [c29b0]) | skip)
  by_cases c30 : a1_0 = (-2147483648)
  rotate_left
  ·rw [if_neg c30] at H
   have c30b0 := eF c30
   have c30b1 := nT c30
   have H' := am H
   clear H
   obtain ⟨hnb42,hnc42⟩ := nn NB177_178
   obtain ⟨hnb43,hnc43⟩ := nn NB177_179
   obtain ⟨hnb44,hnc44⟩ := nn NB177_185
   obtain ⟨hnb45,hnc45⟩ := nn NB177_188
   obtain ⟨hcz46_0,hcz46_1,hfz46_0,hfz46_1⟩ := cB2 BK177
   go_wp2
   go_meet
   case rel => exact ⟨_, (false), ey, H', le0, ⟨by (with_reducible repeat (first | apply Kd.R_alloc | apply Kd.R_drewN | apply Kd.R_drew)); exact Kd.R_mono (Kd.R_far (p := ⟨gb188, 1, none⟩) (Kd.R_far (p := ⟨gb188, 0, none⟩) (Kd.R_types HO182.out BK188.out (by decide)) (fun _ hk => hk.2) (.int .i64 t186)) (fun _ hk => hk.2) (.int .i64 t187)) (fun _ hk => trivial)⟩, ⟨by refine fa NB177_188 ?_; refine fa NB177_188 ?_; exact Z BK177⟩, ⟨by refine fa NB178_188 ?_; refine fa NB178_188 ?_; exact Z BK178⟩, ⟨by refine fa NB179_188 ?_; refine fa NB179_188 ?_; exact Z BK179⟩, ⟨by refine fa NB185_188 ?_; refine fa NB185_188 ?_; exact Z BK185⟩, ⟨by refine pf ?_; refine blk_put (cs := #[.int .i64 t186, .int .i64 0]) ?_ 1 _ rfl; refine pf ?_; refine blk_put (cs := #[.int .i64 0, .int .i64 0]) ?_ 0 _ rfl; exact Z BK188⟩, ⟨YA HB⟩⟩
  rw [if_pos c30] at H
  have c30b0 := eT c30
  have c30b1 := nF c30
  clear c30
  obtain ⟨t189, A31, H⟩ := bd H
  try dsimp only at H
  have H' := am H
  clear H
  obtain ⟨hnb32,hnc32⟩ := nn NB177_178
  obtain ⟨hnb33,hnc33⟩ := nn NB177_179
  obtain ⟨hnb34,hnc34⟩ := nn NB177_185
  obtain ⟨hnb35,hnc35⟩ := nn NB177_188
  obtain ⟨hcz36_0,hcz36_1,hfz36_0,hfz36_1⟩ := cB2 BK177
  obtain ⟨hnb37,hnc37⟩ := nn NB178_179
  obtain ⟨hnb38,hnc38⟩ := nn NB178_185
  obtain ⟨hnb39,hnc39⟩ := nn NB178_188
  obtain ⟨hcz40_0,hcz40_1,hfz40_0,hfz40_1⟩ := cB2 BK178
  go_wp2_with (first | (go_at_call 22; (with_reducible refine (spec_RangeHas.calls _ _ _ _ _ A31.out).mono ?_); rintro e w41 ⟨rfl, hb⟩; replace HO182 := am (Kd.R_below (by (with_reducible repeat (first | apply Kd.R_alloc | apply Kd.R_drewN | apply Kd.R_drew)); exact (Kd.R_mono (Kd.R_far (p := ⟨gb188, 1, none⟩) (Kd.R_far (p := ⟨gb188, 0, none⟩) (Kd.R_types HO182.out BK188.out (by decide)) (fun _ hk => hk.2) (.int .i64 t186)) (fun _ hk => hk.2) (.int .i64 t187)) (fun _ h_ => h_.1))) hb); replace BK177 := am (blk_below (g := gb177) (o := b2 a1_0 a1_1 24) (by refine fa NB177_188 ?_; refine fa NB177_188 ?_; exact Z BK177) hb); replace BK178 := am (blk_below (g := gb178) (o := b2 a2_0 a2_1 24) (by refine fa NB178_188 ?_; refine fa NB178_188 ?_; exact Z BK178) hb); replace BK179 := am (blk_below (g := gb179) (o := b2 0 0 24) (by refine fa NB179_188 ?_; refine fa NB179_188 ?_; exact Z BK179) hb); replace BK185 := am (blk_below (g := gb185) (o := b2 t183 t184 24) (by refine fa NB185_188 ?_; refine fa NB185_188 ?_; exact Z BK185) hb); replace BK188 := am (blk_below (g := gb188) (o := b2 t186 t187 24) (by refine pf ?_; refine blk_put (cs := #[.int .i64 t186, .int .i64 0]) ?_ 1 _ rfl; refine pf ?_; refine blk_put (cs := #[.int .i64 0, .int .i64 0]) ?_ 0 _ rfl; exact Z BK188) hb); replace HB := am (below_step (YA HB) hb); (try clear hb)))
  go_meet
  case rel => exact ⟨_, (t189), ey, H', le0, ⟨by exact RZ HO182⟩, ⟨Z BK177⟩, ⟨Z BK178⟩, ⟨Z BK179⟩, ⟨Z BK185⟩, ⟨Z BK188⟩, ⟨YA HB⟩⟩
 case rest =>
  clear HC6
  (try clear hcz14_0);(try clear hcz14_1);(try clear hcz20_0);(try clear hcz20_1);(try clear hcz21_0);(try clear hcz21_1);(try clear hcz28_0);(try clear hcz28_1);(try clear hfz14_0);(try clear hfz14_1);(try clear hfz20_0);(try clear hfz20_1);(try clear hfz21_0);(try clear hfz21_1);(try clear hfz28_0);(try clear hfz28_1)
  obtain ⟨kq, x31_5, rfl, HA, HJ5, HO_8, BK177, BK178, BK179, BK185, BK188, HB⟩ := hcut
  cases kq with
  | zero => exact absurd HA.out (by simp [spec_l8Div.j0])
  | succ kj5 =>
   have H := HA.out
   clear HA
   simp only [spec_l8Div.j0] at H
   have HC47 := am H
   clear H
   go_upto_if 31 with (fail)
   go_cut [8] (fun v8 wc => ∃ (kq : Nat) (x8_46 : List Int), Aside0 (spec_l8Div.j1 kq a0 x8_46 a1_0 a1_1 a2_0 a2_1 t183 t184 t186 t187 = some (r1, r2, r3)) ∧ Aside0 (kq ≤ kj5) ∧ Aside0 (Kd.R (Kd.int .i64) 3 wc w.heap.size (fun _ => True) v8 x8_46) ∧ Bx2 wc gb177 a1_0 a1_1 24 ∧ Bx2 wc gb178 a2_0 a2_1 24 ∧ Bx2 wc gb179 0 0 24 ∧ Bx2 wc gb185 t183 t184 24 ∧ Bx2 wc gb188 t186 t187 24 ∧ Aside0 (Below w.heap.size w wc))
   case first =>
    have H := HC47.out
    clear HC47
    by_cases c48 : x31_5 = true
    rotate_left
    ·replace c48 := Bool.eq_false_iff.mpr c48
     subst c48
     rw [if_neg ff] at H
     have H' := am H
     clear H
     go_wp2
     go_meet
     case rel => exact ⟨_, (y180), H', le1 HJ5, ⟨by exact RZ HO_8⟩, ⟨Z BK177⟩, ⟨Z BK178⟩, ⟨Z BK179⟩, ⟨Z BK185⟩, ⟨Z BK188⟩, ⟨YA HB⟩⟩
    subst c48
    rw [if_pos rfl] at H
    by_cases c49 : y180.length < 17592186044416
    rotate_left
    ·rw [if_neg c49] at H
     exact absurd H (by simp)
    rw [if_pos c49] at H
    have LMc49 := am c49
    clear c49
    obtain ⟨y190, hy190⟩ : ∃ y_ : List Int, y_ = (y180 ++ [1]) := ⟨_, rfl⟩
    replace H : (spec_l8Div.j1 kj5 a0 y190 a1_0 a1_1 a2_0 a2_1 t183 t184 t186 t187) = some (r1, r2, r3) := by first | (rw [hy190]; with_reducible exact H) | (have H2_ := (Option.bind_some _ _).symm.trans H; rw [hy190]; with_reducible exact H2_) | (have H2_ := (Option.bind_some _ _).symm.trans H; with_reducible exact H2_) | with_reducible exact H | (rw [hy190]; exact H) | exact H
    have Ny190 := am hy190
    clear hy190
    have H' := am H
    clear H
    go_wp2_with (first | ((with_reducible refine gate_builtin (b := .append) (xs := #[.tmp 32, .tmp 33]) rfl ?_); at_builtin; refine Kd.R_append (Kd.int .i64) (w0 := w) w.heap.size rfl (.tmp 32) (.tmp 33) 25 3 (.int .i64 0) 8 rfl Try.underlying25 info3 rfl (by decide) (by omega) v181 y180 1 [.int .i64 1] (fun _ => True) (fun _ => False) rfl rfl ?aP (fun _ hk => hk.elim) ?aF ?aO ?aB ?aS ?aL ?_; (case aP => exact rfl); (case aB => exact (YA HB)); (case aF => exact (fun _ _ => trivial)); (case aO => exact (RZ HO_8)); (case aS => exact (below_size (YA HB))); (case aL => have := LMc49.out; omega); intro v191 w50 ho hb hg hat; rw [← Ny190.out] at ho; have HO192 := am (ho); replace BK177 := am (blk_grown (g := gb177) (o := b2 a1_0 a1_1 24) (Z BK177) hg (Kd.R_ne HO_8.out BK177.out (by decide))); replace BK178 := am (blk_grown (g := gb178) (o := b2 a2_0 a2_1 24) (Z BK178) hg (Kd.R_ne HO_8.out BK178.out (by decide))); replace BK179 := am (blk_grown (g := gb179) (o := b2 0 0 24) (Z BK179) hg (Kd.R_ne HO_8.out BK179.out (by decide))); replace BK185 := am (blk_grown (g := gb185) (o := b2 t183 t184 24) (Z BK185) hg (Kd.R_ne HO_8.out BK185.out (by decide))); replace BK188 := am (blk_grown (g := gb188) (o := b2 t186 t187 24) (Z BK188) hg (Kd.R_ne HO_8.out BK188.out (by decide))); replace HB := am (hb); clear HO_8; clear ho hb hg hat))
    go_meet
    case rel => exact ⟨_, (y190), H', le1 HJ5, ⟨by exact RZ HO192⟩, ⟨Z BK177⟩, ⟨Z BK178⟩, ⟨Z BK179⟩, ⟨Z BK185⟩, ⟨Z BK188⟩, ⟨YA HB⟩⟩
   case rest =>
    clear HC47
    obtain ⟨kq, x8_46, HA, HJ46, HO_8, BK177, BK178, BK179, BK185, BK188, HB⟩ := hcut
    cases kq with
    | zero => exact absurd HA.out (by simp [spec_l8Div.j1])
    | succ kj46 =>
     have H := HA.out
     clear HA
     simp only [spec_l8Div.j1] at H
     obtain ⟨t193, A51, H⟩ := bd H
     try dsimp only at H
     have HC52 := am H
     clear H
     obtain ⟨hnb53,hnc53⟩ := nn NB178_177
     obtain ⟨hnb54,hnc54⟩ := nn NB178_179
     obtain ⟨hnb55,hnc55⟩ := nn NB178_185
     obtain ⟨hnb56,hnc56⟩ := nn NB178_188
     obtain ⟨hcz57_0,hcz57_1,hfz57_0,hfz57_1⟩ := cB2 BK178
     go_upto_if 36 with (first | ((with_reducible refine gate_callee (f := 22) rfl ?_); refine gL 36 Try.func22 (spec_RangeHas.calls _ _ _ _ _ A51.out) fun w58 hb => ?_; replace HO_8 := am (Kd.R_below (RZ HO_8) hb); obtain ⟨BK177, BK178, BK179, BK185, BK188, HB⟩ := bk5 BK177 BK178 BK179 BK185 BK188 HB hb; (try clear hb)))
     (try simp only [Act.put, List.setIfInBounds_toArray, List.set_cons_zero, List.set_cons_succ])
     go_cut [8] (fun v8 wc => ∃ (kq : Nat) (x8_51 : List Int), Aside0 (spec_l8Div.j2 kq a0 x8_51 a1_0 a1_1 a2_0 a2_1 t183 t184 t186 t187 = some (r1, r2, r3)) ∧ Aside0 (kq ≤ kj46) ∧ Aside0 (Kd.R (Kd.int .i64) 3 wc w.heap.size (fun _ => True) v8 x8_51) ∧ Bx2 wc gb177 a1_0 a1_1 24 ∧ Bx2 wc gb178 a2_0 a2_1 24 ∧ Bx2 wc gb179 0 0 24 ∧ Bx2 wc gb185 t183 t184 24 ∧ Bx2 wc gb188 t186 t187 24 ∧ Aside0 (Below w.heap.size w wc))
     case first =>
      have H := HC52.out
      clear HC52
      by_cases c59 : t193 = true
      rotate_left
      ·replace c59 := Bool.eq_false_iff.mpr c59
       subst c59
       rw [if_neg ff] at H
       have H' := am H
       clear H
       go_wp2
       go_meet
       case rel => exact ⟨_, (x8_46), H', ⟨by have := HJ5.out; have := HJ46.out; first | omega | exact Nat.le_refl _⟩, ⟨by exact RZ HO_8⟩, ⟨Z BK177⟩, ⟨Z BK178⟩, ⟨Z BK179⟩, ⟨Z BK185⟩, ⟨Z BK188⟩, ⟨YA HB⟩⟩
      subst c59
      rw [if_pos rfl] at H
      by_cases c60 : x8_46.length < 17592186044416
      rotate_left
      ·rw [if_neg c60] at H
       exact absurd H (by simp)
      rw [if_pos c60] at H
      have LMc60 := am c60
      clear c60
      obtain ⟨y194, hy194⟩ : ∃ y_ : List Int, y_ = (x8_46 ++ [2]) := ⟨_, rfl⟩
      replace H : (spec_l8Div.j2 kj46 a0 y194 a1_0 a1_1 a2_0 a2_1 t183 t184 t186 t187) = some (r1, r2, r3) := by first | (rw [hy194]; with_reducible exact H) | (have H2_ := (Option.bind_some _ _).symm.trans H; rw [hy194]; with_reducible exact H2_) | (have H2_ := (Option.bind_some _ _).symm.trans H; with_reducible exact H2_) | with_reducible exact H | (rw [hy194]; exact H) | exact H
      have Ny194 := am hy194
      clear hy194
      have H' := am H
      clear H
      go_wp2_with (first | ((with_reducible refine gate_builtin (b := .append) (xs := #[.tmp 37, .tmp 38]) rfl ?_); at_builtin; refine Kd.R_append (Kd.int .i64) (w0 := w) w.heap.size rfl (.tmp 37) (.tmp 38) 25 3 (.int .i64 0) 8 rfl Try.underlying25 info3 rfl (by decide) (by omega) u8 x8_46 2 [.int .i64 2] (fun _ => True) (fun _ => False) rfl rfl ?aP (fun _ hk => hk.elim) ?aF ?aO ?aB ?aS ?aL ?_; (case aP => exact rfl); (case aB => exact (YA HB)); (case aF => exact (fun _ _ => trivial)); (case aO => exact (RZ HO_8)); (case aS => exact (below_size (YA HB))); (case aL => have := LMc60.out; omega); intro v195 w61 ho hb hg hat; rw [← Ny194.out] at ho; have HO196 := am (ho); replace BK177 := am (blk_grown (g := gb177) (o := b2 a1_0 a1_1 24) (Z BK177) hg (Kd.R_ne HO_8.out BK177.out (by decide))); replace BK178 := am (blk_grown (g := gb178) (o := b2 a2_0 a2_1 24) (Z BK178) hg (Kd.R_ne HO_8.out BK178.out (by decide))); replace BK179 := am (blk_grown (g := gb179) (o := b2 0 0 24) (Z BK179) hg (Kd.R_ne HO_8.out BK179.out (by decide))); replace BK185 := am (blk_grown (g := gb185) (o := b2 t183 t184 24) (Z BK185) hg (Kd.R_ne HO_8.out BK185.out (by decide))); replace BK188 := am (blk_grown (g := gb188) (o := b2 t186 t187 24) (Z BK188) hg (Kd.R_ne HO_8.out BK188.out (by decide))); replace HB := am (hb); clear HO_8; clear ho hb hg hat))
      go_meet
      case rel => exact ⟨_, (y194), H', ⟨by have := HJ5.out; have := HJ46.out; first | omega | exact Nat.le_refl _⟩, ⟨by exact RZ HO196⟩, ⟨Z BK177⟩, ⟨Z BK178⟩, ⟨Z BK179⟩, ⟨Z BK185⟩, ⟨Z BK188⟩, ⟨YA HB⟩⟩
     case rest =>
      clear HC52
      (try clear hcz57_0);(try clear hcz57_1);(try clear hfz57_0);(try clear hfz57_1)
      obtain ⟨kq, x8_51, HA, HJ51, HO_8, BK177, BK178, BK179, BK185, BK188, HB⟩ := hcut
      cases kq with
      | zero => exact absurd HA.out (by simp [spec_l8Div.j2])
      | succ kj51 =>
       have H := HA.out
       clear HA
       simp only [spec_l8Div.j2] at H
       by_cases c62 : a0 = 5
       rotate_left
       ·rw [if_neg c62] at H
        have c62b0 := eF c62
        have c62b1 := nT c62
        obtain ⟨⟨t215, t216⟩, A271, H⟩ := bd H
        try dsimp only at H
        have HC272 := am H
        clear H
        try go_wp2_with (first | ((with_reducible refine gate_dst (N := 96) rfl ?_); refine bx 96 #[.bool false, .int .i64 0, .int .i64 0] 67 ?_; intro gb214 hg w273 hbox hb; have BK214 := am (hbox); have GW214 := am (bs hg (YA HB)); have GE214 := GW214; obtain ⟨NB177_214,NB214_177⟩ := ne_ hg BK177; obtain ⟨NB178_214,NB214_178⟩ := ne_ hg BK178; obtain ⟨NB179_214,NB214_179⟩ := ne_ hg BK179; obtain ⟨NB185_214,NB214_185⟩ := ne_ hg BK185; obtain ⟨NB188_214,NB214_188⟩ := ne_ hg BK188; replace HO_8 := am (Kd.R_below (RZ HO_8) hb); obtain ⟨BK177, BK178, BK179, BK185, BK188, HB⟩ := bk5 BK177 BK178 BK179 BK185 BK188 HB hb; clear hb hbox hg))
        replace HO_8 := am (Kd.R_drew HO_8.out)
        obtain ⟨BK177, BK178, BK179, BK185, BK188, BK214, HB⟩ := dk6 BK177 BK178 BK179 BK185 BK188 BK214 HB
        refine start_ (n := 3) (S := fun w' => w'.cell? ⟨gb185, 0, none⟩ = some (.int .i64 t183) ∧ w'.cell? ⟨gb185, 1, none⟩ = some (.int .i64 t184)) (ds := []) (lb 3 0) (by kernel_rfl) rfl rfl ⟨bc BK185 0, bc BK185 1⟩ (fun hHeld => ?_)
        generalize w273.drew = w274 at HO_8 BK177 BK178 BK179 BK185 BK188 BK214 HB hHeld ⊢
        refine take_ (i := 0) (N := some 97) (v := ?_) (a' := ?_) (lb 3 1) rfl rfl (by kernel_rfl) (fun _ _ _ h => h) (Or.inl ⟨by rfl, ?_⟩) hHeld ?_ ?_
        rotate_left
        ·rintro w' ⟨s0, s1⟩
         go_simp
         with_reducible rfl
        rotate_left
        ·exact pz
        refine one_ (i := 1) (N := some 98) (lb 3 3) rfl rfl (by kernel_rfl) (by decide) (fun K hK => ?_)
        refine gq Try.func38 (spec_l8None.calls _ _ _ A271.out) fun w275 hb => ?_
        replace HO_8 := am (Kd.R_below (RZ HO_8) hb)
        obtain ⟨BK177, BK178, BK179, BK185, BK188, BK214, HB⟩ := bk6 BK177 BK178 BK179 BK185 BK188 BK214 HB hb
        clear hb
        refine kk hK ⟨bc BK185 0, bc BK185 1⟩ fun hHeld => ?_
        clear hK K
        refine pure_ (i := 2) (N := some 99) (v := ?_) (a' := ?_) (lb 3 7) rfl rfl (by kernel_rfl) (fun _ _ _ h => h) (Or.inl ⟨by rfl, ?_⟩) ?_ ?_
        rotate_left
        ·exact gz
        rotate_left
        ·exact pz
        refine done_ (by kernel_rfl) ?_
        go_upto_if 99 with (fail)
        go_cut [] (fun wc => ∃ (kq : Nat) (x215000_271 : Bool) (x215001_271 : Int) (x215002_271 : Int), Aside0 (spec_l8Div.j4 kq a0 x8_51 a1_0 a1_1 t186 t187 x215000_271 x215001_271 x215002_271 = some (r1, r2, r3)) ∧ Aside0 (kq ≤ kj51) ∧ Aside0 (Kd.R (Kd.int .i64) 3 wc w.heap.size (fun _ => True) u8 x8_51) ∧ Bx2 wc gb177 a1_0 a1_1 24 ∧ Bx2 wc gb178 a2_0 a2_1 24 ∧ Bx2 wc gb179 0 0 24 ∧ Bx2 wc gb185 t183 t184 24 ∧ Bx2 wc gb188 t186 t187 24 ∧ Aside0 (wc.heap[gb214]? = some (.cells #[.bool x215000_271, .int .i64 x215001_271, .int .i64 x215002_271] 67 (0, 0))) ∧ Aside0 (Below w.heap.size w wc))
        case first =>
         have H := HC272.out
         clear HC272
         by_cases c276 : (!(t183 == t215) || (!(t184 == t216))) = true
         rotate_left
         ·rw [if_neg c276] at H
          have c276b0 : (!(t183 == t215) || (!(t184 == t216))) = false := by simpa using c276
          clear c276
          (first | rw [c276b0] | (simp only [i64_w, i32_w]; rw [c276b0]) | skip)
          have H' := am H
          clear H
          go_wp2
          go_meet
          case rel => exact ⟨_, (false), (0), (0), H', ⟨by have := HJ5.out; have := HJ46.out; have := HJ51.out; first | omega | exact Nat.le_refl _⟩, ⟨by exact RZ HO_8⟩, ⟨Z BK177⟩, ⟨Z BK178⟩, ⟨Z BK179⟩, ⟨Z BK185⟩, ⟨Z BK188⟩, ⟨Z BK214⟩, ⟨YA HB⟩⟩
         rw [if_pos c276] at H
         have c276b0 : (!(t183 == t215) || (!(t184 == t216))) = true := c276
         clear c276
         (first | rw [c276b0] | (simp only [i64_w, i32_w]; rw [c276b0]) | skip)
         obtain ⟨⟨t217, t218, t219⟩, A277, H⟩ := bd H
         try dsimp only at H
         have H' := am H
         clear H
         obtain ⟨hnb278,hnc278⟩ := nn NB177_178
         obtain ⟨hnb279,hnc279⟩ := nn NB177_179
         obtain ⟨hnb280,hnc280⟩ := nn NB177_185
         obtain ⟨hnb281,hnc281⟩ := nn NB177_188
         obtain ⟨hnb282,hnc282⟩ := nn NB177_214
         obtain ⟨hcz283_0,hcz283_1,hfz283_0,hfz283_1⟩ := cB2 BK177
         obtain ⟨hnb284,hnc284⟩ := nn NB185_178
         obtain ⟨hnb285,hnc285⟩ := nn NB185_179
         obtain ⟨hnb286,hnc286⟩ := nn NB185_188
         obtain ⟨hnb287,hnc287⟩ := nn NB185_214
         obtain ⟨hcz288_0,hcz288_1,hfz288_0,hfz288_1⟩ := cB2 BK185
         go_wp2_with (first | (have HI214 := am (show IsS67 w _ gb214 false 0 0 from And.intro BK214.out GE214.out); (with_reducible refine gate_callee (f := 42) rfl ?_); refine goesL_ (some 104) rfl rfl Try.func42 (by kernel_rfl) rfl #[.pointer (some ⟨gb214, 0, none⟩), .int .i64 a0, .agg #[.int .i64 a1_0, .int .i64 a1_1], .agg #[.int .i64 t183, .int .i64 t184]] rfl mz ?_; (with_reducible refine (spec_l8R_corners.calls kj51 gb214 false 0 0 a0 a1_0 a1_1 t183 t184 t217 t218 t219 w _ ?side1 ?side2 A277.out).mono ?_); (case side1 => repeat (first | (with_reducible first | exact HI214.out | apply IsS67.alloc | apply IsS67.drewN | apply IsS67.drew | apply IsS67.set_0 | apply IsS67.set_1 | apply IsS67.set_2 | refine IsS67.far ?_ NB214_177.out _ | refine IsS67.far ?_ NB214_178.out _ | refine IsS67.far ?_ NB214_179.out _ | refine IsS67.far ?_ NB214_185.out _ | refine IsS67.far ?_ NB214_188.out _) | exact HI214.out)); (case side2 => repeat (first | (with_reducible first | exact HB.out | apply below_alloc | apply pw_below_drewN | apply below_drew1 | refine below_set ?_ (IsS67.ge HI214.out) | refine below_set ?_ GE177.out | refine below_set ?_ GE178.out | refine below_set ?_ GE179.out | refine below_set ?_ GE185.out | refine below_set ?_ GE188.out) | exact HB.out)); rintro e w289 ⟨rfl, hi, hb, hk⟩; refine ⟨_, rfl, ?_⟩; replace HO_8 := am (Kd.R_mono (Kd.R_keep (IsS67.apart (show IsS67 w _ gb214 false 0 0 from by repeat (first | (with_reducible first | exact HI214.out | apply IsS67.alloc | apply IsS67.drewN | apply IsS67.drew | apply IsS67.set_0 | apply IsS67.set_1 | apply IsS67.set_2 | refine IsS67.far ?_ NB214_177.out _ | refine IsS67.far ?_ NB214_178.out _ | refine IsS67.far ?_ NB214_179.out _ | refine IsS67.far ?_ NB214_185.out _ | refine IsS67.far ?_ NB214_188.out _) | exact HI214.out)) (RZ HO_8) (by decide)) hk (fun _ h => h.2)) (fun _ h => h.1)); replace BK177 := am (KeepBut.blk hk (g' := gb177) (o := b2 a1_0 a1_1 24) (Z BK177) NB177_214.out (by simp)); replace BK178 := am (KeepBut.blk hk (g' := gb178) (o := b2 a2_0 a2_1 24) (Z BK178) NB178_214.out (by simp)); replace BK179 := am (KeepBut.blk hk (g' := gb179) (o := b2 0 0 24) (Z BK179) NB179_214.out (by simp)); replace BK185 := am (KeepBut.blk hk (g' := gb185) (o := b2 t183 t184 24) (Z BK185) NB185_214.out (by simp)); replace BK188 := am (KeepBut.blk hk (g' := gb188) (o := b2 t186 t187 24) (Z BK188) NB188_214.out (by simp)); replace HB := am (hb); replace HI214 := am (hi); (try clear hb); clear BK214; have BK214 := am (HI214.out.1); clear HI214))
         go_meet
         case rel => exact ⟨_, (t217), (t218), (t219), H', ⟨by have := HJ5.out; have := HJ46.out; have := HJ51.out; first | omega | exact Nat.le_refl _⟩, ⟨by exact RZ HO_8⟩, ⟨Z BK177⟩, ⟨Z BK178⟩, ⟨Z BK179⟩, ⟨Z BK185⟩, ⟨Z BK188⟩, ⟨Z BK214⟩, ⟨YA HB⟩⟩
        case rest =>
         clear HC272
         (try clear c62);(try clear c62b0);(try clear c62b1)
         obtain ⟨kq, x215000_271, x215001_271, x215002_271, HA, HJ271, HO_8, BK177, BK178, BK179, BK185, BK188, BK214, HB⟩ := hcut
         cases kq with
         | zero => exact absurd HA.out (by simp [spec_l8Div.j4])
         | succ kj271 =>
          have H := HA.out
          clear HA
          simp only [spec_l8Div.j4] at H
          obtain ⟨⟨t220, t221⟩, A290, H⟩ := bd H
          try dsimp only at H
          have HC291 := am H
          clear H
          try go_wp2
          replace HO_8 := am (Kd.R_drew HO_8.out)
          obtain ⟨BK177, BK178, BK179, BK185, BK188, BK214, HB⟩ := dk6 BK177 BK178 BK179 BK185 BK188 BK214 HB
          refine start_ (n := 3) (S := fun w' => w'.cell? ⟨gb188, 0, none⟩ = some (.int .i64 t186) ∧ w'.cell? ⟨gb188, 1, none⟩ = some (.int .i64 t187)) (ds := []) (lb 3 0) (by kernel_rfl) rfl rfl ⟨bc BK188 0, bc BK188 1⟩ (fun hHeld => ?_)
          generalize wc.drew = w292 at HO_8 BK177 BK178 BK179 BK185 BK188 BK214 HB hHeld ⊢
          refine take_ (i := 0) (N := some 105) (v := ?_) (a' := ?_) (lb 3 1) rfl rfl (by kernel_rfl) (fun _ _ _ h => h) (Or.inl ⟨by rfl, ?_⟩) hHeld ?_ ?_
          rotate_left
          ·rintro w' ⟨s0, s1⟩
           go_simp
           with_reducible rfl
          rotate_left
          ·exact pz
          refine one_ (i := 1) (N := some 106) (lb 3 3) rfl rfl (by kernel_rfl) (by decide) (fun K hK => ?_)
          refine gq Try.func38 (spec_l8None.calls _ _ _ A290.out) fun w293 hb => ?_
          replace HO_8 := am (Kd.R_below (RZ HO_8) hb)
          obtain ⟨BK177, BK178, BK179, BK185, BK188, BK214, HB⟩ := bk6 BK177 BK178 BK179 BK185 BK188 BK214 HB hb
          clear hb
          refine kk hK ⟨bc BK188 0, bc BK188 1⟩ fun hHeld => ?_
          clear hK K
          refine pure_ (i := 2) (N := some 107) (v := ?_) (a' := ?_) (lb 3 7) rfl rfl (by kernel_rfl) (fun _ _ _ h => h) (Or.inl ⟨by rfl, ?_⟩) ?_ ?_
          rotate_left
          ·exact gz
          rotate_left
          ·exact pz
          refine done_ (by kernel_rfl) ?_
          go_upto_if 107 with (fail)
          go_cut [] (fun wc => ∃ (kq : Nat) (x215000_290 : Bool) (x215001_290 : Int) (x215002_290 : Int), Aside0 (spec_l8Div.j5 kq x8_51 x215000_290 x215001_290 x215002_290 = some (r1, r2, r3)) ∧ Aside0 (kq ≤ kj271) ∧ Aside0 (Kd.R (Kd.int .i64) 3 wc w.heap.size (fun _ => True) u8 x8_51) ∧ Bx2 wc gb177 a1_0 a1_1 24 ∧ Bx2 wc gb178 a2_0 a2_1 24 ∧ Bx2 wc gb179 0 0 24 ∧ Bx2 wc gb185 t183 t184 24 ∧ Bx2 wc gb188 t186 t187 24 ∧ Aside0 (wc.heap[gb214]? = some (.cells #[.bool x215000_290, .int .i64 x215001_290, .int .i64 x215002_290] 67 (0, 0))) ∧ Aside0 (Below w.heap.size w wc))
          case first =>
           have H := HC291.out
           clear HC291
           by_cases c294 : (!(t186 == t220) || (!(t187 == t221))) = true
           rotate_left
           ·rw [if_neg c294] at H
            have c294b0 : (!(t186 == t220) || (!(t187 == t221))) = false := by simpa using c294
            clear c294
            (first | rw [c294b0] | (simp only [i64_w, i32_w]; rw [c294b0]) | skip)
            have H' := am H
            clear H
            go_wp2
            go_meet
            case rel => exact ⟨_, (x215000_271), (x215001_271), (x215002_271), H', ⟨by have := HJ5.out; have := HJ46.out; have := HJ51.out; have := HJ271.out; first | omega | exact Nat.le_refl _⟩, ⟨by exact RZ HO_8⟩, ⟨Z BK177⟩, ⟨Z BK178⟩, ⟨Z BK179⟩, ⟨Z BK185⟩, ⟨Z BK188⟩, ⟨Z BK214⟩, ⟨YA HB⟩⟩
           rw [if_pos c294] at H
           have c294b0 : (!(t186 == t220) || (!(t187 == t221))) = true := c294
           clear c294
           (first | rw [c294b0] | (simp only [i64_w, i32_w]; rw [c294b0]) | skip)
           obtain ⟨⟨t222, t223, t224⟩, A295, H⟩ := bd H
           try dsimp only at H
           have H' := am H
           clear H
           obtain ⟨hnb296,hnc296⟩ := nn NB177_178
           obtain ⟨hnb297,hnc297⟩ := nn NB177_179
           obtain ⟨hnb298,hnc298⟩ := nn NB177_185
           obtain ⟨hnb299,hnc299⟩ := nn NB177_188
           obtain ⟨hnb300,hnc300⟩ := nn NB177_214
           obtain ⟨hcz301_0,hcz301_1,hfz301_0,hfz301_1⟩ := cB2 BK177
           obtain ⟨hnb302,hnc302⟩ := nn NB188_178
           obtain ⟨hnb303,hnc303⟩ := nn NB188_179
           obtain ⟨hnb304,hnc304⟩ := nn NB188_185
           obtain ⟨hnb305,hnc305⟩ := nn NB188_214
           obtain ⟨hcz306_0,hcz306_1,hfz306_0,hfz306_1⟩ := cB2 BK188
           go_wp2_with (first | (have HI214 := am (show IsS67 w _ gb214 x215000_271 x215001_271 x215002_271 from And.intro BK214.out GE214.out); (with_reducible refine gate_callee (f := 42) rfl ?_); refine goesL_ (some 112) rfl rfl Try.func42 (by kernel_rfl) rfl #[.pointer (some ⟨gb214, 0, none⟩), .int .i64 a0, .agg #[.int .i64 a1_0, .int .i64 a1_1], .agg #[.int .i64 t186, .int .i64 t187]] rfl mz ?_; (with_reducible refine (spec_l8R_corners.calls kj271 gb214 x215000_271 x215001_271 x215002_271 a0 a1_0 a1_1 t186 t187 t222 t223 t224 w _ ?side1 ?side2 A295.out).mono ?_); (case side1 => repeat (first | (with_reducible first | exact HI214.out | apply IsS67.alloc | apply IsS67.drewN | apply IsS67.drew | apply IsS67.set_0 | apply IsS67.set_1 | apply IsS67.set_2 | refine IsS67.far ?_ NB214_177.out _ | refine IsS67.far ?_ NB214_178.out _ | refine IsS67.far ?_ NB214_179.out _ | refine IsS67.far ?_ NB214_185.out _ | refine IsS67.far ?_ NB214_188.out _) | exact HI214.out)); (case side2 => repeat (first | (with_reducible first | exact HB.out | apply below_alloc | apply pw_below_drewN | apply below_drew1 | refine below_set ?_ (IsS67.ge HI214.out) | refine below_set ?_ GE177.out | refine below_set ?_ GE178.out | refine below_set ?_ GE179.out | refine below_set ?_ GE185.out | refine below_set ?_ GE188.out) | exact HB.out)); rintro e w307 ⟨rfl, hi, hb, hk⟩; refine ⟨_, rfl, ?_⟩; replace HO_8 := am (Kd.R_mono (Kd.R_keep (IsS67.apart (show IsS67 w _ gb214 x215000_271 x215001_271 x215002_271 from by repeat (first | (with_reducible first | exact HI214.out | apply IsS67.alloc | apply IsS67.drewN | apply IsS67.drew | apply IsS67.set_0 | apply IsS67.set_1 | apply IsS67.set_2 | refine IsS67.far ?_ NB214_177.out _ | refine IsS67.far ?_ NB214_178.out _ | refine IsS67.far ?_ NB214_179.out _ | refine IsS67.far ?_ NB214_185.out _ | refine IsS67.far ?_ NB214_188.out _) | exact HI214.out)) (RZ HO_8) (by decide)) hk (fun _ h => h.2)) (fun _ h => h.1)); replace BK177 := am (KeepBut.blk hk (g' := gb177) (o := b2 a1_0 a1_1 24) (Z BK177) NB177_214.out (by simp)); replace BK178 := am (KeepBut.blk hk (g' := gb178) (o := b2 a2_0 a2_1 24) (Z BK178) NB178_214.out (by simp)); replace BK179 := am (KeepBut.blk hk (g' := gb179) (o := b2 0 0 24) (Z BK179) NB179_214.out (by simp)); replace BK185 := am (KeepBut.blk hk (g' := gb185) (o := b2 t183 t184 24) (Z BK185) NB185_214.out (by simp)); replace BK188 := am (KeepBut.blk hk (g' := gb188) (o := b2 t186 t187 24) (Z BK188) NB188_214.out (by simp)); replace HB := am (hb); replace HI214 := am (hi); (try clear hb); clear BK214; have BK214 := am (HI214.out.1); clear HI214))
           go_meet
           case rel => exact ⟨_, (t222), (t223), (t224), H', ⟨by have := HJ5.out; have := HJ46.out; have := HJ51.out; have := HJ271.out; first | omega | exact Nat.le_refl _⟩, ⟨by exact RZ HO_8⟩, ⟨Z BK177⟩, ⟨Z BK178⟩, ⟨Z BK179⟩, ⟨Z BK185⟩, ⟨Z BK188⟩, ⟨Z BK214⟩, ⟨YA HB⟩⟩
          case rest =>
           clear HC291
           obtain ⟨kq, x215000_290, x215001_290, x215002_290, HA, HJ290, HO_8, BK177, BK178, BK179, BK185, BK188, BK214, HB⟩ := hcut
           cases kq with
           | zero => exact absurd HA.out (by simp [spec_l8Div.j5])
           | succ kj290 =>
            have H := HA.out
            clear HA
            simp only [spec_l8Div.j5] at H
            by_cases c308 : x215000_290 = true
            rotate_left
            ·replace c308 := Bool.eq_false_iff.mpr c308
             subst c308
             rw [if_neg ff] at H
             obtain ⟨⟨t227, t228⟩, A320, H⟩ := bd H
             try dsimp only at H
             simp only [Option.some.injEq, Prod.mk.injEq] at H
             obtain ⟨rfl, rfl, rfl⟩ := H
             obtain ⟨hnb321,hnc321⟩ := nn NB214_177
             obtain ⟨hnb322,hnc322⟩ := nn NB214_178
             obtain ⟨hnb323,hnc323⟩ := nn NB214_179
             obtain ⟨hnb324,hnc324⟩ := nn NB214_185
             obtain ⟨hnb325,hnc325⟩ := nn NB214_188
             obtain ⟨hcz326_0,hcz326_1,hcz326_2,hfz326_0,hfz326_1,hfz326_2⟩ := cB3 BK214
             go_wp2_with (first | ((with_reducible refine gate_callee (f := 38) rfl ?_); refine gL 118 Try.func38 (spec_l8None.calls _ _ _ A320.out) fun w327 hb => ?_; replace HO_8 := am (Kd.R_below (RZ HO_8) hb); obtain ⟨BK177, BK178, BK179, BK185, BK188, BK214, HB⟩ := bk6 BK177 BK178 BK179 BK185 BK188 BK214 HB hb; (try clear hb); obtain ⟨hnb328,hnc328⟩ := nn NB179_177; obtain ⟨hnb329,hnc329⟩ := nn NB179_178; obtain ⟨hnb330,hnc330⟩ := nn NB179_185; obtain ⟨hnb331,hnc331⟩ := nn NB179_188; obtain ⟨hcz332_0,hcz332_1,hfz332_0,hfz332_1⟩ := cB2 BK179))
             refine bodyPost_ret (results_ct rfl _ _ gb179 24 #[.int .i64 t227, .int .i64 t228] (0, 0) _ rfl (by refine pf ?_; refine blk_put (cs := #[.int .i64 t227, .int .i64 0]) ?_ 1 _ rfl; refine pf ?_; refine blk_put (cs := #[.int .i64 0, .int .i64 0]) ?_ 0 _ rfl; exact Z BK179) Try.underlying24 rfl (by kernel_rfl)) rfl ?_
             exact ⟨_, ez, by (with_reducible repeat (first | apply Kd.R_alloc | apply Kd.R_drewN | apply Kd.R_drew)); exact Kd.R_mono (Kd.R_far (p := ⟨gb179, 1, none⟩) (Kd.R_far (p := ⟨gb179, 0, none⟩) (Kd.R_types HO_8.out BK179.out (by decide)) (fun _ hk => hk.2) (.int .i64 t227)) (fun _ hk => hk.2) (.int .i64 t228)) (fun _ hk => trivial), YA HB⟩
            subst c308
            rw [if_pos rfl] at H
            obtain ⟨⟨t225, t226⟩, A309, H⟩ := bd H
            try dsimp only at H
            simp only [Option.some.injEq, Prod.mk.injEq] at H
            obtain ⟨rfl, rfl, rfl⟩ := H
            obtain ⟨hnb310,hnc310⟩ := nn NB214_177
            obtain ⟨hnb311,hnc311⟩ := nn NB214_178
            obtain ⟨hnb312,hnc312⟩ := nn NB214_179
            obtain ⟨hnb313,hnc313⟩ := nn NB214_185
            obtain ⟨hnb314,hnc314⟩ := nn NB214_188
            obtain ⟨hcz315_0,hcz315_1,hcz315_2,hfz315_0,hfz315_1,hfz315_2⟩ := cB3 BK214
            try go_wp2
            replace HO_8 := am (Kd.R_drew HO_8.out)
            obtain ⟨BK177, BK178, BK179, BK185, BK188, BK214, HB⟩ := dk6 BK177 BK178 BK179 BK185 BK188 BK214 HB
            refine start_ (n := 12) (S := fun w' => w'.cell? ⟨gb214, 0, none⟩ = some (.bool true) ∧ w'.cell? ⟨gb214, 1, none⟩ = some (.int .i64 x215001_290) ∧ w'.cell? ⟨gb214, 2, none⟩ = some (.int .i64 x215002_290)) (ds := []) (lb 12 0) (by kernel_rfl) rfl rfl ⟨bc BK214 0, bc BK214 1, bc BK214 2⟩ (fun hHeld => ?_); refine with_tabW spec_l8Div.tab25 spec_l8Div.bits25 (fun HT_ HW_ => ?_)
            generalize wc.drew = w316 at HO_8 BK177 BK178 BK179 BK185 BK188 BK214 HB hHeld ⊢
            refine pk 0 120 1 ?_
            refine pk 1 121 3 ?_
            refine pk 2 122 7 ?_
            refine pk 4 124 23 ?_
            refine pk 5 125 55 ?_
            refine pk 6 126 119 ?_
            refine pk 9 129 631 ?_
            refine tk 3 123 639 hHeld ?_
            refine tk 7 127 767 hHeld ?_
            refine on 8 (some 128) 1023 fun K hK => ?_
            refine gq Try.func44 (spec_l8Cut.calls _ _ _ _ _ A309.out) fun w317 hb => ?_
            replace HO_8 := am (Kd.R_below (RZ HO_8) hb)
            obtain ⟨BK177, BK178, BK179, BK185, BK188, BK214, HB⟩ := bk6 BK177 BK178 BK179 BK185 BK188 BK214 HB hb
            clear hb
            refine kk hK ⟨bc BK214 0, bc BK214 1, bc BK214 2⟩ fun hHeld => ?_
            clear hK K
            refine on 10 none 2047 fun K hK => ?_
            have hs318 : w317.cell? ⟨gb179, 0, none⟩ = some (.int .i64 0) := bc BK179 0
            have hfs318 := blk_frozen BK179.out 0
            have hns318_0 := NB177_179.out
            have hns318_1 := NB178_179.out
            have hns318_3 := NB185_179.out
            have hns318_4 := NB188_179.out
            have hns318_5 := NB214_179.out
            have hms318_0 := NB179_177.out
            have hms318_1 := NB179_178.out
            have hms318_3 := NB179_185.out
            have hms318_4 := NB179_188.out
            have hms318_5 := NB179_214.out
            have hs319 : w317.cell? ⟨gb179, 1, none⟩ = some (.int .i64 0) := bc BK179 1
            have hfs319 := blk_frozen BK179.out 1
            have hns319_0 := NB177_179.out
            have hns319_1 := NB178_179.out
            have hns319_3 := NB185_179.out
            have hns319_4 := NB188_179.out
            have hns319_5 := NB214_179.out
            have hms319_0 := NB179_177.out
            have hms319_1 := NB179_178.out
            have hms319_3 := NB179_185.out
            have hms319_4 := NB179_188.out
            have hms319_5 := NB179_214.out
            refine skip_ (w1 := ?_) (by rfl) rfl ?_ ?_
            rotate_left
            ·go_simp
             rfl
            refine hK.out _ _ ⟨((cell_far (p := ⟨gb179, _, none⟩) NB214_179.out _).trans (((cell_far (p := ⟨gb179, _, none⟩) NB214_179.out _).trans (hHeld.1)))), ((cell_far (p := ⟨gb179, _, none⟩) NB214_179.out _).trans (((cell_far (p := ⟨gb179, _, none⟩) NB214_179.out _).trans (hHeld.2.1)))), ((cell_far (p := ⟨gb179, _, none⟩) NB214_179.out _).trans (((cell_far (p := ⟨gb179, _, none⟩) NB214_179.out _).trans (hHeld.2.2))))⟩ (fun hHeld => ?_)
            clear hK K
            refine pk 11 7 4095 ?_
            refine done_ (done_of HT_.out (by kernel_rfl)) ?_
            try go_wp2
            refine bodyPost_ret (results_ct rfl _ _ gb179 24 #[.int .i64 t225, .int .i64 t226] (0, 0) _ rfl (by refine pf ?_; refine blk_put (cs := #[.int .i64 t225, .int .i64 0]) ?_ 1 _ rfl; refine pf ?_; refine blk_put (cs := #[.int .i64 0, .int .i64 0]) ?_ 0 _ rfl; exact Z BK179) Try.underlying24 rfl (by kernel_rfl)) rfl ?_
            exact ⟨_, ez, by (with_reducible repeat (first | apply Kd.R_alloc | apply Kd.R_drewN | apply Kd.R_drew)); exact Kd.R_mono (Kd.R_far (p := ⟨gb179, 1, none⟩) (Kd.R_far (p := ⟨gb179, 0, none⟩) (Kd.R_types HO_8.out BK179.out (by decide)) (fun _ hk => hk.2) (.int .i64 t225)) (fun _ hk => hk.2) (.int .i64 t226)) (fun _ hk => trivial), YA HB⟩
       rw [if_pos c62] at H
       have c62b0 := eT c62
       have c62b1 := nF c62
       clear c62
       obtain ⟨⟨t197, t198⟩, A63, H⟩ := bd H
       try dsimp only at H
       obtain ⟨⟨t200, t201⟩, A64, H⟩ := bd H
       try dsimp only at H
       have HC65 := am H
       clear H
       try go_wp2_with (first | ((with_reducible refine gate_callee (f := 38) rfl ?_); refine gL 42 Try.func38 (spec_l8None.calls _ _ _ A63.out) fun w66 hb => ?_; replace HO_8 := am (Kd.R_below (RZ HO_8) hb); obtain ⟨BK177, BK178, BK179, BK185, BK188, HB⟩ := bk5 BK177 BK178 BK179 BK185 BK188 HB hb; (try clear hb)) | ((with_reducible refine gate_dst (N := 11) rfl ?_); refine bx 11 #[.int .i64 0, .int .i64 0] 24 ?_; intro gb199 hg w67 hbox hb; have BK199 := am (hbox); have GW199 := am (bs hg (YA HB)); have GE199 := GW199; obtain ⟨NB177_199,NB199_177⟩ := ne_ hg BK177; obtain ⟨NB178_199,NB199_178⟩ := ne_ hg BK178; obtain ⟨NB179_199,NB199_179⟩ := ne_ hg BK179; obtain ⟨NB185_199,NB199_185⟩ := ne_ hg BK185; obtain ⟨NB188_199,NB199_188⟩ := ne_ hg BK188; replace HO_8 := am (Kd.R_below (RZ HO_8) hb); obtain ⟨BK177, BK178, BK179, BK185, BK188, HB⟩ := bk5 BK177 BK178 BK179 BK185 BK188 HB hb; clear hb hbox hg; obtain ⟨hnb68,hnc68⟩ := nn NB199_177; obtain ⟨hnb69,hnc69⟩ := nn NB199_178; obtain ⟨hnb70,hnc70⟩ := nn NB199_179; obtain ⟨hnb71,hnc71⟩ := nn NB199_185; obtain ⟨hnb72,hnc72⟩ := nn NB199_188; obtain ⟨hcz73_0,hcz73_1,hfz73_0,hfz73_1⟩ := cB2 BK199))
       have n0_ : Aside0 (Kd.R (Kd.int .i64) 3 ((w67.setCell ⟨gb199, 0, none⟩ (.int .i64 t197)).setCell ⟨gb199, 1, none⟩ (.int .i64 t198)) w.heap.size (fun _ => True) u8 x8_51) := ⟨by (with_reducible repeat (first | apply Kd.R_alloc | apply Kd.R_drewN | apply Kd.R_drew)); exact Kd.R_mono (Kd.R_far (p := ⟨gb199, 1, none⟩) (Kd.R_far (p := ⟨gb199, 0, none⟩) (Kd.R_types HO_8.out BK199.out (by decide)) (fun _ hk => hk.2) (.int .i64 t197)) (fun _ hk => hk.2) (.int .i64 t198)) (fun _ hk => trivial)⟩
       have n1_ : Aside0 (((w67.setCell ⟨gb199, 0, none⟩ (.int .i64 t197)).setCell ⟨gb199, 1, none⟩ (.int .i64 t198)).heap[gb177]? = some (.cells #[.int .i64 a1_0, .int .i64 a1_1] 24 (0, 0))) := ⟨by refine fa NB177_199 ?_; refine fa NB177_199 ?_; exact Z BK177⟩
       have n2_ : Aside0 (((w67.setCell ⟨gb199, 0, none⟩ (.int .i64 t197)).setCell ⟨gb199, 1, none⟩ (.int .i64 t198)).heap[gb178]? = some (.cells #[.int .i64 a2_0, .int .i64 a2_1] 24 (0, 0))) := ⟨by refine fa NB178_199 ?_; refine fa NB178_199 ?_; exact Z BK178⟩
       have n3_ : Aside0 (((w67.setCell ⟨gb199, 0, none⟩ (.int .i64 t197)).setCell ⟨gb199, 1, none⟩ (.int .i64 t198)).heap[gb179]? = some (.cells #[.int .i64 0, .int .i64 0] 24 (0, 0))) := ⟨by refine fa NB179_199 ?_; refine fa NB179_199 ?_; exact Z BK179⟩
       have n4_ : Aside0 (((w67.setCell ⟨gb199, 0, none⟩ (.int .i64 t197)).setCell ⟨gb199, 1, none⟩ (.int .i64 t198)).heap[gb185]? = some (.cells #[.int .i64 t183, .int .i64 t184] 24 (0, 0))) := ⟨by refine fa NB185_199 ?_; refine fa NB185_199 ?_; exact Z BK185⟩
       have n5_ : Aside0 (((w67.setCell ⟨gb199, 0, none⟩ (.int .i64 t197)).setCell ⟨gb199, 1, none⟩ (.int .i64 t198)).heap[gb188]? = some (.cells #[.int .i64 t186, .int .i64 t187] 24 (0, 0))) := ⟨by refine fa NB188_199 ?_; refine fa NB188_199 ?_; exact Z BK188⟩
       have n6_ : Aside0 (((w67.setCell ⟨gb199, 0, none⟩ (.int .i64 t197)).setCell ⟨gb199, 1, none⟩ (.int .i64 t198)).heap[gb199]? = some (.cells #[.int .i64 t197, .int .i64 t198] 24 (0, 0))) := ⟨by refine pf ?_; refine blk_put (cs := #[.int .i64 t197, .int .i64 0]) ?_ 1 _ rfl; refine pf ?_; refine blk_put (cs := #[.int .i64 0, .int .i64 0]) ?_ 0 _ rfl; exact Z BK199⟩
       have n7_ : Aside0 (Below w.heap.size w ((w67.setCell ⟨gb199, 0, none⟩ (.int .i64 t197)).setCell ⟨gb199, 1, none⟩ (.int .i64 t198))) := ⟨YA HB⟩
       (try clear HO_8)
       (try clear BK177)
       (try clear BK178)
       (try clear BK179)
       (try clear BK185)
       (try clear BK188)
       (try clear BK199)
       (try clear HB)
       generalize ((w67.setCell ⟨gb199, 0, none⟩ (.int .i64 t197)).setCell ⟨gb199, 1, none⟩ (.int .i64 t198)) = w74 at n0_ n1_ n2_ n3_ n4_ n5_ n6_ n7_ ⊢
       have HO_8 := n0_
       have BK177 := n1_
       have BK178 := n2_
       have BK179 := n3_
       have BK185 := n4_
       have BK188 := n5_
       have BK199 := n6_
       have HB := n7_
       clear n0_ n1_ n2_ n3_ n4_ n5_ n6_ n7_
       replace HO_8 := am (Kd.R_drew HO_8.out)
       obtain ⟨BK177, BK178, BK179, BK185, BK188, BK199, HB⟩ := dk6 BK177 BK178 BK179 BK185 BK188 BK199 HB
       refine start_ (n := 3) (S := fun w' => w'.cell? ⟨gb185, 0, none⟩ = some (.int .i64 t183) ∧ w'.cell? ⟨gb185, 1, none⟩ = some (.int .i64 t184)) (ds := []) (lb 3 0) (by kernel_rfl) rfl rfl ⟨bc BK185 0, bc BK185 1⟩ (fun hHeld => ?_)
       generalize w74.drew = w75 at HO_8 BK177 BK178 BK179 BK185 BK188 BK199 HB hHeld ⊢
       refine take_ (i := 0) (N := some 43) (v := ?_) (a' := ?_) (lb 3 1) rfl rfl (by kernel_rfl) (fun _ _ _ h => h) (Or.inl ⟨by rfl, ?_⟩) hHeld ?_ ?_
       rotate_left
       ·rintro w' ⟨s0, s1⟩
        go_simp
        with_reducible rfl
       rotate_left
       ·exact pz
       refine one_ (i := 1) (N := some 44) (lb 3 3) rfl rfl (by kernel_rfl) (by decide) (fun K hK => ?_)
       refine gq Try.func38 (spec_l8None.calls _ _ _ A64.out) fun w76 hb => ?_
       replace HO_8 := am (Kd.R_below (RZ HO_8) hb)
       obtain ⟨BK177, BK178, BK179, BK185, BK188, BK199, HB⟩ := bk6 BK177 BK178 BK179 BK185 BK188 BK199 HB hb
       clear hb
       refine kk hK ⟨bc BK185 0, bc BK185 1⟩ fun hHeld => ?_
       clear hK K
       refine pure_ (i := 2) (N := some 45) (v := ?_) (a' := ?_) (lb 3 7) rfl rfl (by kernel_rfl) (fun _ _ _ h => h) (Or.inl ⟨by rfl, ?_⟩) ?_ ?_
       rotate_left
       ·exact gz
       rotate_left
       ·exact pz
       refine done_ (by kernel_rfl) ?_
       go_upto_if 45 with (fail)
       go_cut [] (fun wc => ∃ (kq : Nat) (x200000_64 : Int) (x200001_64 : Int), Aside0 (spec_l8Div.j3 kq a0 x8_51 a1_0 a1_1 a2_0 a2_1 t186 t187 x200000_64 x200001_64 = some (r1, r2, r3)) ∧ Aside0 (kq ≤ kj51) ∧ Aside0 (Kd.R (Kd.int .i64) 3 wc w.heap.size (fun _ => True) u8 x8_51) ∧ Bx2 wc gb177 a1_0 a1_1 24 ∧ Bx2 wc gb178 a2_0 a2_1 24 ∧ Bx2 wc gb179 0 0 24 ∧ Bx2 wc gb185 t183 t184 24 ∧ Bx2 wc gb188 t186 t187 24 ∧ Bx2 wc gb199 x200000_64 x200001_64 24 ∧ Aside0 (Below w.heap.size w wc))
       case first =>
        have H := HC65.out
        clear HC65
        by_cases c77 : (!(t183 == t200) || (!(t184 == t201))) = true
        rotate_left
        ·rw [if_neg c77] at H
         have c77b0 : (!(t183 == t200) || (!(t184 == t201))) = false := by simpa using c77
         clear c77
         (first | rw [c77b0] | (simp only [i64_w, i32_w]; rw [c77b0]) | skip)
         have H' := am H
         clear H
         go_wp2
         go_meet
         case rel => exact ⟨_, (t197), (t198), H', ⟨by have := HJ5.out; have := HJ46.out; have := HJ51.out; first | omega | exact Nat.le_refl _⟩, ⟨by exact RZ HO_8⟩, ⟨Z BK177⟩, ⟨Z BK178⟩, ⟨Z BK179⟩, ⟨Z BK185⟩, ⟨Z BK188⟩, ⟨Z BK199⟩, ⟨YA HB⟩⟩
        rw [if_pos c77] at H
        have c77b0 : (!(t183 == t200) || (!(t184 == t201))) = true := c77
        clear c77
        (first | rw [c77b0] | (simp only [i64_w, i32_w]; rw [c77b0]) | skip)
        obtain ⟨⟨t202, t203⟩, A78, H⟩ := bd H
        try dsimp only at H
        obtain ⟨⟨t204, t205⟩, A79, H⟩ := bd H
        try dsimp only at H
        have H' := am H
        clear H
        try go_wp2
        replace HO_8 := am (Kd.R_drew HO_8.out)
        obtain ⟨BK177, BK178, BK179, BK185, BK188, BK199, HB⟩ := dk6 BK177 BK178 BK179 BK185 BK188 BK199 HB
        refine start_ (n := 11) (S := fun w' => w'.cell? ⟨gb199, 0, none⟩ = some (.int .i64 t197) ∧ w'.cell? ⟨gb199, 1, none⟩ = some (.int .i64 t198) ∧ w'.cell? ⟨gb177, 0, none⟩ = some (.int .i64 a1_0) ∧ w'.cell? ⟨gb177, 1, none⟩ = some (.int .i64 a1_1) ∧ w'.cell? ⟨gb185, 0, none⟩ = some (.int .i64 t183) ∧ w'.cell? ⟨gb185, 1, none⟩ = some (.int .i64 t184)) (ds := [10]) (lb 11 0) (by kernel_rfl) rfl rfl ⟨bc BK199 0, bc BK199 1, bc BK177 0, bc BK177 1, bc BK185 0, bc BK185 1⟩ (fun hHeld => ?_); refine with_tabW spec_l8Div.tab11 spec_l8Div.bits11 (fun HT_ HW_ => ?_)
        generalize w76.drew = w80 at HO_8 BK177 BK178 BK179 BK185 BK188 BK199 HB hHeld ⊢
        refine pk 2 48 4 ?_
        refine pk 5 51 36 ?_
        refine tk 0 46 37 hHeld ?_
        refine tk 1 47 39 hHeld ?_
        refine tk 3 49 47 hHeld ?_
        refine pk 4 50 63 ?_
        refine tk 6 52 127 hHeld ?_
        refine pk 7 53 255 ?_
        refine on 8 (some 54) 511 fun K hK => ?_
        refine gq Try.func89 (spec_l8Rem.calls _ _ _ _ _ _ _ _ A78.out) fun w81 hb => ?_
        replace HO_8 := am (Kd.R_below (RZ HO_8) hb)
        obtain ⟨BK177, BK178, BK179, BK185, BK188, BK199, HB⟩ := bk6 BK177 BK178 BK179 BK185 BK188 BK199 HB hb
        clear hb
        refine kk hK ⟨bc BK199 0, bc BK199 1, bc BK177 0, bc BK177 1, bc BK185 0, bc BK185 1⟩ fun hHeld => ?_
        clear hK K
        refine on 9 (some 55) 1023 fun K hK => ?_
        refine gq Try.func25 (spec_RangeJoin.calls _ _ _ _ _ _ _ _ A79.out) fun w82 hb => ?_
        replace HO_8 := am (Kd.R_below (RZ HO_8) hb)
        obtain ⟨BK177, BK178, BK179, BK185, BK188, BK199, HB⟩ := bk6 BK177 BK178 BK179 BK185 BK188 BK199 HB hb
        clear hb
        refine kk hK ⟨bc BK199 0, bc BK199 1, bc BK177 0, bc BK177 1, bc BK185 0, bc BK185 1⟩ fun hHeld => ?_
        clear hK K
        refine last_ (i := 10) (N := none) (lb 11 2047) rfl rfl ow (by decide) (fun K hK => ?_)
        have hs83 : w82.cell? ⟨gb199, 0, none⟩ = some (.int .i64 t197) := bc BK199 0
        have hfs83 := blk_frozen BK199.out 0
        have hns83_0 := NB177_199.out
        have hns83_1 := NB178_199.out
        have hns83_2 := NB179_199.out
        have hns83_3 := NB185_199.out
        have hns83_4 := NB188_199.out
        have hms83_0 := NB199_177.out
        have hms83_1 := NB199_178.out
        have hms83_2 := NB199_179.out
        have hms83_3 := NB199_185.out
        have hms83_4 := NB199_188.out
        have hs84 : w82.cell? ⟨gb199, 1, none⟩ = some (.int .i64 t198) := bc BK199 1
        have hfs84 := blk_frozen BK199.out 1
        have hns84_0 := NB177_199.out
        have hns84_1 := NB178_199.out
        have hns84_2 := NB179_199.out
        have hns84_3 := NB185_199.out
        have hns84_4 := NB188_199.out
        have hms84_0 := NB199_177.out
        have hms84_1 := NB199_178.out
        have hms84_2 := NB199_179.out
        have hms84_3 := NB199_185.out
        have hms84_4 := NB199_188.out
        refine skip_ (w1 := ?_) (by rfl) rfl ?_ ?_
        rotate_left
        ·go_simp
         rfl
        refine hK.out _ _ ?_
        clear hK K
        refine done_ (done_of HT_.out (by kernel_rfl)) ?_
        try go_wp2
        go_meet
        case rel => exact ⟨_, (t204), (t205), H', ⟨by have := HJ5.out; have := HJ46.out; have := HJ51.out; first | omega | exact Nat.le_refl _⟩, ⟨by (with_reducible repeat (first | apply Kd.R_alloc | apply Kd.R_drewN | apply Kd.R_drew)); exact Kd.R_mono (Kd.R_far (p := ⟨gb199, 1, none⟩) (Kd.R_far (p := ⟨gb199, 0, none⟩) (Kd.R_types HO_8.out BK199.out (by decide)) (fun _ hk => hk.2) (.int .i64 t204)) (fun _ hk => hk.2) (.int .i64 t205)) (fun _ hk => trivial)⟩, ⟨by refine fa NB177_199 ?_; refine fa NB177_199 ?_; exact Z BK177⟩, ⟨by refine fa NB178_199 ?_; refine fa NB178_199 ?_; exact Z BK178⟩, ⟨by refine fa NB179_199 ?_; refine fa NB179_199 ?_; exact Z BK179⟩, ⟨by refine fa NB185_199 ?_; refine fa NB185_199 ?_; exact Z BK185⟩, ⟨by refine fa NB188_199 ?_; refine fa NB188_199 ?_; exact Z BK188⟩, ⟨by refine pf ?_; refine blk_put (cs := #[.int .i64 t204, .int .i64 t198]) ?_ 1 _ rfl; refine pf ?_; refine blk_put (cs := #[.int .i64 t197, .int .i64 t198]) ?_ 0 _ rfl; exact Z BK199⟩, ⟨YA HB⟩⟩
       case rest =>
        clear HC65
        (try clear c62b0);(try clear c62b1);(try clear hcz73_0);(try clear hcz73_1);(try clear hfz73_0);(try clear hfz73_1)
        obtain ⟨kq, x200000_64, x200001_64, HA, HJ64, HO_8, BK177, BK178, BK179, BK185, BK188, BK199, HB⟩ := hcut
        cases kq with
        | zero => exact absurd HA.out (by simp [spec_l8Div.j3])
        | succ kj64 =>
         have H := HA.out
         clear HA
         simp only [spec_l8Div.j3] at H
         obtain ⟨⟨t206, t207⟩, A85, H⟩ := bd H
         try dsimp only at H
         by_cases c86 : (!(t186 == t206) || (!(t187 == t207))) = true
         rotate_left
         ·rw [if_neg c86] at H
          have c86b0 : (!(t186 == t206) || (!(t187 == t207))) = false := by simpa using c86
          clear c86
          by_cases c190 : a1_0 = a1_1
          rotate_left
          ·rw [if_neg c190] at H
           have c190b0 := eF c190
           have c190b1 := nT c190
           simp only [Option.some.injEq, Prod.mk.injEq] at H
           obtain ⟨rfl, rfl, rfl⟩ := H
           try go_wp2
           replace HO_8 := am (Kd.R_drew HO_8.out)
           obtain ⟨BK177, BK178, BK179, BK185, BK188, BK199, HB⟩ := dk6 BK177 BK178 BK179 BK185 BK188 BK199 HB
           refine start_ (n := 3) (S := fun w' => w'.cell? ⟨gb188, 0, none⟩ = some (.int .i64 t186) ∧ w'.cell? ⟨gb188, 1, none⟩ = some (.int .i64 t187)) (ds := []) (lb 3 0) (by kernel_rfl) rfl rfl ⟨bc BK188 0, bc BK188 1⟩ (fun hHeld => ?_)
           generalize wc.drew = w254 at HO_8 BK177 BK178 BK179 BK185 BK188 BK199 HB hHeld ⊢
           refine take_ (i := 0) (N := some 56) (v := ?_) (a' := ?_) (lb 3 1) rfl rfl (by kernel_rfl) (fun _ _ _ h => h) (Or.inl ⟨by rfl, ?_⟩) hHeld ?_ ?_
           rotate_left
           ·rintro w' ⟨s0, s1⟩
            go_simp
            with_reducible rfl
           rotate_left
           ·exact pz
           refine one_ (i := 1) (N := some 57) (lb 3 3) rfl rfl (by kernel_rfl) (by decide) (fun K hK => ?_)
           refine gq Try.func38 (spec_l8None.calls _ _ _ A85.out) fun w255 hb => ?_
           replace HO_8 := am (Kd.R_below (RZ HO_8) hb)
           obtain ⟨BK177, BK178, BK179, BK185, BK188, BK199, HB⟩ := bk6 BK177 BK178 BK179 BK185 BK188 BK199 HB hb
           clear hb
           refine kk hK ⟨bc BK188 0, bc BK188 1⟩ fun hHeld => ?_
           clear hK K
           refine pure_ (i := 2) (N := some 58) (v := ?_) (a' := ?_) (lb 3 7) rfl rfl (by kernel_rfl) (fun _ _ _ h => h) (Or.inl ⟨by rfl, ?_⟩) ?_ ?_
           rotate_left
           ·exact gz
           rotate_left
           ·exact pz
           refine done_ (by kernel_rfl) ?_
           obtain ⟨hnb256,hnc256⟩ := nn NB177_178
           obtain ⟨hnb257,hnc257⟩ := nn NB177_179
           obtain ⟨hnb258,hnc258⟩ := nn NB177_185
           obtain ⟨hnb259,hnc259⟩ := nn NB177_188
           obtain ⟨hnb260,hnc260⟩ := nn NB177_199
           obtain ⟨hcz261_0,hcz261_1,hfz261_0,hfz261_1⟩ := cB2 BK177
           obtain ⟨hnb262,hnc262⟩ := nn NB199_178
           obtain ⟨hnb263,hnc263⟩ := nn NB199_179
           obtain ⟨hnb264,hnc264⟩ := nn NB199_185
           obtain ⟨hnb265,hnc265⟩ := nn NB199_188
           obtain ⟨hcz266_0,hcz266_1,hfz266_0,hfz266_1⟩ := cB2 BK199
           obtain ⟨hnb267,hnc267⟩ := nn NB179_178
           obtain ⟨hnb268,hnc268⟩ := nn NB179_185
           obtain ⟨hnb269,hnc269⟩ := nn NB179_188
           obtain ⟨hcz270_0,hcz270_1,hfz270_0,hfz270_1⟩ := cB2 BK179
           try go_wp2
           refine bodyPost_ret (results_ct rfl _ _ gb179 24 #[.int .i64 x200000_64, .int .i64 x200001_64] (0, 0) _ rfl (by refine pf ?_; refine blk_put (cs := #[.int .i64 x200000_64, .int .i64 0]) ?_ 1 _ rfl; refine pf ?_; refine blk_put (cs := #[.int .i64 0, .int .i64 0]) ?_ 0 _ rfl; exact Z BK179) Try.underlying24 rfl (by kernel_rfl)) rfl ?_
           exact ⟨_, ez, by (with_reducible repeat (first | apply Kd.R_alloc | apply Kd.R_drewN | apply Kd.R_drew)); exact Kd.R_mono (Kd.R_far (p := ⟨gb179, 1, none⟩) (Kd.R_far (p := ⟨gb179, 0, none⟩) (Kd.R_types HO_8.out BK179.out (by decide)) (fun _ hk => hk.2) (.int .i64 x200000_64)) (fun _ hk => hk.2) (.int .i64 x200001_64)) (fun _ hk => trivial), YA HB⟩
          rw [if_pos c190] at H
          have c190b0 := eT c190
          have c190b1 := nF c190
          clear c190
          by_cases c191 : a2_0 = a2_1
          rotate_left
          ·rw [if_neg c191] at H
           have c191b0 := eF c191
           have c191b1 := nT c191
           simp only [Option.some.injEq, Prod.mk.injEq] at H
           obtain ⟨rfl, rfl, rfl⟩ := H
           try go_wp2
           replace HO_8 := am (Kd.R_drew HO_8.out)
           obtain ⟨BK177, BK178, BK179, BK185, BK188, BK199, HB⟩ := dk6 BK177 BK178 BK179 BK185 BK188 BK199 HB
           refine start_ (n := 3) (S := fun w' => w'.cell? ⟨gb188, 0, none⟩ = some (.int .i64 t186) ∧ w'.cell? ⟨gb188, 1, none⟩ = some (.int .i64 t187)) (ds := []) (lb 3 0) (by kernel_rfl) rfl rfl ⟨bc BK188 0, bc BK188 1⟩ (fun hHeld => ?_)
           generalize wc.drew = w234 at HO_8 BK177 BK178 BK179 BK185 BK188 BK199 HB hHeld ⊢
           refine take_ (i := 0) (N := some 56) (v := ?_) (a' := ?_) (lb 3 1) rfl rfl (by kernel_rfl) (fun _ _ _ h => h) (Or.inl ⟨by rfl, ?_⟩) hHeld ?_ ?_
           rotate_left
           ·rintro w' ⟨s0, s1⟩
            go_simp
            with_reducible rfl
           rotate_left
           ·exact pz
           refine one_ (i := 1) (N := some 57) (lb 3 3) rfl rfl (by kernel_rfl) (by decide) (fun K hK => ?_)
           refine gq Try.func38 (spec_l8None.calls _ _ _ A85.out) fun w235 hb => ?_
           replace HO_8 := am (Kd.R_below (RZ HO_8) hb)
           obtain ⟨BK177, BK178, BK179, BK185, BK188, BK199, HB⟩ := bk6 BK177 BK178 BK179 BK185 BK188 BK199 HB hb
           clear hb
           refine kk hK ⟨bc BK188 0, bc BK188 1⟩ fun hHeld => ?_
           clear hK K
           refine pure_ (i := 2) (N := some 58) (v := ?_) (a' := ?_) (lb 3 7) rfl rfl (by kernel_rfl) (fun _ _ _ h => h) (Or.inl ⟨by rfl, ?_⟩) ?_ ?_
           rotate_left
           ·exact gz
           rotate_left
           ·exact pz
           refine done_ (by kernel_rfl) ?_
           obtain ⟨hnb236,hnc236⟩ := nn NB177_178
           obtain ⟨hnb237,hnc237⟩ := nn NB177_179
           obtain ⟨hnb238,hnc238⟩ := nn NB177_185
           obtain ⟨hnb239,hnc239⟩ := nn NB177_188
           obtain ⟨hnb240,hnc240⟩ := nn NB177_199
           obtain ⟨hcz241_0,hcz241_1,hfz241_0,hfz241_1⟩ := cB2 BK177
           obtain ⟨hnb242,hnc242⟩ := nn NB178_179
           obtain ⟨hnb243,hnc243⟩ := nn NB178_185
           obtain ⟨hnb244,hnc244⟩ := nn NB178_188
           obtain ⟨hnb245,hnc245⟩ := nn NB178_199
           obtain ⟨hcz246_0,hcz246_1,hfz246_0,hfz246_1⟩ := cB2 BK178
           obtain ⟨hnb247,hnc247⟩ := nn NB199_179
           obtain ⟨hnb248,hnc248⟩ := nn NB199_185
           obtain ⟨hnb249,hnc249⟩ := nn NB199_188
           obtain ⟨hcz250_0,hcz250_1,hfz250_0,hfz250_1⟩ := cB2 BK199
           obtain ⟨hnb251,hnc251⟩ := nn NB179_185
           obtain ⟨hnb252,hnc252⟩ := nn NB179_188
           obtain ⟨hcz253_0,hcz253_1,hfz253_0,hfz253_1⟩ := cB2 BK179
           try go_wp2
           refine bodyPost_ret (results_ct rfl _ _ gb179 24 #[.int .i64 x200000_64, .int .i64 x200001_64] (0, 0) _ rfl (by refine pf ?_; refine blk_put (cs := #[.int .i64 x200000_64, .int .i64 0]) ?_ 1 _ rfl; refine pf ?_; refine blk_put (cs := #[.int .i64 0, .int .i64 0]) ?_ 0 _ rfl; exact Z BK179) Try.underlying24 rfl (by kernel_rfl)) rfl ?_
           exact ⟨_, ez, by (with_reducible repeat (first | apply Kd.R_alloc | apply Kd.R_drewN | apply Kd.R_drew)); exact Kd.R_mono (Kd.R_far (p := ⟨gb179, 1, none⟩) (Kd.R_far (p := ⟨gb179, 0, none⟩) (Kd.R_types HO_8.out BK179.out (by decide)) (fun _ hk => hk.2) (.int .i64 x200000_64)) (fun _ hk => hk.2) (.int .i64 x200001_64)) (fun _ hk => trivial), YA HB⟩
          rw [if_pos c191] at H
          have c191b0 := eT c191
          have c191b1 := nF c191
          clear c191
          by_cases c192 : a2_0 = 0
          ·rw [if_pos c192] at H
           have c192b0 := eT c192
           have c192b1 := nF c192
           clear c192
           simp only [Option.some.injEq, Prod.mk.injEq] at H
           obtain ⟨rfl, rfl, rfl⟩ := H
           try go_wp2
           replace HO_8 := am (Kd.R_drew HO_8.out)
           obtain ⟨BK177, BK178, BK179, BK185, BK188, BK199, HB⟩ := dk6 BK177 BK178 BK179 BK185 BK188 BK199 HB
           refine start_ (n := 3) (S := fun w' => w'.cell? ⟨gb188, 0, none⟩ = some (.int .i64 t186) ∧ w'.cell? ⟨gb188, 1, none⟩ = some (.int .i64 t187)) (ds := []) (lb 3 0) (by kernel_rfl) rfl rfl ⟨bc BK188 0, bc BK188 1⟩ (fun hHeld => ?_)
           generalize wc.drew = w193 at HO_8 BK177 BK178 BK179 BK185 BK188 BK199 HB hHeld ⊢
           refine take_ (i := 0) (N := some 56) (v := ?_) (a' := ?_) (lb 3 1) rfl rfl (by kernel_rfl) (fun _ _ _ h => h) (Or.inl ⟨by rfl, ?_⟩) hHeld ?_ ?_
           rotate_left
           ·rintro w' ⟨s0, s1⟩
            go_simp
            with_reducible rfl
           rotate_left
           ·exact pz
           refine one_ (i := 1) (N := some 57) (lb 3 3) rfl rfl (by kernel_rfl) (by decide) (fun K hK => ?_)
           refine gq Try.func38 (spec_l8None.calls _ _ _ A85.out) fun w194 hb => ?_
           replace HO_8 := am (Kd.R_below (RZ HO_8) hb)
           obtain ⟨BK177, BK178, BK179, BK185, BK188, BK199, HB⟩ := bk6 BK177 BK178 BK179 BK185 BK188 BK199 HB hb
           clear hb
           refine kk hK ⟨bc BK188 0, bc BK188 1⟩ fun hHeld => ?_
           clear hK K
           refine pure_ (i := 2) (N := some 58) (v := ?_) (a' := ?_) (lb 3 7) rfl rfl (by kernel_rfl) (fun _ _ _ h => h) (Or.inl ⟨by rfl, ?_⟩) ?_ ?_
           rotate_left
           ·exact gz
           rotate_left
           ·exact pz
           refine done_ (by kernel_rfl) ?_
           obtain ⟨hnb195,hnc195⟩ := nn NB177_178
           obtain ⟨hnb196,hnc196⟩ := nn NB177_179
           obtain ⟨hnb197,hnc197⟩ := nn NB177_185
           obtain ⟨hnb198,hnc198⟩ := nn NB177_188
           obtain ⟨hnb199,hnc199⟩ := nn NB177_199
           obtain ⟨hcz200_0,hcz200_1,hfz200_0,hfz200_1⟩ := cB2 BK177
           obtain ⟨hnb201,hnc201⟩ := nn NB178_179
           obtain ⟨hnb202,hnc202⟩ := nn NB178_185
           obtain ⟨hnb203,hnc203⟩ := nn NB178_188
           obtain ⟨hnb204,hnc204⟩ := nn NB178_199
           obtain ⟨hcz205_0,hcz205_1,hfz205_0,hfz205_1⟩ := cB2 BK178
           obtain ⟨hnb206,hnc206⟩ := nn NB199_179
           obtain ⟨hnb207,hnc207⟩ := nn NB199_185
           obtain ⟨hnb208,hnc208⟩ := nn NB199_188
           obtain ⟨hcz209_0,hcz209_1,hfz209_0,hfz209_1⟩ := cB2 BK199
           obtain ⟨hnb210,hnc210⟩ := nn NB179_185
           obtain ⟨hnb211,hnc211⟩ := nn NB179_188
           obtain ⟨hcz212_0,hcz212_1,hfz212_0,hfz212_1⟩ := cB2 BK179
           try go_wp2
           refine bodyPost_ret (results_ct rfl _ _ gb179 24 #[.int .i64 x200000_64, .int .i64 x200001_64] (0, 0) _ rfl (by refine pf ?_; refine blk_put (cs := #[.int .i64 x200000_64, .int .i64 0]) ?_ 1 _ rfl; refine pf ?_; refine blk_put (cs := #[.int .i64 0, .int .i64 0]) ?_ 0 _ rfl; exact Z BK179) Try.underlying24 rfl (by kernel_rfl)) rfl ?_
           exact ⟨_, ez, by (with_reducible repeat (first | apply Kd.R_alloc | apply Kd.R_drewN | apply Kd.R_drew)); exact Kd.R_mono (Kd.R_far (p := ⟨gb179, 1, none⟩) (Kd.R_far (p := ⟨gb179, 0, none⟩) (Kd.R_types HO_8.out BK179.out (by decide)) (fun _ hk => hk.2) (.int .i64 x200000_64)) (fun _ hk => hk.2) (.int .i64 x200001_64)) (fun _ hk => trivial), YA HB⟩
          rw [if_neg c192] at H
          have c192b0 := eF c192
          have c192b1 := nT c192
          obtain ⟨t213, A213, H⟩ := bd H
          try dsimp only at H
          simp only [Option.some.injEq, Prod.mk.injEq] at H
          obtain ⟨rfl, rfl, rfl⟩ := H
          try go_wp2
          replace HO_8 := am (Kd.R_drew HO_8.out)
          obtain ⟨BK177, BK178, BK179, BK185, BK188, BK199, HB⟩ := dk6 BK177 BK178 BK179 BK185 BK188 BK199 HB
          refine start_ (n := 3) (S := fun w' => w'.cell? ⟨gb188, 0, none⟩ = some (.int .i64 t186) ∧ w'.cell? ⟨gb188, 1, none⟩ = some (.int .i64 t187)) (ds := []) (lb 3 0) (by kernel_rfl) rfl rfl ⟨bc BK188 0, bc BK188 1⟩ (fun hHeld => ?_)
          generalize wc.drew = w214 at HO_8 BK177 BK178 BK179 BK185 BK188 BK199 HB hHeld ⊢
          refine take_ (i := 0) (N := some 56) (v := ?_) (a' := ?_) (lb 3 1) rfl rfl (by kernel_rfl) (fun _ _ _ h => h) (Or.inl ⟨by rfl, ?_⟩) hHeld ?_ ?_
          rotate_left
          ·rintro w' ⟨s0, s1⟩
           go_simp
           with_reducible rfl
          rotate_left
          ·exact pz
          refine one_ (i := 1) (N := some 57) (lb 3 3) rfl rfl (by kernel_rfl) (by decide) (fun K hK => ?_)
          refine gq Try.func38 (spec_l8None.calls _ _ _ A85.out) fun w215 hb => ?_
          replace HO_8 := am (Kd.R_below (RZ HO_8) hb)
          obtain ⟨BK177, BK178, BK179, BK185, BK188, BK199, HB⟩ := bk6 BK177 BK178 BK179 BK185 BK188 BK199 HB hb
          clear hb
          refine kk hK ⟨bc BK188 0, bc BK188 1⟩ fun hHeld => ?_
          clear hK K
          refine pure_ (i := 2) (N := some 58) (v := ?_) (a' := ?_) (lb 3 7) rfl rfl (by kernel_rfl) (fun _ _ _ h => h) (Or.inl ⟨by rfl, ?_⟩) ?_ ?_
          rotate_left
          ·exact gz
          rotate_left
          ·exact pz
          refine done_ (by kernel_rfl) ?_
          obtain ⟨hnb216,hnc216⟩ := nn NB177_178
          obtain ⟨hnb217,hnc217⟩ := nn NB177_179
          obtain ⟨hnb218,hnc218⟩ := nn NB177_185
          obtain ⟨hnb219,hnc219⟩ := nn NB177_188
          obtain ⟨hnb220,hnc220⟩ := nn NB177_199
          obtain ⟨hcz221_0,hcz221_1,hfz221_0,hfz221_1⟩ := cB2 BK177
          obtain ⟨hnb222,hnc222⟩ := nn NB178_179
          obtain ⟨hnb223,hnc223⟩ := nn NB178_185
          obtain ⟨hnb224,hnc224⟩ := nn NB178_188
          obtain ⟨hnb225,hnc225⟩ := nn NB178_199
          obtain ⟨hcz226_0,hcz226_1,hfz226_0,hfz226_1⟩ := cB2 BK178
          try go_wp2_with (first | ((with_reducible refine gate_callee (f := 63) rfl ?_); refine goesL_ (some 89) rfl rfl Try.func63 (by kernel_rfl) rfl #[.int .i64 a0, .int .i64 a1_0, .int .i64 a2_0] rfl mz ?_; (with_reducible refine (spec_l1Exact.calls _ _ _ _ _ _ A213.out).mono ?_); rintro e w' ⟨rfl, ⟨nd, rfl⟩⟩; refine ⟨_, rfl, ?_⟩; (try (rw [drewN_self w215]; generalize hq_ : World.drewN w215 _ = w215; replace HO_8 : Aside0 (Kd.R (Kd.int .i64) 3 w215 w.heap.size (fun _ => True) u8 x8_51) := ⟨by rw [← hq_]; exact (RZ HO_8)⟩; replace BK177 : Bx2 w215 gb177 a1_0 a1_1 24 := ⟨by rw [← hq_]; exact (Z BK177)⟩; replace BK178 : Bx2 w215 gb178 a2_0 a2_1 24 := ⟨by rw [← hq_]; exact (Z BK178)⟩; replace BK179 : Bx2 w215 gb179 0 0 24 := ⟨by rw [← hq_]; exact (Z BK179)⟩; replace BK185 : Bx2 w215 gb185 t183 t184 24 := ⟨by rw [← hq_]; exact (Z BK185)⟩; replace BK188 : Bx2 w215 gb188 t186 t187 24 := ⟨by rw [← hq_]; exact (Z BK188)⟩; replace BK199 : Bx2 w215 gb199 x200000_64 x200001_64 24 := ⟨by rw [← hq_]; exact (Z BK199)⟩; replace HB : Aside0 (Below w.heap.size w w215) := ⟨by rw [← hq_]; exact (YA HB)⟩; clear hq_)); obtain ⟨hnb227,hnc227⟩ := nn NB199_179; obtain ⟨hnb228,hnc228⟩ := nn NB199_185; obtain ⟨hnb229,hnc229⟩ := nn NB199_188; obtain ⟨hcz230_0,hcz230_1,hfz230_0,hfz230_1⟩ := cB2 BK199; obtain ⟨hnb231,hnc231⟩ := nn NB179_185; obtain ⟨hnb232,hnc232⟩ := nn NB179_188; obtain ⟨hcz233_0,hcz233_1,hfz233_0,hfz233_1⟩ := cB2 BK179))
          refine bodyPost_ret (results_ct rfl _ _ gb179 24 #[.int .i64 t213, .int .i64 t213] (0, 0) _ rfl (by refine pf ?_; refine blk_put (cs := #[.int .i64 t213, .int .i64 0]) ?_ 1 _ rfl; refine pf ?_; refine blk_put (cs := #[.int .i64 0, .int .i64 0]) ?_ 0 _ rfl; refine fa NB179_199 ?_; refine fa NB179_199 ?_; exact Z BK179) Try.underlying24 rfl (by kernel_rfl)) rfl ?_
          exact ⟨_, ez, by (with_reducible repeat (first | apply Kd.R_alloc | apply Kd.R_drewN | apply Kd.R_drew)); exact Kd.R_mono (Kd.R_far (p := ⟨gb179, 1, none⟩) (Kd.R_far (p := ⟨gb179, 0, none⟩) (Kd.R_far (p := ⟨gb199, 1, none⟩) (Kd.R_far (p := ⟨gb199, 0, none⟩) (Kd.R_types (Kd.R_types HO_8.out BK199.out (by decide)) BK179.out (by decide)) (fun _ hk => hk.1.2) (.int .i64 t213)) (fun _ hk => hk.1.2) (.int .i64 t213)) (fun _ hk => hk.2) (.int .i64 t213)) (fun _ hk => hk.2) (.int .i64 t213)) (fun _ hk => trivial), YA HB⟩
         rw [if_pos c86] at H
         have c86b0 : (!(t186 == t206) || (!(t187 == t207))) = true := c86
         clear c86
         obtain ⟨⟨t208, t209⟩, A87, H⟩ := bd H
         try dsimp only at H
         obtain ⟨⟨t210, t211⟩, A88, H⟩ := bd H
         try dsimp only at H
         by_cases c89 : a1_0 = a1_1
         rotate_left
         ·rw [if_neg c89] at H
          have c89b0 := eF c89
          have c89b1 := nT c89
          simp only [Option.some.injEq, Prod.mk.injEq] at H
          obtain ⟨rfl, rfl, rfl⟩ := H
          try go_wp2
          replace HO_8 := am (Kd.R_drew HO_8.out)
          obtain ⟨BK177, BK178, BK179, BK185, BK188, BK199, HB⟩ := dk6 BK177 BK178 BK179 BK185 BK188 BK199 HB
          refine start_ (n := 3) (S := fun w' => w'.cell? ⟨gb188, 0, none⟩ = some (.int .i64 t186) ∧ w'.cell? ⟨gb188, 1, none⟩ = some (.int .i64 t187)) (ds := []) (lb 3 0) (by kernel_rfl) rfl rfl ⟨bc BK188 0, bc BK188 1⟩ (fun hHeld => ?_)
          generalize wc.drew = w168 at HO_8 BK177 BK178 BK179 BK185 BK188 BK199 HB hHeld ⊢
          refine take_ (i := 0) (N := some 56) (v := ?_) (a' := ?_) (lb 3 1) rfl rfl (by kernel_rfl) (fun _ _ _ h => h) (Or.inl ⟨by rfl, ?_⟩) hHeld ?_ ?_
          rotate_left
          ·rintro w' ⟨s0, s1⟩
           go_simp
           with_reducible rfl
          rotate_left
          ·exact pz
          refine one_ (i := 1) (N := some 57) (lb 3 3) rfl rfl (by kernel_rfl) (by decide) (fun K hK => ?_)
          refine gq Try.func38 (spec_l8None.calls _ _ _ A85.out) fun w169 hb => ?_
          replace HO_8 := am (Kd.R_below (RZ HO_8) hb)
          obtain ⟨BK177, BK178, BK179, BK185, BK188, BK199, HB⟩ := bk6 BK177 BK178 BK179 BK185 BK188 BK199 HB hb
          clear hb
          refine kk hK ⟨bc BK188 0, bc BK188 1⟩ fun hHeld => ?_
          clear hK K
          refine pure_ (i := 2) (N := some 58) (v := ?_) (a' := ?_) (lb 3 7) rfl rfl (by kernel_rfl) (fun _ _ _ h => h) (Or.inl ⟨by rfl, ?_⟩) ?_ ?_
          rotate_left
          ·exact gz
          rotate_left
          ·exact pz
          refine done_ (by kernel_rfl) ?_
          try go_wp2
          replace HO_8 := am (Kd.R_drew HO_8.out)
          obtain ⟨BK177, BK178, BK179, BK185, BK188, BK199, HB⟩ := dk6 BK177 BK178 BK179 BK185 BK188 BK199 HB
          refine start_ (n := 9) (S := fun w' => w'.cell? ⟨gb199, 0, none⟩ = some (.int .i64 x200000_64) ∧ w'.cell? ⟨gb199, 1, none⟩ = some (.int .i64 x200001_64) ∧ w'.cell? ⟨gb177, 0, none⟩ = some (.int .i64 a1_0) ∧ w'.cell? ⟨gb177, 1, none⟩ = some (.int .i64 a1_1) ∧ w'.cell? ⟨gb188, 0, none⟩ = some (.int .i64 t186) ∧ w'.cell? ⟨gb188, 1, none⟩ = some (.int .i64 t187)) (ds := [8]) (lb 9 0) (by kernel_rfl) rfl rfl ⟨bc BK199 0, bc BK199 1, bc BK177 0, bc BK177 1, bc BK188 0, bc BK188 1⟩ (fun hHeld => ?_); refine with_tabW spec_l8Div.tab13 spec_l8Div.bits13 (fun HT_ HW_ => ?_)
          generalize w169.drew = w170 at HO_8 BK177 BK178 BK179 BK185 BK188 BK199 HB hHeld ⊢
          refine pk 2 61 4 ?_
          refine pk 4 63 20 ?_
          refine tk 0 59 21 hHeld ?_
          refine tk 1 60 23 hHeld ?_
          refine tk 3 62 31 hHeld ?_
          refine tk 5 64 63 hHeld ?_
          refine on 6 (some 65) 127 fun K hK => ?_
          refine gq Try.func89 (spec_l8Rem.calls _ _ _ _ _ _ _ _ A87.out) fun w171 hb => ?_
          replace HO_8 := am (Kd.R_below (RZ HO_8) hb)
          obtain ⟨BK177, BK178, BK179, BK185, BK188, BK199, HB⟩ := bk6 BK177 BK178 BK179 BK185 BK188 BK199 HB hb
          clear hb
          refine kk hK ⟨bc BK199 0, bc BK199 1, bc BK177 0, bc BK177 1, bc BK188 0, bc BK188 1⟩ fun hHeld => ?_
          clear hK K
          refine on 7 (some 66) 255 fun K hK => ?_
          refine gq Try.func25 (spec_RangeJoin.calls _ _ _ _ _ _ _ _ A88.out) fun w172 hb => ?_
          replace HO_8 := am (Kd.R_below (RZ HO_8) hb)
          obtain ⟨BK177, BK178, BK179, BK185, BK188, BK199, HB⟩ := bk6 BK177 BK178 BK179 BK185 BK188 BK199 HB hb
          clear hb
          refine kk hK ⟨bc BK199 0, bc BK199 1, bc BK177 0, bc BK177 1, bc BK188 0, bc BK188 1⟩ fun hHeld => ?_
          clear hK K
          refine last_ (i := 8) (N := none) (lb 9 511) rfl rfl ow (by decide) (fun K hK => ?_)
          have hs173 : w172.cell? ⟨gb199, 0, none⟩ = some (.int .i64 x200000_64) := bc BK199 0
          have hfs173 := blk_frozen BK199.out 0
          have hns173_0 := NB177_199.out
          have hns173_1 := NB178_199.out
          have hns173_2 := NB179_199.out
          have hns173_3 := NB185_199.out
          have hns173_4 := NB188_199.out
          have hms173_0 := NB199_177.out
          have hms173_1 := NB199_178.out
          have hms173_2 := NB199_179.out
          have hms173_3 := NB199_185.out
          have hms173_4 := NB199_188.out
          have hs174 : w172.cell? ⟨gb199, 1, none⟩ = some (.int .i64 x200001_64) := bc BK199 1
          have hfs174 := blk_frozen BK199.out 1
          have hns174_0 := NB177_199.out
          have hns174_1 := NB178_199.out
          have hns174_2 := NB179_199.out
          have hns174_3 := NB185_199.out
          have hns174_4 := NB188_199.out
          have hms174_0 := NB199_177.out
          have hms174_1 := NB199_178.out
          have hms174_2 := NB199_179.out
          have hms174_3 := NB199_185.out
          have hms174_4 := NB199_188.out
          refine skip_ (w1 := ?_) (by rfl) rfl ?_ ?_
          rotate_left
          ·go_simp
           rfl
          refine hK.out _ _ ?_
          clear hK K
          refine done_ (done_of HT_.out (by kernel_rfl)) ?_
          obtain ⟨hnb175,hnc175⟩ := nn NB177_178
          obtain ⟨hnb176,hnc176⟩ := nn NB177_179
          obtain ⟨hnb177,hnc177⟩ := nn NB177_185
          obtain ⟨hnb178,hnc178⟩ := nn NB177_188
          obtain ⟨hnb179,hnc179⟩ := nn NB177_199
          obtain ⟨hcz180_0,hcz180_1,hfz180_0,hfz180_1⟩ := cB2 BK177
          obtain ⟨hnb181,hnc181⟩ := nn NB199_178
          obtain ⟨hnb182,hnc182⟩ := nn NB199_179
          obtain ⟨hnb183,hnc183⟩ := nn NB199_185
          obtain ⟨hnb184,hnc184⟩ := nn NB199_188
          obtain ⟨hcz185_0,hcz185_1,hfz185_0,hfz185_1⟩ := cB2 BK199
          obtain ⟨hnb186,hnc186⟩ := nn NB179_178
          obtain ⟨hnb187,hnc187⟩ := nn NB179_185
          obtain ⟨hnb188,hnc188⟩ := nn NB179_188
          obtain ⟨hcz189_0,hcz189_1,hfz189_0,hfz189_1⟩ := cB2 BK179
          try go_wp2
          refine bodyPost_ret (results_ct rfl _ _ gb179 24 #[.int .i64 t210, .int .i64 t211] (0, 0) _ rfl (by refine pf ?_; refine blk_put (cs := #[.int .i64 t210, .int .i64 0]) ?_ 1 _ rfl; refine pf ?_; refine blk_put (cs := #[.int .i64 0, .int .i64 0]) ?_ 0 _ rfl; refine fa NB179_199 ?_; refine fa NB179_199 ?_; exact Z BK179) Try.underlying24 rfl (by kernel_rfl)) rfl ?_
          exact ⟨_, ez, by (with_reducible repeat (first | apply Kd.R_alloc | apply Kd.R_drewN | apply Kd.R_drew)); exact Kd.R_mono (Kd.R_far (p := ⟨gb179, 1, none⟩) (Kd.R_far (p := ⟨gb179, 0, none⟩) (Kd.R_far (p := ⟨gb199, 1, none⟩) (Kd.R_far (p := ⟨gb199, 0, none⟩) (Kd.R_types (Kd.R_types HO_8.out BK199.out (by decide)) BK179.out (by decide)) (fun _ hk => hk.1.2) (.int .i64 t210)) (fun _ hk => hk.1.2) (.int .i64 t211)) (fun _ hk => hk.2) (.int .i64 t210)) (fun _ hk => hk.2) (.int .i64 t211)) (fun _ hk => trivial), YA HB⟩
         rw [if_pos c89] at H
         have c89b0 := eT c89
         have c89b1 := nF c89
         clear c89
         by_cases c90 : a2_0 = a2_1
         rotate_left
         ·rw [if_neg c90] at H
          have c90b0 := eF c90
          have c90b1 := nT c90
          simp only [Option.some.injEq, Prod.mk.injEq] at H
          obtain ⟨rfl, rfl, rfl⟩ := H
          try go_wp2
          replace HO_8 := am (Kd.R_drew HO_8.out)
          obtain ⟨BK177, BK178, BK179, BK185, BK188, BK199, HB⟩ := dk6 BK177 BK178 BK179 BK185 BK188 BK199 HB
          refine start_ (n := 3) (S := fun w' => w'.cell? ⟨gb188, 0, none⟩ = some (.int .i64 t186) ∧ w'.cell? ⟨gb188, 1, none⟩ = some (.int .i64 t187)) (ds := []) (lb 3 0) (by kernel_rfl) rfl rfl ⟨bc BK188 0, bc BK188 1⟩ (fun hHeld => ?_)
          generalize wc.drew = w143 at HO_8 BK177 BK178 BK179 BK185 BK188 BK199 HB hHeld ⊢
          refine take_ (i := 0) (N := some 56) (v := ?_) (a' := ?_) (lb 3 1) rfl rfl (by kernel_rfl) (fun _ _ _ h => h) (Or.inl ⟨by rfl, ?_⟩) hHeld ?_ ?_
          rotate_left
          ·rintro w' ⟨s0, s1⟩
           go_simp
           with_reducible rfl
          rotate_left
          ·exact pz
          refine one_ (i := 1) (N := some 57) (lb 3 3) rfl rfl (by kernel_rfl) (by decide) (fun K hK => ?_)
          refine gq Try.func38 (spec_l8None.calls _ _ _ A85.out) fun w144 hb => ?_
          replace HO_8 := am (Kd.R_below (RZ HO_8) hb)
          obtain ⟨BK177, BK178, BK179, BK185, BK188, BK199, HB⟩ := bk6 BK177 BK178 BK179 BK185 BK188 BK199 HB hb
          clear hb
          refine kk hK ⟨bc BK188 0, bc BK188 1⟩ fun hHeld => ?_
          clear hK K
          refine pure_ (i := 2) (N := some 58) (v := ?_) (a' := ?_) (lb 3 7) rfl rfl (by kernel_rfl) (fun _ _ _ h => h) (Or.inl ⟨by rfl, ?_⟩) ?_ ?_
          rotate_left
          ·exact gz
          rotate_left
          ·exact pz
          refine done_ (by kernel_rfl) ?_
          try go_wp2
          replace HO_8 := am (Kd.R_drew HO_8.out)
          obtain ⟨BK177, BK178, BK179, BK185, BK188, BK199, HB⟩ := dk6 BK177 BK178 BK179 BK185 BK188 BK199 HB
          refine start_ (n := 9) (S := fun w' => w'.cell? ⟨gb199, 0, none⟩ = some (.int .i64 x200000_64) ∧ w'.cell? ⟨gb199, 1, none⟩ = some (.int .i64 x200001_64) ∧ w'.cell? ⟨gb177, 0, none⟩ = some (.int .i64 a1_0) ∧ w'.cell? ⟨gb177, 1, none⟩ = some (.int .i64 a1_1) ∧ w'.cell? ⟨gb188, 0, none⟩ = some (.int .i64 t186) ∧ w'.cell? ⟨gb188, 1, none⟩ = some (.int .i64 t187)) (ds := [8]) (lb 9 0) (by kernel_rfl) rfl rfl ⟨bc BK199 0, bc BK199 1, bc BK177 0, bc BK177 1, bc BK188 0, bc BK188 1⟩ (fun hHeld => ?_); refine with_tabW spec_l8Div.tab13 spec_l8Div.bits13 (fun HT_ HW_ => ?_)
          generalize w144.drew = w145 at HO_8 BK177 BK178 BK179 BK185 BK188 BK199 HB hHeld ⊢
          refine pk 2 61 4 ?_
          refine pk 4 63 20 ?_
          refine tk 0 59 21 hHeld ?_
          refine tk 1 60 23 hHeld ?_
          refine tk 3 62 31 hHeld ?_
          refine tk 5 64 63 hHeld ?_
          refine on 6 (some 65) 127 fun K hK => ?_
          refine gq Try.func89 (spec_l8Rem.calls _ _ _ _ _ _ _ _ A87.out) fun w146 hb => ?_
          replace HO_8 := am (Kd.R_below (RZ HO_8) hb)
          obtain ⟨BK177, BK178, BK179, BK185, BK188, BK199, HB⟩ := bk6 BK177 BK178 BK179 BK185 BK188 BK199 HB hb
          clear hb
          refine kk hK ⟨bc BK199 0, bc BK199 1, bc BK177 0, bc BK177 1, bc BK188 0, bc BK188 1⟩ fun hHeld => ?_
          clear hK K
          refine on 7 (some 66) 255 fun K hK => ?_
          refine gq Try.func25 (spec_RangeJoin.calls _ _ _ _ _ _ _ _ A88.out) fun w147 hb => ?_
          replace HO_8 := am (Kd.R_below (RZ HO_8) hb)
          obtain ⟨BK177, BK178, BK179, BK185, BK188, BK199, HB⟩ := bk6 BK177 BK178 BK179 BK185 BK188 BK199 HB hb
          clear hb
          refine kk hK ⟨bc BK199 0, bc BK199 1, bc BK177 0, bc BK177 1, bc BK188 0, bc BK188 1⟩ fun hHeld => ?_
          clear hK K
          refine last_ (i := 8) (N := none) (lb 9 511) rfl rfl ow (by decide) (fun K hK => ?_)
          have hs148 : w147.cell? ⟨gb199, 0, none⟩ = some (.int .i64 x200000_64) := bc BK199 0
          have hfs148 := blk_frozen BK199.out 0
          have hns148_0 := NB177_199.out
          have hns148_1 := NB178_199.out
          have hns148_2 := NB179_199.out
          have hns148_3 := NB185_199.out
          have hns148_4 := NB188_199.out
          have hms148_0 := NB199_177.out
          have hms148_1 := NB199_178.out
          have hms148_2 := NB199_179.out
          have hms148_3 := NB199_185.out
          have hms148_4 := NB199_188.out
          have hs149 : w147.cell? ⟨gb199, 1, none⟩ = some (.int .i64 x200001_64) := bc BK199 1
          have hfs149 := blk_frozen BK199.out 1
          have hns149_0 := NB177_199.out
          have hns149_1 := NB178_199.out
          have hns149_2 := NB179_199.out
          have hns149_3 := NB185_199.out
          have hns149_4 := NB188_199.out
          have hms149_0 := NB199_177.out
          have hms149_1 := NB199_178.out
          have hms149_2 := NB199_179.out
          have hms149_3 := NB199_185.out
          have hms149_4 := NB199_188.out
          refine skip_ (w1 := ?_) (by rfl) rfl ?_ ?_
          rotate_left
          ·go_simp
           rfl
          refine hK.out _ _ ?_
          clear hK K
          refine done_ (done_of HT_.out (by kernel_rfl)) ?_
          obtain ⟨hnb150,hnc150⟩ := nn NB177_178
          obtain ⟨hnb151,hnc151⟩ := nn NB177_179
          obtain ⟨hnb152,hnc152⟩ := nn NB177_185
          obtain ⟨hnb153,hnc153⟩ := nn NB177_188
          obtain ⟨hnb154,hnc154⟩ := nn NB177_199
          obtain ⟨hcz155_0,hcz155_1,hfz155_0,hfz155_1⟩ := cB2 BK177
          obtain ⟨hnb156,hnc156⟩ := nn NB178_179
          obtain ⟨hnb157,hnc157⟩ := nn NB178_185
          obtain ⟨hnb158,hnc158⟩ := nn NB178_188
          obtain ⟨hnb159,hnc159⟩ := nn NB178_199
          obtain ⟨hcz160_0,hcz160_1,hfz160_0,hfz160_1⟩ := cB2 BK178
          obtain ⟨hnb161,hnc161⟩ := nn NB199_179
          obtain ⟨hnb162,hnc162⟩ := nn NB199_185
          obtain ⟨hnb163,hnc163⟩ := nn NB199_188
          obtain ⟨hcz164_0,hcz164_1,hfz164_0,hfz164_1⟩ := cB2 BK199
          obtain ⟨hnb165,hnc165⟩ := nn NB179_185
          obtain ⟨hnb166,hnc166⟩ := nn NB179_188
          obtain ⟨hcz167_0,hcz167_1,hfz167_0,hfz167_1⟩ := cB2 BK179
          try go_wp2
          refine bodyPost_ret (results_ct rfl _ _ gb179 24 #[.int .i64 t210, .int .i64 t211] (0, 0) _ rfl (by refine pf ?_; refine blk_put (cs := #[.int .i64 t210, .int .i64 0]) ?_ 1 _ rfl; refine pf ?_; refine blk_put (cs := #[.int .i64 0, .int .i64 0]) ?_ 0 _ rfl; refine fa NB179_199 ?_; refine fa NB179_199 ?_; exact Z BK179) Try.underlying24 rfl (by kernel_rfl)) rfl ?_
          exact ⟨_, ez, by (with_reducible repeat (first | apply Kd.R_alloc | apply Kd.R_drewN | apply Kd.R_drew)); exact Kd.R_mono (Kd.R_far (p := ⟨gb179, 1, none⟩) (Kd.R_far (p := ⟨gb179, 0, none⟩) (Kd.R_far (p := ⟨gb199, 1, none⟩) (Kd.R_far (p := ⟨gb199, 0, none⟩) (Kd.R_types (Kd.R_types HO_8.out BK199.out (by decide)) BK179.out (by decide)) (fun _ hk => hk.1.2) (.int .i64 t210)) (fun _ hk => hk.1.2) (.int .i64 t211)) (fun _ hk => hk.2) (.int .i64 t210)) (fun _ hk => hk.2) (.int .i64 t211)) (fun _ hk => trivial), YA HB⟩
         rw [if_pos c90] at H
         have c90b0 := eT c90
         have c90b1 := nF c90
         clear c90
         by_cases c91 : a2_0 = 0
         ·rw [if_pos c91] at H
          have c91b0 := eT c91
          have c91b1 := nF c91
          clear c91
          simp only [Option.some.injEq, Prod.mk.injEq] at H
          obtain ⟨rfl, rfl, rfl⟩ := H
          try go_wp2
          replace HO_8 := am (Kd.R_drew HO_8.out)
          obtain ⟨BK177, BK178, BK179, BK185, BK188, BK199, HB⟩ := dk6 BK177 BK178 BK179 BK185 BK188 BK199 HB
          refine start_ (n := 3) (S := fun w' => w'.cell? ⟨gb188, 0, none⟩ = some (.int .i64 t186) ∧ w'.cell? ⟨gb188, 1, none⟩ = some (.int .i64 t187)) (ds := []) (lb 3 0) (by kernel_rfl) rfl rfl ⟨bc BK188 0, bc BK188 1⟩ (fun hHeld => ?_)
          generalize wc.drew = w92 at HO_8 BK177 BK178 BK179 BK185 BK188 BK199 HB hHeld ⊢
          refine take_ (i := 0) (N := some 56) (v := ?_) (a' := ?_) (lb 3 1) rfl rfl (by kernel_rfl) (fun _ _ _ h => h) (Or.inl ⟨by rfl, ?_⟩) hHeld ?_ ?_
          rotate_left
          ·rintro w' ⟨s0, s1⟩
           go_simp
           with_reducible rfl
          rotate_left
          ·exact pz
          refine one_ (i := 1) (N := some 57) (lb 3 3) rfl rfl (by kernel_rfl) (by decide) (fun K hK => ?_)
          refine gq Try.func38 (spec_l8None.calls _ _ _ A85.out) fun w93 hb => ?_
          replace HO_8 := am (Kd.R_below (RZ HO_8) hb)
          obtain ⟨BK177, BK178, BK179, BK185, BK188, BK199, HB⟩ := bk6 BK177 BK178 BK179 BK185 BK188 BK199 HB hb
          clear hb
          refine kk hK ⟨bc BK188 0, bc BK188 1⟩ fun hHeld => ?_
          clear hK K
          refine pure_ (i := 2) (N := some 58) (v := ?_) (a' := ?_) (lb 3 7) rfl rfl (by kernel_rfl) (fun _ _ _ h => h) (Or.inl ⟨by rfl, ?_⟩) ?_ ?_
          rotate_left
          ·exact gz
          rotate_left
          ·exact pz
          refine done_ (by kernel_rfl) ?_
          try go_wp2
          replace HO_8 := am (Kd.R_drew HO_8.out)
          obtain ⟨BK177, BK178, BK179, BK185, BK188, BK199, HB⟩ := dk6 BK177 BK178 BK179 BK185 BK188 BK199 HB
          refine start_ (n := 9) (S := fun w' => w'.cell? ⟨gb199, 0, none⟩ = some (.int .i64 x200000_64) ∧ w'.cell? ⟨gb199, 1, none⟩ = some (.int .i64 x200001_64) ∧ w'.cell? ⟨gb177, 0, none⟩ = some (.int .i64 a1_0) ∧ w'.cell? ⟨gb177, 1, none⟩ = some (.int .i64 a1_1) ∧ w'.cell? ⟨gb188, 0, none⟩ = some (.int .i64 t186) ∧ w'.cell? ⟨gb188, 1, none⟩ = some (.int .i64 t187)) (ds := [8]) (lb 9 0) (by kernel_rfl) rfl rfl ⟨bc BK199 0, bc BK199 1, bc BK177 0, bc BK177 1, bc BK188 0, bc BK188 1⟩ (fun hHeld => ?_); refine with_tabW spec_l8Div.tab13 spec_l8Div.bits13 (fun HT_ HW_ => ?_)
          generalize w93.drew = w94 at HO_8 BK177 BK178 BK179 BK185 BK188 BK199 HB hHeld ⊢
          refine pk 2 61 4 ?_
          refine pk 4 63 20 ?_
          refine tk 0 59 21 hHeld ?_
          refine tk 1 60 23 hHeld ?_
          refine tk 3 62 31 hHeld ?_
          refine tk 5 64 63 hHeld ?_
          refine on 6 (some 65) 127 fun K hK => ?_
          refine gq Try.func89 (spec_l8Rem.calls _ _ _ _ _ _ _ _ A87.out) fun w95 hb => ?_
          replace HO_8 := am (Kd.R_below (RZ HO_8) hb)
          obtain ⟨BK177, BK178, BK179, BK185, BK188, BK199, HB⟩ := bk6 BK177 BK178 BK179 BK185 BK188 BK199 HB hb
          clear hb
          refine kk hK ⟨bc BK199 0, bc BK199 1, bc BK177 0, bc BK177 1, bc BK188 0, bc BK188 1⟩ fun hHeld => ?_
          clear hK K
          refine on 7 (some 66) 255 fun K hK => ?_
          refine gq Try.func25 (spec_RangeJoin.calls _ _ _ _ _ _ _ _ A88.out) fun w96 hb => ?_
          replace HO_8 := am (Kd.R_below (RZ HO_8) hb)
          obtain ⟨BK177, BK178, BK179, BK185, BK188, BK199, HB⟩ := bk6 BK177 BK178 BK179 BK185 BK188 BK199 HB hb
          clear hb
          refine kk hK ⟨bc BK199 0, bc BK199 1, bc BK177 0, bc BK177 1, bc BK188 0, bc BK188 1⟩ fun hHeld => ?_
          clear hK K
          refine last_ (i := 8) (N := none) (lb 9 511) rfl rfl ow (by decide) (fun K hK => ?_)
          have hs97 : w96.cell? ⟨gb199, 0, none⟩ = some (.int .i64 x200000_64) := bc BK199 0
          have hfs97 := blk_frozen BK199.out 0
          have hns97_0 := NB177_199.out
          have hns97_1 := NB178_199.out
          have hns97_2 := NB179_199.out
          have hns97_3 := NB185_199.out
          have hns97_4 := NB188_199.out
          have hms97_0 := NB199_177.out
          have hms97_1 := NB199_178.out
          have hms97_2 := NB199_179.out
          have hms97_3 := NB199_185.out
          have hms97_4 := NB199_188.out
          have hs98 : w96.cell? ⟨gb199, 1, none⟩ = some (.int .i64 x200001_64) := bc BK199 1
          have hfs98 := blk_frozen BK199.out 1
          have hns98_0 := NB177_199.out
          have hns98_1 := NB178_199.out
          have hns98_2 := NB179_199.out
          have hns98_3 := NB185_199.out
          have hns98_4 := NB188_199.out
          have hms98_0 := NB199_177.out
          have hms98_1 := NB199_178.out
          have hms98_2 := NB199_179.out
          have hms98_3 := NB199_185.out
          have hms98_4 := NB199_188.out
          refine skip_ (w1 := ?_) (by rfl) rfl ?_ ?_
          rotate_left
          ·go_simp
           rfl
          refine hK.out _ _ ?_
          clear hK K
          refine done_ (done_of HT_.out (by kernel_rfl)) ?_
          obtain ⟨hnb99,hnc99⟩ := nn NB177_178
          obtain ⟨hnb100,hnc100⟩ := nn NB177_179
          obtain ⟨hnb101,hnc101⟩ := nn NB177_185
          obtain ⟨hnb102,hnc102⟩ := nn NB177_188
          obtain ⟨hnb103,hnc103⟩ := nn NB177_199
          obtain ⟨hcz104_0,hcz104_1,hfz104_0,hfz104_1⟩ := cB2 BK177
          obtain ⟨hnb105,hnc105⟩ := nn NB178_179
          obtain ⟨hnb106,hnc106⟩ := nn NB178_185
          obtain ⟨hnb107,hnc107⟩ := nn NB178_188
          obtain ⟨hnb108,hnc108⟩ := nn NB178_199
          obtain ⟨hcz109_0,hcz109_1,hfz109_0,hfz109_1⟩ := cB2 BK178
          obtain ⟨hnb110,hnc110⟩ := nn NB199_179
          obtain ⟨hnb111,hnc111⟩ := nn NB199_185
          obtain ⟨hnb112,hnc112⟩ := nn NB199_188
          obtain ⟨hcz113_0,hcz113_1,hfz113_0,hfz113_1⟩ := cB2 BK199
          obtain ⟨hnb114,hnc114⟩ := nn NB179_185
          obtain ⟨hnb115,hnc115⟩ := nn NB179_188
          obtain ⟨hcz116_0,hcz116_1,hfz116_0,hfz116_1⟩ := cB2 BK179
          try go_wp2
          refine bodyPost_ret (results_ct rfl _ _ gb179 24 #[.int .i64 t210, .int .i64 t211] (0, 0) _ rfl (by refine pf ?_; refine blk_put (cs := #[.int .i64 t210, .int .i64 0]) ?_ 1 _ rfl; refine pf ?_; refine blk_put (cs := #[.int .i64 0, .int .i64 0]) ?_ 0 _ rfl; refine fa NB179_199 ?_; refine fa NB179_199 ?_; exact Z BK179) Try.underlying24 rfl (by kernel_rfl)) rfl ?_
          exact ⟨_, ez, by (with_reducible repeat (first | apply Kd.R_alloc | apply Kd.R_drewN | apply Kd.R_drew)); exact Kd.R_mono (Kd.R_far (p := ⟨gb179, 1, none⟩) (Kd.R_far (p := ⟨gb179, 0, none⟩) (Kd.R_far (p := ⟨gb199, 1, none⟩) (Kd.R_far (p := ⟨gb199, 0, none⟩) (Kd.R_types (Kd.R_types HO_8.out BK199.out (by decide)) BK179.out (by decide)) (fun _ hk => hk.1.2) (.int .i64 t210)) (fun _ hk => hk.1.2) (.int .i64 t211)) (fun _ hk => hk.2) (.int .i64 t210)) (fun _ hk => hk.2) (.int .i64 t211)) (fun _ hk => trivial), YA HB⟩
         rw [if_neg c91] at H
         have c91b0 := eF c91
         have c91b1 := nT c91
         obtain ⟨t212, A117, H⟩ := bd H
         try dsimp only at H
         simp only [Option.some.injEq, Prod.mk.injEq] at H
         obtain ⟨rfl, rfl, rfl⟩ := H
         try go_wp2
         replace HO_8 := am (Kd.R_drew HO_8.out)
         obtain ⟨BK177, BK178, BK179, BK185, BK188, BK199, HB⟩ := dk6 BK177 BK178 BK179 BK185 BK188 BK199 HB
         refine start_ (n := 3) (S := fun w' => w'.cell? ⟨gb188, 0, none⟩ = some (.int .i64 t186) ∧ w'.cell? ⟨gb188, 1, none⟩ = some (.int .i64 t187)) (ds := []) (lb 3 0) (by kernel_rfl) rfl rfl ⟨bc BK188 0, bc BK188 1⟩ (fun hHeld => ?_)
         generalize wc.drew = w118 at HO_8 BK177 BK178 BK179 BK185 BK188 BK199 HB hHeld ⊢
         refine take_ (i := 0) (N := some 56) (v := ?_) (a' := ?_) (lb 3 1) rfl rfl (by kernel_rfl) (fun _ _ _ h => h) (Or.inl ⟨by rfl, ?_⟩) hHeld ?_ ?_
         rotate_left
         ·rintro w' ⟨s0, s1⟩
          go_simp
          with_reducible rfl
         rotate_left
         ·exact pz
         refine one_ (i := 1) (N := some 57) (lb 3 3) rfl rfl (by kernel_rfl) (by decide) (fun K hK => ?_)
         refine gq Try.func38 (spec_l8None.calls _ _ _ A85.out) fun w119 hb => ?_
         replace HO_8 := am (Kd.R_below (RZ HO_8) hb)
         obtain ⟨BK177, BK178, BK179, BK185, BK188, BK199, HB⟩ := bk6 BK177 BK178 BK179 BK185 BK188 BK199 HB hb
         clear hb
         refine kk hK ⟨bc BK188 0, bc BK188 1⟩ fun hHeld => ?_
         clear hK K
         refine pure_ (i := 2) (N := some 58) (v := ?_) (a' := ?_) (lb 3 7) rfl rfl (by kernel_rfl) (fun _ _ _ h => h) (Or.inl ⟨by rfl, ?_⟩) ?_ ?_
         rotate_left
         ·exact gz
         rotate_left
         ·exact pz
         refine done_ (by kernel_rfl) ?_
         try go_wp2
         replace HO_8 := am (Kd.R_drew HO_8.out)
         obtain ⟨BK177, BK178, BK179, BK185, BK188, BK199, HB⟩ := dk6 BK177 BK178 BK179 BK185 BK188 BK199 HB
         refine start_ (n := 9) (S := fun w' => w'.cell? ⟨gb199, 0, none⟩ = some (.int .i64 x200000_64) ∧ w'.cell? ⟨gb199, 1, none⟩ = some (.int .i64 x200001_64) ∧ w'.cell? ⟨gb177, 0, none⟩ = some (.int .i64 a1_0) ∧ w'.cell? ⟨gb177, 1, none⟩ = some (.int .i64 a1_1) ∧ w'.cell? ⟨gb188, 0, none⟩ = some (.int .i64 t186) ∧ w'.cell? ⟨gb188, 1, none⟩ = some (.int .i64 t187)) (ds := [8]) (lb 9 0) (by kernel_rfl) rfl rfl ⟨bc BK199 0, bc BK199 1, bc BK177 0, bc BK177 1, bc BK188 0, bc BK188 1⟩ (fun hHeld => ?_); refine with_tabW spec_l8Div.tab13 spec_l8Div.bits13 (fun HT_ HW_ => ?_)
         generalize w119.drew = w120 at HO_8 BK177 BK178 BK179 BK185 BK188 BK199 HB hHeld ⊢
         refine pk 2 61 4 ?_
         refine pk 4 63 20 ?_
         refine tk 0 59 21 hHeld ?_
         refine tk 1 60 23 hHeld ?_
         refine tk 3 62 31 hHeld ?_
         refine tk 5 64 63 hHeld ?_
         refine on 6 (some 65) 127 fun K hK => ?_
         refine gq Try.func89 (spec_l8Rem.calls _ _ _ _ _ _ _ _ A87.out) fun w121 hb => ?_
         replace HO_8 := am (Kd.R_below (RZ HO_8) hb)
         obtain ⟨BK177, BK178, BK179, BK185, BK188, BK199, HB⟩ := bk6 BK177 BK178 BK179 BK185 BK188 BK199 HB hb
         clear hb
         refine kk hK ⟨bc BK199 0, bc BK199 1, bc BK177 0, bc BK177 1, bc BK188 0, bc BK188 1⟩ fun hHeld => ?_
         clear hK K
         refine on 7 (some 66) 255 fun K hK => ?_
         refine gq Try.func25 (spec_RangeJoin.calls _ _ _ _ _ _ _ _ A88.out) fun w122 hb => ?_
         replace HO_8 := am (Kd.R_below (RZ HO_8) hb)
         obtain ⟨BK177, BK178, BK179, BK185, BK188, BK199, HB⟩ := bk6 BK177 BK178 BK179 BK185 BK188 BK199 HB hb
         clear hb
         refine kk hK ⟨bc BK199 0, bc BK199 1, bc BK177 0, bc BK177 1, bc BK188 0, bc BK188 1⟩ fun hHeld => ?_
         clear hK K
         refine last_ (i := 8) (N := none) (lb 9 511) rfl rfl ow (by decide) (fun K hK => ?_)
         have hs123 : w122.cell? ⟨gb199, 0, none⟩ = some (.int .i64 x200000_64) := bc BK199 0
         have hfs123 := blk_frozen BK199.out 0
         have hns123_0 := NB177_199.out
         have hns123_1 := NB178_199.out
         have hns123_2 := NB179_199.out
         have hns123_3 := NB185_199.out
         have hns123_4 := NB188_199.out
         have hms123_0 := NB199_177.out
         have hms123_1 := NB199_178.out
         have hms123_2 := NB199_179.out
         have hms123_3 := NB199_185.out
         have hms123_4 := NB199_188.out
         have hs124 : w122.cell? ⟨gb199, 1, none⟩ = some (.int .i64 x200001_64) := bc BK199 1
         have hfs124 := blk_frozen BK199.out 1
         have hns124_0 := NB177_199.out
         have hns124_1 := NB178_199.out
         have hns124_2 := NB179_199.out
         have hns124_3 := NB185_199.out
         have hns124_4 := NB188_199.out
         have hms124_0 := NB199_177.out
         have hms124_1 := NB199_178.out
         have hms124_2 := NB199_179.out
         have hms124_3 := NB199_185.out
         have hms124_4 := NB199_188.out
         refine skip_ (w1 := ?_) (by rfl) rfl ?_ ?_
         rotate_left
         ·go_simp
          rfl
         refine hK.out _ _ ?_
         clear hK K
         refine done_ (done_of HT_.out (by kernel_rfl)) ?_
         obtain ⟨hnb125,hnc125⟩ := nn NB177_178
         obtain ⟨hnb126,hnc126⟩ := nn NB177_179
         obtain ⟨hnb127,hnc127⟩ := nn NB177_185
         obtain ⟨hnb128,hnc128⟩ := nn NB177_188
         obtain ⟨hnb129,hnc129⟩ := nn NB177_199
         obtain ⟨hcz130_0,hcz130_1,hfz130_0,hfz130_1⟩ := cB2 BK177
         obtain ⟨hnb131,hnc131⟩ := nn NB178_179
         obtain ⟨hnb132,hnc132⟩ := nn NB178_185
         obtain ⟨hnb133,hnc133⟩ := nn NB178_188
         obtain ⟨hnb134,hnc134⟩ := nn NB178_199
         obtain ⟨hcz135_0,hcz135_1,hfz135_0,hfz135_1⟩ := cB2 BK178
         try go_wp2_with (first | ((with_reducible refine gate_callee (f := 63) rfl ?_); refine goesL_ (some 89) rfl rfl Try.func63 (by kernel_rfl) rfl #[.int .i64 a0, .int .i64 a1_0, .int .i64 a2_0] rfl mz ?_; (with_reducible refine (spec_l1Exact.calls _ _ _ _ _ _ A117.out).mono ?_); rintro e w' ⟨rfl, ⟨nd, rfl⟩⟩; refine ⟨_, rfl, ?_⟩; obtain ⟨hnb136,hnc136⟩ := nn NB199_179; obtain ⟨hnb137,hnc137⟩ := nn NB199_185; obtain ⟨hnb138,hnc138⟩ := nn NB199_188; obtain ⟨hcz139_0,hcz139_1,hfz139_0,hfz139_1⟩ := cB2 BK199; obtain ⟨hnb140,hnc140⟩ := nn NB179_185; obtain ⟨hnb141,hnc141⟩ := nn NB179_188; obtain ⟨hcz142_0,hcz142_1,hfz142_0,hfz142_1⟩ := cB2 BK179))
         refine bodyPost_ret (results_ct rfl _ _ gb179 24 #[.int .i64 t212, .int .i64 t212] (0, 0) _ rfl (by refine pf ?_; refine blk_put (cs := #[.int .i64 t212, .int .i64 0]) ?_ 1 _ rfl; refine pf ?_; refine blk_put (cs := #[.int .i64 0, .int .i64 0]) ?_ 0 _ rfl; refine fa NB179_199 ?_; refine fa NB179_199 ?_; refine fa NB179_199 ?_; refine fa NB179_199 ?_; exact Z BK179) Try.underlying24 rfl (by kernel_rfl)) rfl ?_
         exact ⟨_, ez, by (with_reducible repeat (first | apply Kd.R_alloc | apply Kd.R_drewN | apply Kd.R_drew)); exact Kd.R_mono (Kd.R_far (p := ⟨gb179, 1, none⟩) (Kd.R_far (p := ⟨gb179, 0, none⟩) (Kd.R_far (p := ⟨gb199, 1, none⟩) (Kd.R_far (p := ⟨gb199, 0, none⟩) (Kd.R_far (p := ⟨gb199, 1, none⟩) (Kd.R_far (p := ⟨gb199, 0, none⟩) (Kd.R_types (Kd.R_types HO_8.out BK199.out (by decide)) BK179.out (by decide)) (fun _ hk => hk.1.2) (.int .i64 t210)) (fun _ hk => hk.1.2) (.int .i64 t211)) (fun _ hk => hk.1.2) (.int .i64 t212)) (fun _ hk => hk.1.2) (.int .i64 t212)) (fun _ hk => hk.2) (.int .i64 t212)) (fun _ hk => hk.2) (.int .i64 t212)) (fun _ hk => trivial), YA HB⟩

end Go.Proofs.Ythbkakcchgnhpaa.PFnRangeFaults
