/- Written by this session's own driver (wip/dprint.py): the functions that the law FnRangeOne reaches, as Lean functions, each with its contract. -/
import Derived.Test.YthbkakcchgnhpaaPFnRangeOnex0
import Derived.Test.YthbkakcchgnhpaaPFnRangeOnex12
import Derived.Test.YthbkakcchgnhpaaSv
namespace Go.Proofs.Ythbkakcchgnhpaa.PFnRangeOne
open Go.RowKit Go.Proofs.YthbkakcchgnhpaaV.PrintWords Go.Proofs.YthbkakcchgnhpaaV.PrintLast Go.Proofs.YthbkakcchgnhpaaV.PrintMore Go.Proofs.YthbkakcchgnhpaaSv
attribute [local go_sem] max2_int min2_int max_two min_two max_three min_three max_four min_four   -- for this text's walks alone
set_option linter.unusedVariables false
set_option linter.unusedSimpArgs false

/-! ### spec_DrawNumDo: function 16 -/
mutual
def spec_DrawNumDo.j0 : Nat → Int → List Int → Int → Option (Int × Int × Int)
 | 0, _, _, _ => none
 | k + 1, x6, x344000, x344001 => (spec_l1Rd_num.f k x344000 x344001).bind fun bt350 => ((spec_l1Rd_num.f k x344000 bt350.2).bind fun bt352 => (if x6 = 9 then (spec_DrawNumDo.j1 k x6 bt350.1 bt352.1 true x344000 bt352.2) else (spec_DrawNumDo.j1 k x6 bt350.1 bt352.1 (x6 == 10) x344000 bt352.2)))
def spec_DrawNumDo.j1 : Nat → Int → Int → Int → Bool → List Int → Int → Option (Int × Int × Int)
 | 0, _, _, _, _, _, _ => none
 | k + 1, x6, x7, x8, x29, x344000, x344001 => if x29 = true then ((spec_l1Rd_pick.f k x344000 x344001 36).bind fun bt354 => (spec_DrawNumDo.j2 k x6 x7 (wrap64 (bt354.1 - 2)) x344000 bt354.2)) else (spec_DrawNumDo.j2 k x6 x7 x8 x344000 x344001)
def spec_DrawNumDo.j2 : Nat → Int → Int → Int → List Int → Int → Option (Int × Int × Int)
 | 0, _, _, _, _, _ => none
 | k + 1, x6, x7, x8, x344000, x344001 => (spec_l1Rd_pick.f k x344000 x344001 20).bind fun bt356 => (if bt356.1 = 0 then ((spec_l1Rd_wild.f k x344000 bt356.2).bind fun bt358 => (some (x6, bt358.1, x8))) else ((spec_l1Rd_pick.f k x344000 bt356.2 20).bind fun bt360 => (if bt360.1 = 0 then ((spec_l1Rd_wild.f k x344000 bt360.2).bind fun bt362 => (some (x6, x7, bt362.1))) else (some (x6, x7, x8)))))
end
def spec_DrawNumDo.f (k : Nat) (l0 : List Int) : Option (Int × Int × Int) := (spec_l1Open.f l0).bind fun bt341 => ((spec_l1Rd_pick.f k bt341.1 bt341.2 13).bind fun bt344 => ((spec_l1Rd_pick.f k bt341.1 bt344.2 30).bind fun bt346 => (if bt346.1 = 0 then ((spec_l1Rd_pick.f k bt341.1 bt346.2 16).bind fun bt348 => (spec_DrawNumDo.j0 k (wrap64 (bt348.1 - 1)) bt341.1 bt348.2)) else (spec_DrawNumDo.j0 k (wrap64 (1 + bt344.1)) bt341.1 bt346.2))))
theorem spec_DrawNumDo.mono_l : ∀ k, (∀ y0 y1 y2, LeO (spec_DrawNumDo.j0 k y0 y1 y2) (spec_DrawNumDo.j0 (k + 1) y0 y1 y2)) ∧ (∀ y0 y1 y2 y3 y4 y5, LeO (spec_DrawNumDo.j1 k y0 y1 y2 y3 y4 y5) (spec_DrawNumDo.j1 (k + 1) y0 y1 y2 y3 y4 y5)) ∧ (∀ y0 y1 y2 y3 y4, LeO (spec_DrawNumDo.j2 k y0 y1 y2 y3 y4) (spec_DrawNumDo.j2 (k + 1) y0 y1 y2 y3 y4))
 | 0 => ⟨fun _ _ _ r h => by simp [spec_DrawNumDo.j0] at h, fun _ _ _ _ _ _ r h => by simp [spec_DrawNumDo.j1] at h, fun _ _ _ _ _ r h => by simp [spec_DrawNumDo.j2] at h⟩
 | k + 1 => by
  obtain ⟨ih0, ih1, ih2⟩ := spec_DrawNumDo.mono_l k
  refine ⟨?_, ?_, ?_⟩
  ·intro y0 y1 y2
   unfold spec_DrawNumDo.j0
   repeat' first
   | (with_reducible exact ih0 _ _ _)
   | (with_reducible exact ih1 _ _ _ _ _ _)
   | (with_reducible exact ih2 _ _ _ _ _)
   | (with_reducible exact spec_l1Rd_num.mono _ _ _)
   | (with_reducible exact spec_l1Rd_pick.mono _ _ _ _)
   | (with_reducible exact spec_l1Rd_wild.mono _ _ _)
   | (with_reducible exact LeO.refl _)
   | (with_reducible exact LeO.none _)
   | (with_reducible refine LeO.ite ?_ ?_)
   | (with_reducible refine LeO.bind ?_ (fun _ => ?_))
   | exact ih0 _ _ _
   | exact ih1 _ _ _ _ _ _
   | exact ih2 _ _ _ _ _
   | exact spec_l1Rd_num.mono _ _ _
   | exact spec_l1Rd_pick.mono _ _ _ _
   | exact spec_l1Rd_wild.mono _ _ _
   | exact LeO.none _
   | refine LeO.ite ?_ ?_
   | refine LeO.bind ?_ (fun _ => ?_)
  ·intro y0 y1 y2 y3 y4 y5
   unfold spec_DrawNumDo.j1
   repeat' first
   | (with_reducible exact ih0 _ _ _)
   | (with_reducible exact ih1 _ _ _ _ _ _)
   | (with_reducible exact ih2 _ _ _ _ _)
   | (with_reducible exact spec_l1Rd_num.mono _ _ _)
   | (with_reducible exact spec_l1Rd_pick.mono _ _ _ _)
   | (with_reducible exact spec_l1Rd_wild.mono _ _ _)
   | (with_reducible exact LeO.refl _)
   | (with_reducible exact LeO.none _)
   | (with_reducible refine LeO.ite ?_ ?_)
   | (with_reducible refine LeO.bind ?_ (fun _ => ?_))
   | exact ih0 _ _ _
   | exact ih1 _ _ _ _ _ _
   | exact ih2 _ _ _ _ _
   | exact spec_l1Rd_num.mono _ _ _
   | exact spec_l1Rd_pick.mono _ _ _ _
   | exact spec_l1Rd_wild.mono _ _ _
   | exact LeO.none _
   | refine LeO.ite ?_ ?_
   | refine LeO.bind ?_ (fun _ => ?_)
  ·intro y0 y1 y2 y3 y4
   unfold spec_DrawNumDo.j2
   repeat' first
   | (with_reducible exact ih0 _ _ _)
   | (with_reducible exact ih1 _ _ _ _ _ _)
   | (with_reducible exact ih2 _ _ _ _ _)
   | (with_reducible exact spec_l1Rd_num.mono _ _ _)
   | (with_reducible exact spec_l1Rd_pick.mono _ _ _ _)
   | (with_reducible exact spec_l1Rd_wild.mono _ _ _)
   | (with_reducible exact LeO.refl _)
   | (with_reducible exact LeO.none _)
   | (with_reducible refine LeO.ite ?_ ?_)
   | (with_reducible refine LeO.bind ?_ (fun _ => ?_))
   | exact ih0 _ _ _
   | exact ih1 _ _ _ _ _ _
   | exact ih2 _ _ _ _ _
   | exact spec_l1Rd_num.mono _ _ _
   | exact spec_l1Rd_pick.mono _ _ _ _
   | exact spec_l1Rd_wild.mono _ _ _
   | exact LeO.none _
   | refine LeO.ite ?_ ?_
   | refine LeO.bind ?_ (fun _ => ?_)
theorem spec_DrawNumDo.mono : ∀ a0 k, LeO (spec_DrawNumDo.f k a0) (spec_DrawNumDo.f (k + 1) a0) := by
 intro a0 k
 obtain ⟨ih0, ih1, ih2⟩ := spec_DrawNumDo.mono_l k
 unfold spec_DrawNumDo.f
 repeat' first
   | (with_reducible exact ih0 _ _ _)
   | (with_reducible exact ih1 _ _ _ _ _ _)
   | (with_reducible exact ih2 _ _ _ _ _)
   | (with_reducible exact spec_l1Rd_num.mono _ _ _)
   | (with_reducible exact spec_l1Rd_pick.mono _ _ _ _)
   | (with_reducible exact spec_l1Rd_wild.mono _ _ _)
   | (with_reducible exact LeO.refl _)
   | (with_reducible exact LeO.none _)
   | (with_reducible refine LeO.ite ?_ ?_)
   | (with_reducible refine LeO.bind ?_ (fun _ => ?_))
   | exact ih0 _ _ _
   | exact ih1 _ _ _ _ _ _
   | exact ih2 _ _ _ _ _
   | exact spec_l1Rd_num.mono _ _ _
   | exact spec_l1Rd_pick.mono _ _ _ _
   | exact spec_l1Rd_wild.mono _ _ _
   | exact LeO.none _
   | refine LeO.ite ?_ ?_
   | refine LeO.bind ?_ (fun _ => ?_)
set_option maxHeartbeats 8000000 in
set_option maxRecDepth 100000 in
theorem spec_DrawNumDo.calls (k : Nat) (A0 : Option Addr) (c0 : Nat) (l0 : List Int) (r1 : Int) (r2 : Int) (r3 : Int) (w : World) (hr0 : Kd.C (Kd.int .u8) w A0 l0.length l0) (hc0 : l0.length ≤ c0) (h : spec_DrawNumDo.f k l0 = some (r1, r2, r3)) :
  Calls Try.prog 16 #[.slice A0 l0.length c0] w fun e w' => e = .returned (.tuple #[.int .i64 r1, .int .i64 r2, .int .i64 r3]) ∧ Below w.heap.size w w' := by
 have HR0 := am hr0
 have HC0 := am hc0
 clear hr0 hc0
 have HB := am (Below.refl w.heap.size w)
 have H : ((spec_l1Open.f l0).bind fun bt341 => ((spec_l1Rd_pick.f k bt341.1 bt341.2 13).bind fun bt344 => ((spec_l1Rd_pick.f k bt341.1 bt344.2 30).bind fun bt346 => (if bt346.1 = 0 then ((spec_l1Rd_pick.f k bt341.1 bt346.2 16).bind fun bt348 => (spec_DrawNumDo.j0 k (wrap64 (bt348.1 - 1)) bt341.1 bt348.2)) else (spec_DrawNumDo.j0 k (wrap64 (1 + bt344.1)) bt341.1 bt346.2))))) = some (r1, r2, r3) := h
 clear h
 replace H := Option.bind_eq_some_iff.mp H
 obtain ⟨⟨t341, t342⟩, A20, H⟩ := H
 replace H : ((spec_l1Rd_pick.f k t341 t342 13).bind fun bt344 => ((spec_l1Rd_pick.f k t341 bt344.2 30).bind fun bt346 => (if bt346.1 = 0 then ((spec_l1Rd_pick.f k t341 bt346.2 16).bind fun bt348 => (spec_DrawNumDo.j0 k (wrap64 (bt348.1 - 1)) t341 bt348.2)) else (spec_DrawNumDo.j0 k (wrap64 (1 + bt344.1)) t341 bt346.2)))) = some (r1, r2, r3) := H
 have A2 := am A20
 clear A20
 replace H := Option.bind_eq_some_iff.mp H
 obtain ⟨⟨t344, t345⟩, A30, H⟩ := H
 replace H : ((spec_l1Rd_pick.f k t341 t345 30).bind fun bt346 => (if bt346.1 = 0 then ((spec_l1Rd_pick.f k t341 bt346.2 16).bind fun bt348 => (spec_DrawNumDo.j0 k (wrap64 (bt348.1 - 1)) t341 bt348.2)) else (spec_DrawNumDo.j0 k (wrap64 (1 + t344)) t341 bt346.2))) = some (r1, r2, r3) := H
 have A3 := am A30
 clear A30
 replace H := Option.bind_eq_some_iff.mp H
 obtain ⟨⟨t346, t347⟩, A40, H⟩ := H
 replace H : (if t346 = 0 then ((spec_l1Rd_pick.f k t341 t347 16).bind fun bt348 => (spec_DrawNumDo.j0 k (wrap64 (bt348.1 - 1)) t341 bt348.2)) else (spec_DrawNumDo.j0 k (wrap64 (1 + t344)) t341 t347)) = some (r1, r2, r3) := H
 have A4 := am A40
 clear A40
 have HC5 := am H
 clear H
 go_enter Try.func16, Try.ntmps16
 go_upto_if 16 with (first | ((with_reducible refine gate_callee (f := 56) rfl ?_); refine goesL_ (some 10) rfl rfl Try.func56 (by kernel_rfl) rfl #[.slice A0 l0.length c0] rfl mz ?_; (with_reducible refine (spec_l1Open.calls _ _ l0 t341 t342 w _ ?side1 ?side2 ?side3 A2.out).mono ?_); (case side1 => repeat (first | (with_reducible first | exact HB.out | apply below_alloc | apply pw_below_drewN | apply below_drew1) | exact HB.out)); (case side2 => exact HR0.out); (case side3 => exact HC0.out); rintro e w6 ⟨g343, rfl, hi, hb, hb2⟩; refine ⟨_, rfl, ?_⟩; have HI343 := am (hi); replace HB := am (hb); (try clear hb); (try clear hb2); (try clear hk); (try clear hi)) | ((with_reducible refine gate_callee (f := 57) rfl ?_); refine goesL_ (some 12) rfl rfl Try.func57 (by kernel_rfl) rfl #[.pointer (some ⟨g343, 0, none⟩), .int .i64 13] rfl mz ?_; (with_reducible refine (spec_l1Rd_pick.calls k g343 t341 t342 13 t344 t345 w _ ?side1 ?side2 A3.out).mono ?_); (case side1 => repeat (first | (with_reducible first | exact HI343.out | apply IsS99.alloc | apply IsS99.drewN | apply IsS99.drew | apply IsS99.set_1) | exact HI343.out)); (case side2 => repeat (first | (with_reducible first | exact HB.out | apply below_alloc | apply pw_below_drewN | apply below_drew1 | refine below_set ?_ (IsS99.ge HI343.out)) | exact HB.out)); rintro e w7 ⟨rfl, hi, hb, hk⟩; refine ⟨_, rfl, ?_⟩; replace HB := am (hb); replace HI343 := am (hi); (try clear hb); (try clear hb2); (try clear hk); (try clear hi)) | ((with_reducible refine gate_callee (f := 57) rfl ?_); refine goesL_ (some 15) rfl rfl Try.func57 (by kernel_rfl) rfl #[.pointer (some ⟨g343, 0, none⟩), .int .i64 30] rfl mz ?_; (with_reducible refine (spec_l1Rd_pick.calls k g343 t341 t345 30 t346 t347 w _ ?side1 ?side2 A4.out).mono ?_); (case side1 => repeat (first | (with_reducible first | exact HI343.out | apply IsS99.alloc | apply IsS99.drewN | apply IsS99.drew | apply IsS99.set_1) | exact HI343.out)); (case side2 => repeat (first | (with_reducible first | exact HB.out | apply below_alloc | apply pw_below_drewN | apply below_drew1 | refine below_set ?_ (IsS99.ge HI343.out)) | exact HB.out)); rintro e w8 ⟨rfl, hi, hb, hk⟩; refine ⟨_, rfl, ?_⟩; replace HB := am (hb); replace HI343 := am (hi); (try clear hb); (try clear hb2); (try clear hk); (try clear hi)))
 (try simp only [Act.put, List.setIfInBounds_toArray, List.set_cons_zero, List.set_cons_succ])
 go_cut [6] (fun v6 wc => ∃ (kq : Nat) (x6_4 : Int) (x344001_4 : Int), v6 = .int .i64 x6_4 ∧ Aside0 (spec_DrawNumDo.j0 kq x6_4 t341 x344001_4 = some (r1, r2, r3)) ∧ Aside0 (kq ≤ k) ∧ Aside0 (IsS99 w wc g343 t341 x344001_4) ∧ Aside0 (Below w.heap.size w wc))
 case first =>
  have H := HC5.out
  clear HC5
  by_cases c9 : t346 = 0
  ·rw [if_pos c9] at H
   have c9b0 : (t346 == 0) = true := beq_iff_eq.mpr c9
   have c9b1 : (t346 != 0) = false := bne_eq_false_iff_eq.mpr c9
   clear c9
   (first | rw [c9b0] | (simp only [i64_w, i32_w]; rw [c9b0]) | skip)
   replace H := Option.bind_eq_some_iff.mp H
   obtain ⟨⟨t348, t349⟩, A100, H⟩ := H
   replace H : (spec_DrawNumDo.j0 k (wrap64 (t348 - 1)) t341 t349) = some (r1, r2, r3) := H
   have A10 := am A100
   clear A100
   have H' := am H
   clear H
   go_wp2_with (first | ((with_reducible refine gate_callee (f := 57) rfl ?_); refine goesL_ (some 18) rfl rfl Try.func57 (by kernel_rfl) rfl #[.pointer (some ⟨g343, 0, none⟩), .int .i64 16] rfl mz ?_; (with_reducible refine (spec_l1Rd_pick.calls k g343 t341 t347 16 t348 t349 w _ ?side1 ?side2 A10.out).mono ?_); (case side1 => repeat (first | (with_reducible first | exact HI343.out | apply IsS99.alloc | apply IsS99.drewN | apply IsS99.drew | apply IsS99.set_1) | exact HI343.out)); (case side2 => repeat (first | (with_reducible first | exact HB.out | apply below_alloc | apply pw_below_drewN | apply below_drew1 | refine below_set ?_ (IsS99.ge HI343.out)) | exact HB.out)); rintro e w11 ⟨rfl, hi, hb, hk⟩; refine ⟨_, rfl, ?_⟩; replace HB := am (hb); replace HI343 := am (hi); (try clear hb); (try clear hb2); (try clear hk); (try clear hi)))
   go_meet
   case rel => exact ⟨_, (wrap64 (t348 - 1)), (t349), (by first | rfl | (simp; done) | (simp [*]; done)), H', ⟨by first | omega | exact Nat.le_refl _⟩, ⟨by repeat (first | (with_reducible first | exact HI343.out | apply IsS99.alloc | apply IsS99.drewN | apply IsS99.drew | apply IsS99.set_1) | exact HI343.out)⟩, ⟨by repeat (first | (with_reducible first | exact HB.out | apply below_alloc | apply pw_below_drewN | apply below_drew1 | refine below_set ?_ (IsS99.ge HI343.out)) | exact HB.out)⟩⟩
  ·rw [if_neg c9] at H
   have c9b0 : (t346 == 0) = false := beq_eq_false_iff_ne.mpr c9
   have c9b1 : (t346 != 0) = true := bne_iff_ne.mpr c9
   (first | rw [c9b0] | (simp only [i64_w, i32_w]; rw [c9b0]) | skip)
   have H' := am H
   clear H
   go_wp2
   go_meet
   case rel => exact ⟨_, (wrap64 (1 + t344)), (t347), (by first | rfl | (simp; done) | (simp [*]; done)), H', ⟨by first | omega | exact Nat.le_refl _⟩, ⟨by repeat (first | (with_reducible first | exact HI343.out | apply IsS99.alloc | apply IsS99.drewN | apply IsS99.drew | apply IsS99.set_1) | exact HI343.out)⟩, ⟨by repeat (first | (with_reducible first | exact HB.out | apply below_alloc | apply pw_below_drewN | apply below_drew1 | refine below_set ?_ (IsS99.ge HI343.out)) | exact HB.out)⟩⟩
 case rest =>
  clear HC5
  try clear c1
  try clear p2
  try clear c5
  try clear p6
  try clear c9
  try clear c9b0
  try clear c9b1
  obtain ⟨kq, x6_4, x344001_4, rfl, HA, HJ4, HI343, HB⟩ := hcut
  cases kq with
  | zero => exact absurd HA.out (by simp [spec_DrawNumDo.j0])
  | succ kj4 =>
   have H := HA.out
   clear HA
   simp only [spec_DrawNumDo.j0] at H
   replace H := Option.bind_eq_some_iff.mp H
   obtain ⟨⟨t350, t351⟩, A120, H⟩ := H
   replace H : ((spec_l1Rd_num.f kj4 t341 t351).bind fun bt352 => (if x6_4 = 9 then (spec_DrawNumDo.j1 kj4 x6_4 t350 bt352.1 true t341 bt352.2) else (spec_DrawNumDo.j1 kj4 x6_4 t350 bt352.1 (x6_4 == 10) t341 bt352.2))) = some (r1, r2, r3) := H
   have A12 := am A120
   clear A120
   replace H := Option.bind_eq_some_iff.mp H
   obtain ⟨⟨t352, t353⟩, A130, H⟩ := H
   replace H : (if x6_4 = 9 then (spec_DrawNumDo.j1 kj4 x6_4 t350 t352 true t341 t353) else (spec_DrawNumDo.j1 kj4 x6_4 t350 t352 (x6_4 == 10) t341 t353)) = some (r1, r2, r3) := H
   have A13 := am A130
   clear A130
   have HC14 := am H
   clear H
   go_upto_region 7 with (first | ((with_reducible refine gate_callee (f := 58) rfl ?_); refine goesL_ (some 21) rfl rfl Try.func58 (by kernel_rfl) rfl #[.pointer (some ⟨g343, 0, none⟩)] rfl mz ?_; (with_reducible refine (spec_l1Rd_num.calls kj4 g343 t341 x344001_4 t350 t351 w _ ?side1 ?side2 A12.out).mono ?_); (case side1 => repeat (first | (with_reducible first | exact HI343.out | apply IsS99.alloc | apply IsS99.drewN | apply IsS99.drew | apply IsS99.set_1) | exact HI343.out)); (case side2 => repeat (first | (with_reducible first | exact HB.out | apply below_alloc | apply pw_below_drewN | apply below_drew1 | refine below_set ?_ (IsS99.ge HI343.out)) | exact HB.out)); rintro e w15 ⟨rfl, hi, hb, hk⟩; refine ⟨_, rfl, ?_⟩; replace HB := am (hb); replace HI343 := am (hi); (try clear hb); (try clear hb2); (try clear hk); (try clear hi)) | ((with_reducible refine gate_callee (f := 58) rfl ?_); refine goesL_ (some 23) rfl rfl Try.func58 (by kernel_rfl) rfl #[.pointer (some ⟨g343, 0, none⟩)] rfl mz ?_; (with_reducible refine (spec_l1Rd_num.calls kj4 g343 t341 t351 t352 t353 w _ ?side1 ?side2 A13.out).mono ?_); (case side1 => repeat (first | (with_reducible first | exact HI343.out | apply IsS99.alloc | apply IsS99.drewN | apply IsS99.drew | apply IsS99.set_1) | exact HI343.out)); (case side2 => repeat (first | (with_reducible first | exact HB.out | apply below_alloc | apply pw_below_drewN | apply below_drew1 | refine below_set ?_ (IsS99.ge HI343.out)) | exact HB.out)); rintro e w16 ⟨rfl, hi, hb, hk⟩; refine ⟨_, rfl, ?_⟩; replace HB := am (hb); replace HI343 := am (hi); (try clear hb); (try clear hb2); (try clear hk); (try clear hi)))
   (try simp only [Act.put, List.setIfInBounds_toArray, List.set_cons_zero, List.set_cons_succ])
   go_cut [29] (fun v29 wc => ∃ (kq : Nat) (x29_13 : Bool), v29 = .bool x29_13 ∧ Aside0 (spec_DrawNumDo.j1 kq x6_4 t350 t352 x29_13 t341 t353 = some (r1, r2, r3)) ∧ Aside0 (kq ≤ kj4) ∧ Aside0 (IsS99 w wc g343 t341 t353) ∧ Aside0 (Below w.heap.size w wc))
   case first =>
    have H := HC14.out
    clear HC14
    by_cases c17 : x6_4 = 9
    ·rw [if_pos c17] at H
     have c17b0 : (x6_4 == 9) = true := beq_iff_eq.mpr c17
     have c17b1 : (x6_4 != 9) = false := bne_eq_false_iff_eq.mpr c17
     clear c17
     (first | rw [c17b0] | (simp only [i64_w, i32_w]; rw [c17b0]) | skip)
     have H' := am H
     clear H
     go_wp2
     go_meet
     case rel => exact ⟨_, (true), (by first | rfl | (simp; done) | (simp [*]; done)), H', ⟨by have := HJ4.out; first | omega | exact Nat.le_refl _⟩, ⟨by repeat (first | (with_reducible first | exact HI343.out | apply IsS99.alloc | apply IsS99.drewN | apply IsS99.drew | apply IsS99.set_1) | exact HI343.out)⟩, ⟨by repeat (first | (with_reducible first | exact HB.out | apply below_alloc | apply pw_below_drewN | apply below_drew1 | refine below_set ?_ (IsS99.ge HI343.out)) | exact HB.out)⟩⟩
    ·rw [if_neg c17] at H
     have c17b0 : (x6_4 == 9) = false := beq_eq_false_iff_ne.mpr c17
     have c17b1 : (x6_4 != 9) = true := bne_iff_ne.mpr c17
     (first | rw [c17b0] | (simp only [i64_w, i32_w]; rw [c17b0]) | skip)
     have H' := am H
     clear H
     go_wp2
     go_meet
     case rel => exact ⟨_, ((x6_4 == 10)), (by first | rfl | (simp; done) | (simp [*]; done)), H', ⟨by have := HJ4.out; first | omega | exact Nat.le_refl _⟩, ⟨by repeat (first | (with_reducible first | exact HI343.out | apply IsS99.alloc | apply IsS99.drewN | apply IsS99.drew | apply IsS99.set_1) | exact HI343.out)⟩, ⟨by repeat (first | (with_reducible first | exact HB.out | apply below_alloc | apply pw_below_drewN | apply below_drew1 | refine below_set ?_ (IsS99.ge HI343.out)) | exact HB.out)⟩⟩
   case rest =>
    clear HC14
    try clear c1
    try clear p2
    try clear c5
    try clear p6
    try clear c9
    try clear c9b0
    try clear c9b1
    try clear c16
    try clear c17
    try clear c17b0
    try clear c17b1
    try clear p2
    try clear p6
    obtain ⟨kq, x29_13, rfl, HA, HJ13, HI343, HB⟩ := hcut
    cases kq with
    | zero => exact absurd HA.out (by simp [spec_DrawNumDo.j1])
    | succ kj13 =>
     have H := HA.out
     clear HA
     simp only [spec_DrawNumDo.j1] at H
     have HC18 := am H
     clear H
     go_upto_if 29 with (fail)
     go_cut [8] (fun v8 wc => ∃ (kq : Nat) (x8_17 : Int) (x344001_17 : Int), v8 = .int .i64 x8_17 ∧ Aside0 (spec_DrawNumDo.j2 kq x6_4 t350 x8_17 t341 x344001_17 = some (r1, r2, r3)) ∧ Aside0 (kq ≤ kj13) ∧ Aside0 (IsS99 w wc g343 t341 x344001_17) ∧ Aside0 (Below w.heap.size w wc))
     case first =>
      have H := HC18.out
      clear HC18
      by_cases c19 : x29_13 = true
      ·subst c19
       have H1 : ((spec_l1Rd_pick.f kj13 t341 t353 36).bind fun bt354 => (spec_DrawNumDo.j2 kj13 x6_4 t350 (wrap64 (bt354.1 - 2)) t341 bt354.2)) = some (r1, r2, r3) := by rw [if_pos rfl] at H; exact H
       clear H
       have H := H1
       clear H1
       replace H := Option.bind_eq_some_iff.mp H
       obtain ⟨⟨t354, t355⟩, A200, H⟩ := H
       replace H : (spec_DrawNumDo.j2 kj13 x6_4 t350 (wrap64 (t354 - 2)) t341 t355) = some (r1, r2, r3) := H
       have A20 := am A200
       clear A200
       have H' := am H
       clear H
       go_wp2_with (first | ((with_reducible refine gate_callee (f := 57) rfl ?_); refine goesL_ (some 31) rfl rfl Try.func57 (by kernel_rfl) rfl #[.pointer (some ⟨g343, 0, none⟩), .int .i64 36] rfl mz ?_; (with_reducible refine (spec_l1Rd_pick.calls kj13 g343 t341 t353 36 t354 t355 w _ ?side1 ?side2 A20.out).mono ?_); (case side1 => repeat (first | (with_reducible first | exact HI343.out | apply IsS99.alloc | apply IsS99.drewN | apply IsS99.drew | apply IsS99.set_1) | exact HI343.out)); (case side2 => repeat (first | (with_reducible first | exact HB.out | apply below_alloc | apply pw_below_drewN | apply below_drew1 | refine below_set ?_ (IsS99.ge HI343.out)) | exact HB.out)); rintro e w21 ⟨rfl, hi, hb, hk⟩; refine ⟨_, rfl, ?_⟩; replace HB := am (hb); replace HI343 := am (hi); (try clear hb); (try clear hb2); (try clear hk); (try clear hi)))
       go_meet
       case rel => exact ⟨_, (wrap64 (t354 - 2)), (t355), (by first | rfl | (simp; done) | (simp [*]; done)), H', ⟨by have := HJ4.out; have := HJ13.out; first | omega | exact Nat.le_refl _⟩, ⟨by repeat (first | (with_reducible first | exact HI343.out | apply IsS99.alloc | apply IsS99.drewN | apply IsS99.drew | apply IsS99.set_1) | exact HI343.out)⟩, ⟨by repeat (first | (with_reducible first | exact HB.out | apply below_alloc | apply pw_below_drewN | apply below_drew1 | refine below_set ?_ (IsS99.ge HI343.out)) | exact HB.out)⟩⟩
      ·replace c19 := Bool.eq_false_iff.mpr c19
       subst c19
       have H1 : (spec_DrawNumDo.j2 kj13 x6_4 t350 t352 t341 t353) = some (r1, r2, r3) := by rw [if_neg (show ¬ (false = true) by decide)] at H; exact H
       clear H
       have H := H1
       clear H1
       have H' := am H
       clear H
       go_wp2
       go_meet
       case rel => exact ⟨_, (t352), (t353), (by first | rfl | (simp; done) | (simp [*]; done)), H', ⟨by have := HJ4.out; have := HJ13.out; first | omega | exact Nat.le_refl _⟩, ⟨by repeat (first | (with_reducible first | exact HI343.out | apply IsS99.alloc | apply IsS99.drewN | apply IsS99.drew | apply IsS99.set_1) | exact HI343.out)⟩, ⟨by repeat (first | (with_reducible first | exact HB.out | apply below_alloc | apply pw_below_drewN | apply below_drew1 | refine below_set ?_ (IsS99.ge HI343.out)) | exact HB.out)⟩⟩
     case rest =>
      clear HC18
      try clear c1
      try clear p2
      try clear c5
      try clear p6
      try clear c9
      try clear c9b0
      try clear c9b1
      try clear c16
      try clear c17
      try clear c17b0
      try clear c17b1
      try clear c19
      try clear p2
      try clear p6
      obtain ⟨kq, x8_17, x344001_17, rfl, HA, HJ17, HI343, HB⟩ := hcut
      cases kq with
      | zero => exact absurd HA.out (by simp [spec_DrawNumDo.j2])
      | succ kj17 =>
       have H := HA.out
       clear HA
       simp only [spec_DrawNumDo.j2] at H
       replace H := Option.bind_eq_some_iff.mp H
       obtain ⟨⟨t356, t357⟩, A220, H⟩ := H
       replace H : (if t356 = 0 then ((spec_l1Rd_wild.f kj17 t341 t357).bind fun bt358 => (some (x6_4, bt358.1, x8_17))) else ((spec_l1Rd_pick.f kj17 t341 t357 20).bind fun bt360 => (if bt360.1 = 0 then ((spec_l1Rd_wild.f kj17 t341 bt360.2).bind fun bt362 => (some (x6_4, t350, bt362.1))) else (some (x6_4, t350, x8_17))))) = some (r1, r2, r3) := H
       have A22 := am A220
       clear A220
       by_cases c23 : t356 = 0
       ·rw [if_pos c23] at H
        have c23b0 : (t356 == 0) = true := beq_iff_eq.mpr c23
        have c23b1 : (t356 != 0) = false := bne_eq_false_iff_eq.mpr c23
        clear c23
        replace H := Option.bind_eq_some_iff.mp H
        obtain ⟨⟨t358, t359⟩, A240, H⟩ := H
        replace H : (some (x6_4, t358, x8_17)) = some (r1, r2, r3) := H
        have A24 := am A240
        clear A240
        simp only [Option.some.injEq, Prod.mk.injEq] at H
        obtain ⟨rfl, rfl, rfl⟩ := H
        go_wp2_with (first | ((with_reducible refine gate_callee (f := 57) rfl ?_); refine goesL_ (some 34) rfl rfl Try.func57 (by kernel_rfl) rfl #[.pointer (some ⟨g343, 0, none⟩), .int .i64 20] rfl mz ?_; (with_reducible refine (spec_l1Rd_pick.calls kj17 g343 t341 x344001_17 20 t356 t357 w _ ?side1 ?side2 A22.out).mono ?_); (case side1 => repeat (first | (with_reducible first | exact HI343.out | apply IsS99.alloc | apply IsS99.drewN | apply IsS99.drew | apply IsS99.set_1) | exact HI343.out)); (case side2 => repeat (first | (with_reducible first | exact HB.out | apply below_alloc | apply pw_below_drewN | apply below_drew1 | refine below_set ?_ (IsS99.ge HI343.out)) | exact HB.out)); rintro e w25 ⟨rfl, hi, hb, hk⟩; refine ⟨_, rfl, ?_⟩; replace HB := am (hb); replace HI343 := am (hi); (try clear hb); (try clear hb2); (try clear hk); (try clear hi)) | ((with_reducible refine gate_callee (f := 59) rfl ?_); refine goesL_ (some 38) rfl rfl Try.func59 (by kernel_rfl) rfl #[.pointer (some ⟨g343, 0, none⟩)] rfl mz ?_; (with_reducible refine (spec_l1Rd_wild.calls kj17 g343 t341 t357 t358 t359 w _ ?side1 ?side2 A24.out).mono ?_); (case side1 => repeat (first | (with_reducible first | exact HI343.out | apply IsS99.alloc | apply IsS99.drewN | apply IsS99.drew | apply IsS99.set_1) | exact HI343.out)); (case side2 => repeat (first | (with_reducible first | exact HB.out | apply below_alloc | apply pw_below_drewN | apply below_drew1 | refine below_set ?_ (IsS99.ge HI343.out)) | exact HB.out)); rintro e w26 ⟨rfl, hi, hb, hk⟩; refine ⟨_, rfl, ?_⟩; replace HB := am (hb); replace HI343 := am (hi); (try clear hb); (try clear hb2); (try clear hk); (try clear hi)))
        go_ret3
        exact ⟨by first | rfl | (simp [errW_none, errW_some] <;> rfl) | (simp [*, errW_none, errW_some] <;> rfl), by repeat (first | (with_reducible first | exact HB.out | apply below_alloc | apply pw_below_drewN | apply below_drew1 | refine below_set ?_ (IsS99.ge HI343.out)) | exact HB.out)⟩
       ·rw [if_neg c23] at H
        have c23b0 : (t356 == 0) = false := beq_eq_false_iff_ne.mpr c23
        have c23b1 : (t356 != 0) = true := bne_iff_ne.mpr c23
        replace H := Option.bind_eq_some_iff.mp H
        obtain ⟨⟨t360, t361⟩, A270, H⟩ := H
        replace H : (if t360 = 0 then ((spec_l1Rd_wild.f kj17 t341 t361).bind fun bt362 => (some (x6_4, t350, bt362.1))) else (some (x6_4, t350, x8_17))) = some (r1, r2, r3) := H
        have A27 := am A270
        clear A270
        by_cases c28 : t360 = 0
        ·rw [if_pos c28] at H
         have c28b0 : (t360 == 0) = true := beq_iff_eq.mpr c28
         have c28b1 : (t360 != 0) = false := bne_eq_false_iff_eq.mpr c28
         clear c28
         replace H := Option.bind_eq_some_iff.mp H
         obtain ⟨⟨t362, t363⟩, A290, H⟩ := H
         replace H : (some (x6_4, t350, t362)) = some (r1, r2, r3) := H
         have A29 := am A290
         clear A290
         simp only [Option.some.injEq, Prod.mk.injEq] at H
         obtain ⟨rfl, rfl, rfl⟩ := H
         go_wp2_with (first | ((with_reducible refine gate_callee (f := 57) rfl ?_); refine goesL_ (some 34) rfl rfl Try.func57 (by kernel_rfl) rfl #[.pointer (some ⟨g343, 0, none⟩), .int .i64 20] rfl mz ?_; (with_reducible refine (spec_l1Rd_pick.calls kj17 g343 t341 x344001_17 20 t356 t357 w _ ?side1 ?side2 A22.out).mono ?_); (case side1 => repeat (first | (with_reducible first | exact HI343.out | apply IsS99.alloc | apply IsS99.drewN | apply IsS99.drew | apply IsS99.set_1) | exact HI343.out)); (case side2 => repeat (first | (with_reducible first | exact HB.out | apply below_alloc | apply pw_below_drewN | apply below_drew1 | refine below_set ?_ (IsS99.ge HI343.out)) | exact HB.out)); rintro e w30 ⟨rfl, hi, hb, hk⟩; refine ⟨_, rfl, ?_⟩; replace HB := am (hb); replace HI343 := am (hi); (try clear hb); (try clear hb2); (try clear hk); (try clear hi)) | ((with_reducible refine gate_callee (f := 57) rfl ?_); refine goesL_ (some 41) rfl rfl Try.func57 (by kernel_rfl) rfl #[.pointer (some ⟨g343, 0, none⟩), .int .i64 20] rfl mz ?_; (with_reducible refine (spec_l1Rd_pick.calls kj17 g343 t341 t357 20 t360 t361 w _ ?side1 ?side2 A27.out).mono ?_); (case side1 => repeat (first | (with_reducible first | exact HI343.out | apply IsS99.alloc | apply IsS99.drewN | apply IsS99.drew | apply IsS99.set_1) | exact HI343.out)); (case side2 => repeat (first | (with_reducible first | exact HB.out | apply below_alloc | apply pw_below_drewN | apply below_drew1 | refine below_set ?_ (IsS99.ge HI343.out)) | exact HB.out)); rintro e w31 ⟨rfl, hi, hb, hk⟩; refine ⟨_, rfl, ?_⟩; replace HB := am (hb); replace HI343 := am (hi); (try clear hb); (try clear hb2); (try clear hk); (try clear hi)) | ((with_reducible refine gate_callee (f := 59) rfl ?_); refine goesL_ (some 46) rfl rfl Try.func59 (by kernel_rfl) rfl #[.pointer (some ⟨g343, 0, none⟩)] rfl mz ?_; (with_reducible refine (spec_l1Rd_wild.calls kj17 g343 t341 t361 t362 t363 w _ ?side1 ?side2 A29.out).mono ?_); (case side1 => repeat (first | (with_reducible first | exact HI343.out | apply IsS99.alloc | apply IsS99.drewN | apply IsS99.drew | apply IsS99.set_1) | exact HI343.out)); (case side2 => repeat (first | (with_reducible first | exact HB.out | apply below_alloc | apply pw_below_drewN | apply below_drew1 | refine below_set ?_ (IsS99.ge HI343.out)) | exact HB.out)); rintro e w32 ⟨rfl, hi, hb, hk⟩; refine ⟨_, rfl, ?_⟩; replace HB := am (hb); replace HI343 := am (hi); (try clear hb); (try clear hb2); (try clear hk); (try clear hi)))
         go_ret3
         exact ⟨by first | rfl | (simp [errW_none, errW_some] <;> rfl) | (simp [*, errW_none, errW_some] <;> rfl), by repeat (first | (with_reducible first | exact HB.out | apply below_alloc | apply pw_below_drewN | apply below_drew1 | refine below_set ?_ (IsS99.ge HI343.out)) | exact HB.out)⟩
        ·rw [if_neg c28] at H
         have c28b0 : (t360 == 0) = false := beq_eq_false_iff_ne.mpr c28
         have c28b1 : (t360 != 0) = true := bne_iff_ne.mpr c28
         simp only [Option.some.injEq, Prod.mk.injEq] at H
         obtain ⟨rfl, rfl, rfl⟩ := H
         go_wp2_with (first | ((with_reducible refine gate_callee (f := 57) rfl ?_); refine goesL_ (some 34) rfl rfl Try.func57 (by kernel_rfl) rfl #[.pointer (some ⟨g343, 0, none⟩), .int .i64 20] rfl mz ?_; (with_reducible refine (spec_l1Rd_pick.calls kj17 g343 t341 x344001_17 20 t356 t357 w _ ?side1 ?side2 A22.out).mono ?_); (case side1 => repeat (first | (with_reducible first | exact HI343.out | apply IsS99.alloc | apply IsS99.drewN | apply IsS99.drew | apply IsS99.set_1) | exact HI343.out)); (case side2 => repeat (first | (with_reducible first | exact HB.out | apply below_alloc | apply pw_below_drewN | apply below_drew1 | refine below_set ?_ (IsS99.ge HI343.out)) | exact HB.out)); rintro e w33 ⟨rfl, hi, hb, hk⟩; refine ⟨_, rfl, ?_⟩; replace HB := am (hb); replace HI343 := am (hi); (try clear hb); (try clear hb2); (try clear hk); (try clear hi)) | ((with_reducible refine gate_callee (f := 57) rfl ?_); refine goesL_ (some 41) rfl rfl Try.func57 (by kernel_rfl) rfl #[.pointer (some ⟨g343, 0, none⟩), .int .i64 20] rfl mz ?_; (with_reducible refine (spec_l1Rd_pick.calls kj17 g343 t341 t357 20 t360 t361 w _ ?side1 ?side2 A27.out).mono ?_); (case side1 => repeat (first | (with_reducible first | exact HI343.out | apply IsS99.alloc | apply IsS99.drewN | apply IsS99.drew | apply IsS99.set_1) | exact HI343.out)); (case side2 => repeat (first | (with_reducible first | exact HB.out | apply below_alloc | apply pw_below_drewN | apply below_drew1 | refine below_set ?_ (IsS99.ge HI343.out)) | exact HB.out)); rintro e w34 ⟨rfl, hi, hb, hk⟩; refine ⟨_, rfl, ?_⟩; replace HB := am (hb); replace HI343 := am (hi); (try clear hb); (try clear hb2); (try clear hk); (try clear hi)))
         go_ret3
         exact ⟨by first | rfl | (simp [errW_none, errW_some] <;> rfl) | (simp [*, errW_none, errW_some] <;> rfl), by repeat (first | (with_reducible first | exact HB.out | apply below_alloc | apply pw_below_drewN | apply below_drew1 | refine below_set ?_ (IsS99.ge HI343.out)) | exact HB.out)⟩

end Go.Proofs.Ythbkakcchgnhpaa.PFnRangeOne
