/- Written by this session's own driver (wip/dprint.py): the functions that the law FnLexBack reaches, as Lean functions, each with its contract. -/
import Derived.Test.YtnbpgnkplahknaaDoorPFnLexBackx0
import Derived.Test.YtnbpgnkplahknaaDoorPFnLexBackx1
import Derived.Test.YtnbpgnkplahknaaDoorPFnLexBackx4
import Derived.Test.YtnbpgnkplahknaaDoorPFnLexBackx7
import Derived.Test.YtnbpgnkplahknaaDoorPFnLexBackx8
import Derived.Test.YtnbpgnkplahknaaDoorPFnLexBackx9
import Derived.Test.YtnbpgnkplahknaaDoorPFnLexBackx10
import Derived.Test.YtnbpgnkplahknaaDoorSq
namespace Go.Proofs.YtnbpgnkplahknaaDoor.PFnLexBack
open Go.RowKit Go.Proofs.YtnbpgnkplahknaaDoorW.PrintWords Go.Proofs.YtnbpgnkplahknaaDoorW.PrintLast Go.Proofs.YtnbpgnkplahknaaDoorW.PrintMore Go.Proofs.YtnbpgnkplahknaaDoorSq
attribute [local go_sem] max2_int min2_int max_two min_two max_three min_three max_four min_four   -- for this text's walks alone
set_option linter.unusedVariables false
set_option linter.unusedSimpArgs false

attribute [local go_sem high] eqA26
/-! ### spec_DrawLexTokens: function 20 -/
attribute [local go_sem] Go.Proofs.YtnbpgnkplahknaaDoorSet.isSome_setCell
def spec_DrawLexTokens.f (k : Nat) (l0 : List Int) : Option (ByteArray) := (spec_l1Open.f l0).bind fun bt263 => ((spec_l1Rd_pick.f k bt263.1 bt263.2 40).bind fun bt266 => (if bt266.1 = 0 then ((spec_l1Rd_pick.f k bt263.1 bt266.2 2).bind fun bt268 => ((spec_l1Many.f k (⟨#[59]⟩ : ByteArray) (wrap64 (700 + bt268.1))).bind fun t270 => (some t270))) else (if bt266.1 = 1 then ((spec_l1Rd_pick.f k bt263.1 bt266.2 2).bind fun bt271 => ((spec_l1Many.f k (⟨#[32]⟩ : ByteArray) (wrap64 (3000 + bt271.1))).bind fun t273 => (some t273))) else ((spec_l2Text.f k bt263.1 bt266.2).bind fun bt274 => (some bt274.1)))))
theorem spec_DrawLexTokens.mono : ∀ a0 k, LeO (spec_DrawLexTokens.f k a0) (spec_DrawLexTokens.f (k + 1) a0) := by
 intro a0 k
 unfold spec_DrawLexTokens.f
 repeat' first | (with_reducible first | apply spec_l1Many.mono | apply spec_l1Rd_pick.mono | apply spec_l2Text.mono | apply LeO.refl | apply LeO.none | refine LeO.ite ?_ ?_ | refine LeO.bind ?_ (fun _ => ?_)) | apply spec_l1Many.mono | apply spec_l1Rd_pick.mono | apply spec_l2Text.mono | apply LeO.none | refine LeO.ite ?_ ?_ | refine LeO.bind ?_ (fun _ => ?_)
set_option maxHeartbeats 8000000 in
set_option maxRecDepth 100000 in
theorem spec_DrawLexTokens.calls (k : Nat) (A0 : Option Addr) (c0 : Nat) (l0 : List Int) (r : ByteArray) (w : World) (hr0 : Kd.C (Kd.int .u8) w A0 l0.length l0) (hc0 : l0.length ≤ c0) (h : spec_DrawLexTokens.f k l0 = some r) :
  Calls Tryd.prog 20 #[.slice A0 l0.length c0] w fun e w' => e = .returned (.string r) ∧ Below w.heap.size w w' := by
 have HR0 := am hr0
 have HC0 := am hc0
 clear hr0 hc0
 have HB := am (Below.refl w.heap.size w)
 have H : ((spec_l1Open.f l0).bind fun bt263 => ((spec_l1Rd_pick.f k bt263.1 bt263.2 40).bind fun bt266 => (if bt266.1 = 0 then ((spec_l1Rd_pick.f k bt263.1 bt266.2 2).bind fun bt268 => ((spec_l1Many.f k (⟨#[59]⟩ : ByteArray) (wrap64 (700 + bt268.1))).bind fun t270 => (some t270))) else (if bt266.1 = 1 then ((spec_l1Rd_pick.f k bt263.1 bt266.2 2).bind fun bt271 => ((spec_l1Many.f k (⟨#[32]⟩ : ByteArray) (wrap64 (3000 + bt271.1))).bind fun t273 => (some t273))) else ((spec_l2Text.f k bt263.1 bt266.2).bind fun bt274 => (some bt274.1)))))) = some r := h
 clear h
 replace H := Option.bind_eq_some_iff.mp H
 obtain ⟨⟨t263, t264⟩, A20, H⟩ := H
 try dsimp only at H
 have A2 := am A20
 clear A20
 replace H := Option.bind_eq_some_iff.mp H
 obtain ⟨⟨t266, t267⟩, A30, H⟩ := H
 try dsimp only at H
 have A3 := am A30
 clear A30
 by_cases c4 : t266 = 0
 ·rw [if_pos c4] at H
  have c4b0 := eT c4
  have c4b1 := nF c4
  clear c4
  replace H := Option.bind_eq_some_iff.mp H
  obtain ⟨⟨t268, t269⟩, A50, H⟩ := H
  try dsimp only at H
  have A5 := am A50
  clear A50
  replace H := Option.bind_eq_some_iff.mp H
  obtain ⟨t270, A60, H⟩ := H
  try dsimp only at H
  have A6 := am A60
  clear A60
  obtain rfl := Option.some.inj H
  go_enter Tryd.func20, Tryd.ntmps20
  go_wp2_with (first | ((with_reducible refine gate_callee (f := 33) rfl ?_); refine goesL_ (some 6) rfl rfl Tryd.func33 (by kernel_rfl) rfl #[.slice A0 l0.length c0] rfl mz ?_; (with_reducible refine (spec_l1Open.calls _ _ l0 t263 t264 w _ ?side1 ?side2 ?side3 A2.out).mono ?_); (case side1 => repeat (first | (with_reducible first | exact HB.out | apply below_alloc | apply pw_below_drewN | apply below_drew1) | exact HB.out)); (case side2 => exact HR0.out); (case side3 => exact HC0.out); rintro e w7 ⟨g265, rfl, hi, hb, hb2⟩; refine ⟨_, rfl, ?_⟩; have HI265 := am (hi); replace HB := am (hb); (try clear hb)) | ((with_reducible refine gate_callee (f := 34) rfl ?_); refine goesL_ (some 8) rfl rfl Tryd.func34 (by kernel_rfl) rfl #[.pointer (some ⟨g265, 0, none⟩), .int .i64 40] rfl mz ?_; (with_reducible refine (spec_l1Rd_pick.calls k g265 t263 t264 40 t266 t267 w _ ?side1 ?side2 A3.out).mono ?_); (case side1 => repeat (first | (with_reducible first | exact HI265.out | apply IsS78.alloc | apply IsS78.drewN | apply IsS78.drew | apply IsS78.set_1) | exact HI265.out)); (case side2 => repeat (first | (with_reducible first | exact HB.out | apply below_alloc | apply pw_below_drewN | apply below_drew1 | refine below_set ?_ (IsS78.ge HI265.out)) | exact HB.out)); rintro e w8 ⟨rfl, hi, hb, hk⟩; refine ⟨_, rfl, ?_⟩; replace HB := am (hb); replace HI265 := am (hi); (try clear hb)) | ((with_reducible refine gate_callee (f := 34) rfl ?_); refine goesL_ (some 12) rfl rfl Tryd.func34 (by kernel_rfl) rfl #[.pointer (some ⟨g265, 0, none⟩), .int .i64 2] rfl mz ?_; (with_reducible refine (spec_l1Rd_pick.calls k g265 t263 t267 2 t268 t269 w _ ?side1 ?side2 A5.out).mono ?_); (case side1 => repeat (first | (with_reducible first | exact HI265.out | apply IsS78.alloc | apply IsS78.drewN | apply IsS78.drew | apply IsS78.set_1) | exact HI265.out)); (case side2 => repeat (first | (with_reducible first | exact HB.out | apply below_alloc | apply pw_below_drewN | apply below_drew1 | refine below_set ?_ (IsS78.ge HI265.out)) | exact HB.out)); rintro e w9 ⟨rfl, hi, hb, hk⟩; refine ⟨_, rfl, ?_⟩; replace HB := am (hb); replace HI265 := am (hi); (try clear hb)) | ((with_reducible refine gate_callee (f := 35) rfl ?_); refine goesL_ (some 14) rfl rfl Tryd.func35 (by kernel_rfl) rfl #[.string (⟨#[59]⟩ : ByteArray), .int .i64 (wrap64 (700 + t268))] rfl mz ?_; (with_reducible refine (spec_l1Many.calls k (⟨#[59]⟩ : ByteArray) (wrap64 (700 + t268)) t270 _ A6.out).mono ?_); rintro e w' ⟨rfl, ⟨nd, rfl⟩⟩; refine ⟨_, rfl, ?_⟩))
  go_ret
  exact ⟨ez, by repeat (first | (with_reducible first | exact HB.out | apply below_alloc | apply pw_below_drewN | apply below_drew1 | refine below_set ?_ (IsS78.ge HI265.out)) | exact HB.out)⟩
 rw [if_neg c4] at H
 have c4b0 := eF c4
 have c4b1 := nT c4
 by_cases c10 : t266 = 1
 rotate_left
 ·rw [if_neg c10] at H
  have c10b0 := eF c10
  have c10b1 := nT c10
  replace H := Option.bind_eq_some_iff.mp H
  obtain ⟨⟨t274, t275⟩, A160, H⟩ := H
  try dsimp only at H
  have A16 := am A160
  clear A160
  obtain rfl := Option.some.inj H
  go_enter Tryd.func20, Tryd.ntmps20
  go_wp2_with (first | ((with_reducible refine gate_callee (f := 33) rfl ?_); refine goesL_ (some 6) rfl rfl Tryd.func33 (by kernel_rfl) rfl #[.slice A0 l0.length c0] rfl mz ?_; (with_reducible refine (spec_l1Open.calls _ _ l0 t263 t264 w _ ?side1 ?side2 ?side3 A2.out).mono ?_); (case side1 => repeat (first | (with_reducible first | exact HB.out | apply below_alloc | apply pw_below_drewN | apply below_drew1) | exact HB.out)); (case side2 => exact HR0.out); (case side3 => exact HC0.out); rintro e w17 ⟨g265, rfl, hi, hb, hb2⟩; refine ⟨_, rfl, ?_⟩; have HI265 := am (hi); replace HB := am (hb); (try clear hb)) | ((with_reducible refine gate_callee (f := 34) rfl ?_); refine goesL_ (some 8) rfl rfl Tryd.func34 (by kernel_rfl) rfl #[.pointer (some ⟨g265, 0, none⟩), .int .i64 40] rfl mz ?_; (with_reducible refine (spec_l1Rd_pick.calls k g265 t263 t264 40 t266 t267 w _ ?side1 ?side2 A3.out).mono ?_); (case side1 => repeat (first | (with_reducible first | exact HI265.out | apply IsS78.alloc | apply IsS78.drewN | apply IsS78.drew | apply IsS78.set_1) | exact HI265.out)); (case side2 => repeat (first | (with_reducible first | exact HB.out | apply below_alloc | apply pw_below_drewN | apply below_drew1 | refine below_set ?_ (IsS78.ge HI265.out)) | exact HB.out)); rintro e w18 ⟨rfl, hi, hb, hk⟩; refine ⟨_, rfl, ?_⟩; replace HB := am (hb); replace HI265 := am (hi); (try clear hb)) | ((with_reducible refine gate_callee (f := 36) rfl ?_); refine goesL_ (some 22) rfl rfl Tryd.func36 (by kernel_rfl) rfl #[.pointer (some ⟨g265, 0, none⟩)] rfl mz ?_; (with_reducible refine (spec_l2Text.calls k g265 t263 t267 t274 t275 w _ ?side1 ?side2 A16.out).mono ?_); (case side1 => repeat (first | (with_reducible first | exact HI265.out | apply IsS78.alloc | apply IsS78.drewN | apply IsS78.drew | apply IsS78.set_1) | exact HI265.out)); (case side2 => repeat (first | (with_reducible first | exact HB.out | apply below_alloc | apply pw_below_drewN | apply below_drew1 | refine below_set ?_ (IsS78.ge HI265.out)) | exact HB.out)); rintro e w19 ⟨rfl, hi, hb, hk⟩; refine ⟨_, rfl, ?_⟩; replace HB := am (hb); replace HI265 := am (hi); (try clear hb)))
  go_ret
  exact ⟨ez, by repeat (first | (with_reducible first | exact HB.out | apply below_alloc | apply pw_below_drewN | apply below_drew1 | refine below_set ?_ (IsS78.ge HI265.out)) | exact HB.out)⟩
 rw [if_pos c10] at H
 have c10b0 := eT c10
 have c10b1 := nF c10
 clear c10
 replace H := Option.bind_eq_some_iff.mp H
 obtain ⟨⟨t271, t272⟩, A110, H⟩ := H
 try dsimp only at H
 have A11 := am A110
 clear A110
 replace H := Option.bind_eq_some_iff.mp H
 obtain ⟨t273, A120, H⟩ := H
 try dsimp only at H
 have A12 := am A120
 clear A120
 obtain rfl := Option.some.inj H
 go_enter Tryd.func20, Tryd.ntmps20
 go_wp2_with (first | ((with_reducible refine gate_callee (f := 33) rfl ?_); refine goesL_ (some 6) rfl rfl Tryd.func33 (by kernel_rfl) rfl #[.slice A0 l0.length c0] rfl mz ?_; (with_reducible refine (spec_l1Open.calls _ _ l0 t263 t264 w _ ?side1 ?side2 ?side3 A2.out).mono ?_); (case side1 => repeat (first | (with_reducible first | exact HB.out | apply below_alloc | apply pw_below_drewN | apply below_drew1) | exact HB.out)); (case side2 => exact HR0.out); (case side3 => exact HC0.out); rintro e w13 ⟨g265, rfl, hi, hb, hb2⟩; refine ⟨_, rfl, ?_⟩; have HI265 := am (hi); replace HB := am (hb); (try clear hb)) | ((with_reducible refine gate_callee (f := 34) rfl ?_); refine goesL_ (some 8) rfl rfl Tryd.func34 (by kernel_rfl) rfl #[.pointer (some ⟨g265, 0, none⟩), .int .i64 40] rfl mz ?_; (with_reducible refine (spec_l1Rd_pick.calls k g265 t263 t264 40 t266 t267 w _ ?side1 ?side2 A3.out).mono ?_); (case side1 => repeat (first | (with_reducible first | exact HI265.out | apply IsS78.alloc | apply IsS78.drewN | apply IsS78.drew | apply IsS78.set_1) | exact HI265.out)); (case side2 => repeat (first | (with_reducible first | exact HB.out | apply below_alloc | apply pw_below_drewN | apply below_drew1 | refine below_set ?_ (IsS78.ge HI265.out)) | exact HB.out)); rintro e w14 ⟨rfl, hi, hb, hk⟩; refine ⟨_, rfl, ?_⟩; replace HB := am (hb); replace HI265 := am (hi); (try clear hb)) | ((with_reducible refine gate_callee (f := 34) rfl ?_); refine goesL_ (some 18) rfl rfl Tryd.func34 (by kernel_rfl) rfl #[.pointer (some ⟨g265, 0, none⟩), .int .i64 2] rfl mz ?_; (with_reducible refine (spec_l1Rd_pick.calls k g265 t263 t267 2 t271 t272 w _ ?side1 ?side2 A11.out).mono ?_); (case side1 => repeat (first | (with_reducible first | exact HI265.out | apply IsS78.alloc | apply IsS78.drewN | apply IsS78.drew | apply IsS78.set_1) | exact HI265.out)); (case side2 => repeat (first | (with_reducible first | exact HB.out | apply below_alloc | apply pw_below_drewN | apply below_drew1 | refine below_set ?_ (IsS78.ge HI265.out)) | exact HB.out)); rintro e w15 ⟨rfl, hi, hb, hk⟩; refine ⟨_, rfl, ?_⟩; replace HB := am (hb); replace HI265 := am (hi); (try clear hb)) | ((with_reducible refine gate_callee (f := 35) rfl ?_); refine goesL_ (some 20) rfl rfl Tryd.func35 (by kernel_rfl) rfl #[.string (⟨#[32]⟩ : ByteArray), .int .i64 (wrap64 (3000 + t271))] rfl mz ?_; (with_reducible refine (spec_l1Many.calls k (⟨#[32]⟩ : ByteArray) (wrap64 (3000 + t271)) t273 _ A12.out).mono ?_); rintro e w' ⟨rfl, ⟨nd, rfl⟩⟩; refine ⟨_, rfl, ?_⟩))
 go_ret
 exact ⟨ez, by repeat (first | (with_reducible first | exact HB.out | apply below_alloc | apply pw_below_drewN | apply below_drew1 | refine below_set ?_ (IsS78.ge HI265.out)) | exact HB.out)⟩

/-! ### laws_FnLexBack: function 6 -/
attribute [local go_sem] Go.Proofs.YtnbpgnkplahknaaDoorSet.isSome_setCell
mutual
def laws_FnLexBack.j0 : Nat → List (S42) → ByteArray → Bool → Bool → Option (Bool)
 | 0, _, _, _, _ => none
 | k + 1, x4, x8, x9, x56 => if x56 = true then (none) else (if x9 = true then ((impl_LexTokens.f k x8).bind fun bt293 => (if bt293.2.1 = 0 then (laws_FnLexBack.j1 k x4 bt293.1 ((bt293.1.length : Int) != (x4.length : Int))) else (laws_FnLexBack.j1 k x4 bt293.1 true))) else (some true))
def laws_FnLexBack.j1 : Nat → List (S42) → List (S42) → Bool → Option (Bool)
 | 0, _, _, _ => none
 | k + 1, x4, x12, x73 => if x73 = true then (none) else (laws_FnLexBack.l0 k x4 x12 0)
def laws_FnLexBack.l0 : Nat → List (S42) → List (S42) → Int → Option (Bool)
 | 0, _, _, _ => none
 | k + 1, x4, x12, x14 => if x14 < (x12.length : Int) then (if 0 ≤ x14 then (if x14 < (x4.length : Int) then (if ((rd_T42 x12 x14).f0) = ((rd_T42 x4 x14).f0) then (if ((rd_T42 x12 x14).f2).toList = ((rd_T42 x4 x14).f2).toList then (if ((rd_T42 x12 x14).f3) = ((rd_T42 x4 x14).f3) then (laws_FnLexBack.l0 k x4 x12 (wrap64 (x14 + 1))) else (none)) else (none)) else (none)) else (none)) else (none)) else (some true)
end
def laws_FnLexBack.f (k : Nat) (l0 : List Int) : Option (Bool) := if (l0.length : Int) > 1048576 then (some true) else ((spec_DrawLexTokens.f k l0).bind fun t276 => ((impl_LexTokens.f k t276).bind fun bt277 => ((spec_LexTokens.f k t276).bind fun bt283 => (if (!(bt277.2.1 == bt283.2.1) || (!(bt277.2.2 == bt283.2.2))) = true then (none) else (if bt277.2.1 = 0 then ((impl_LexJoin.f k bt277.1).bind fun bt289 => ((spec_LexJoin.f k bt277.1).bind fun bt291 => (if (bt289.2 != bt291.2) = true then (laws_FnLexBack.j0 k bt277.1 bt289.1 bt289.2 true) else (laws_FnLexBack.j0 k bt277.1 bt289.1 bt289.2 (bt289.1.toList != bt291.1.toList))))) else (some ((bt277.1.length : Int) == 0)))))))
theorem laws_FnLexBack.mono_l : ∀ k, (∀ y0 y1 y2 y3, LeO (laws_FnLexBack.j0 k y0 y1 y2 y3) (laws_FnLexBack.j0 (k + 1) y0 y1 y2 y3)) ∧ (∀ y0 y1 y2, LeO (laws_FnLexBack.j1 k y0 y1 y2) (laws_FnLexBack.j1 (k + 1) y0 y1 y2)) ∧ (∀ y0 y1 y2, LeO (laws_FnLexBack.l0 k y0 y1 y2) (laws_FnLexBack.l0 (k + 1) y0 y1 y2))
 | 0 => ⟨fun _ _ _ _ r h => by simp [laws_FnLexBack.j0] at h, fun _ _ _ r h => by simp [laws_FnLexBack.j1] at h, fun _ _ _ r h => by simp [laws_FnLexBack.l0] at h⟩
 | k + 1 => by
  obtain ⟨ih0, ih1, ih2⟩ := laws_FnLexBack.mono_l k
  refine ⟨?_, ?_, ?_⟩ <;> (intros; (first | unfold laws_FnLexBack.j0 | unfold laws_FnLexBack.j1 | unfold laws_FnLexBack.l0); repeat' first | (with_reducible first | apply ih0 | apply ih1 | apply ih2 | apply impl_LexJoin.mono | apply impl_LexTokens.mono | apply spec_DrawLexTokens.mono | apply spec_LexJoin.mono | apply spec_LexTokens.mono | apply LeO.refl | apply LeO.none | refine LeO.ite ?_ ?_ | refine LeO.bind ?_ (fun _ => ?_)) | apply ih0 | apply ih1 | apply ih2 | apply impl_LexJoin.mono | apply impl_LexTokens.mono | apply spec_DrawLexTokens.mono | apply spec_LexJoin.mono | apply spec_LexTokens.mono | apply LeO.none | refine LeO.ite ?_ ?_ | refine LeO.bind ?_ (fun _ => ?_))
theorem laws_FnLexBack.mono : ∀ a0 k, LeO (laws_FnLexBack.f k a0) (laws_FnLexBack.f (k + 1) a0) := by
 intro a0 k
 obtain ⟨ih0, ih1, ih2⟩ := laws_FnLexBack.mono_l k
 unfold laws_FnLexBack.f
 repeat' first | (with_reducible first | apply ih0 | apply ih1 | apply ih2 | apply impl_LexJoin.mono | apply impl_LexTokens.mono | apply spec_DrawLexTokens.mono | apply spec_LexJoin.mono | apply spec_LexTokens.mono | apply LeO.refl | apply LeO.none | refine LeO.ite ?_ ?_ | refine LeO.bind ?_ (fun _ => ?_)) | apply ih0 | apply ih1 | apply ih2 | apply impl_LexJoin.mono | apply impl_LexTokens.mono | apply spec_DrawLexTokens.mono | apply spec_LexJoin.mono | apply spec_LexTokens.mono | apply LeO.none | refine LeO.ite ?_ ?_ | refine LeO.bind ?_ (fun _ => ?_)
set_option maxHeartbeats 8000000 in
set_option maxRecDepth 100000 in
theorem laws_FnLexBack.calls (k : Nat) (A0 : Option Addr) (c0 : Nat) (l0 : List Int) (r : Bool) (w : World) (hr0 : Kd.C (Kd.int .u8) w A0 l0.length l0) (hc0 : l0.length ≤ c0) (h : laws_FnLexBack.f k l0 = some r) (hT : PFnExactSignAt.Tab w := by first | exact HTb.out | exact hT | exact hT_ | exact PFnExactSignAt.Tab.below HTb.out (by assumption) | exact PFnExactSignAt.Tab.below HTb.out (by repeat (first | (with_reducible first | exact HB.out | apply below_alloc | apply pw_below_drewN | apply below_drew1 | apply below_drew) | exact HB.out | refine below_set ?_ (Aside0.out (by assumption))))) :
  Calls Tryd.prog 6 #[.slice A0 l0.length c0] w fun e w' => e = .returned (.bool r) ∧ Below w.heap.size w w' := by
 have HTb := am hT
 clear hT
 have hu26 := Tryd.underlying26
 have HR0 := am hr0
 have HC0 := am hc0
 clear hr0 hc0
 have HB := am (Below.refl w.heap.size w)
 have H : (if (l0.length : Int) > 1048576 then (some true) else ((spec_DrawLexTokens.f k l0).bind fun t276 => ((impl_LexTokens.f k t276).bind fun bt277 => ((spec_LexTokens.f k t276).bind fun bt283 => (if (!(bt277.2.1 == bt283.2.1) || (!(bt277.2.2 == bt283.2.2))) = true then (none) else (if bt277.2.1 = 0 then ((impl_LexJoin.f k bt277.1).bind fun bt289 => ((spec_LexJoin.f k bt277.1).bind fun bt291 => (if (bt289.2 != bt291.2) = true then (laws_FnLexBack.j0 k bt277.1 bt289.1 bt289.2 true) else (laws_FnLexBack.j0 k bt277.1 bt289.1 bt289.2 (bt289.1.toList != bt291.1.toList))))) else (some ((bt277.1.length : Int) == 0)))))))) = some r := h
 clear h
 by_cases c2 : (l0.length : Int) > 1048576
 ·rw [if_pos c2] at H
  have c2b0 := dT c2
  have c2b1 : decide (1048576 < l0.length) = true := decide_eq_true (by omega)
  clear c2
  obtain rfl := Option.some.inj H
  go_enter Tryd.func6, Tryd.ntmps6
  go_wp2
  repeat (go_quiet (fail); try go_wp2)
  go_ret
  exact ⟨ez, YA HB⟩
 ·rw [if_neg c2] at H
  have c2b0 := dF c2
  have c2b1 : decide (1048576 < l0.length) = false := decide_eq_false (by omega)
  clear c2
  replace H := Option.bind_eq_some_iff.mp H
  obtain ⟨t276, A30, H⟩ := H
  try dsimp only at H
  have A3 := am A30
  clear A30
  replace H := Option.bind_eq_some_iff.mp H
  obtain ⟨⟨t277, t280, t281⟩, A40, H⟩ := H
  try dsimp only at H
  have A4 := am A40
  clear A40
  replace H := Option.bind_eq_some_iff.mp H
  obtain ⟨⟨t283, t286, t287⟩, A50, H⟩ := H
  try dsimp only at H
  have A5 := am A50
  clear A50
  by_cases c6 : (!(t280 == t286) || (!(t281 == t287))) = true
  ·rw [if_pos c6] at H
   exact absurd H (by simp)
  rw [if_neg c6] at H
  have c6b0 : (!(t280 == t286) || (!(t281 == t287))) = false := by simpa using c6
  clear c6
  by_cases c7 : t280 = 0
  rotate_left
  ·rw [if_neg c7] at H
   have c7b0 := eF c7
   have c7b1 := nT c7
   obtain rfl := Option.some.inj H
   go_enter Tryd.func6, Tryd.ntmps6
   go_wp2_with (first | (go_at_call 20; (with_reducible refine (spec_DrawLexTokens.calls k _ _ l0 t276 _ ?side1 ?side2 A3.out).mono ?_); (case side1 => repeat (first | exact HR0.out | (with_reducible refine Kd.C_alloc ?_ _) | (with_reducible refine Kd.C_drewN ?_ _) | (with_reducible refine Kd.C_drew ?_))); (case side2 => exact HC0.out); rintro e w50 ⟨rfl, hb⟩; replace HB := am (below_step (YA HB) hb); (try clear hb)) | (go_at_call 11; (with_reducible refine (impl_LexTokens.calls k t276 t277 t280 t281 _ A4.out).mono ?_); rintro e w51 ⟨v278, rfl, ho0, hb⟩; have HO279 := am (Kd.R_lower ho0 (below_size (YA HB))); replace HB := am (below_step (YA HB) hb); (try clear hb); (try clear ho0)) | ((with_reducible refine gate_dst (N := 5) rfl ?_); (try (refine gate_guard (by rfl) ?_; dsimp only)); refine bx 5 #[.int .i64 0, .int .i64 0] 26 ?_; intro gb282 hg w52 hbox hb; have BK282 := am (hbox); have GW282 := am (bs hg (YA HB)); have GE282 := GW282; replace HO279 := am (Kd.R_below (RZ HO279) hb); replace HB := am (below_step (YA HB) hb); clear hb hbox hg; obtain ⟨hcz53_0,hcz53_1,hfz53_0,hfz53_1⟩ := cB2 BK282) | (go_at_call 10; (with_reducible refine (spec_LexTokens.calls k t276 t283 t286 t287 _ A5.out).mono ?_); rintro e w54 ⟨v284, rfl, ho0, hb⟩; have HO285 := am (Kd.R_lower (Kd.R_new' ho0 (Kd.R_lt (by (with_reducible repeat (first | apply Kd.R_alloc | apply Kd.R_drewN | apply Kd.R_drew)); exact (Kd.R_mono (Kd.R_far (p := ⟨gb282, 1, none⟩) (Kd.R_far (p := ⟨gb282, 0, none⟩) (Kd.R_types HO279.out BK282.out (by decide)) (fun _ hk => hk.2) (.int .i64 t280)) (fun _ hk => hk.2) (.int .i64 t281)) (fun _ h_ => h_.1))))) (below_size (YA HB))); replace HO279 := am (Kd.R_elder' (by (with_reducible repeat (first | apply Kd.R_alloc | apply Kd.R_drewN | apply Kd.R_drew)); exact (Kd.R_mono (Kd.R_far (p := ⟨gb282, 1, none⟩) (Kd.R_far (p := ⟨gb282, 0, none⟩) (Kd.R_types HO279.out BK282.out (by decide)) (fun _ hk => hk.2) (.int .i64 t280)) (fun _ hk => hk.2) (.int .i64 t281)) (fun _ h_ => h_.1))) (Kd.R_base ho0) hb); replace BK282 := am (blk_below (g := gb282) (o := b2 t280 t281 26) (by refine pf ?_; refine blk_put (cs := #[.int .i64 t280, .int .i64 0]) ?_ 1 _ rfl; refine pf ?_; refine blk_put (cs := #[.int .i64 0, .int .i64 0]) ?_ 0 _ rfl; exact Z BK282) hb); replace HB := am (below_step (YA HB) hb); (try clear hb); (try clear ho0)) | ((with_reducible refine gate_dst (N := 7) rfl ?_); (try (refine gate_guard (by rfl) ?_; dsimp only)); refine bx 7 #[.int .i64 0, .int .i64 0] 26 ?_; intro gb288 hg w55 hbox hb; have BK288 := am (hbox); have GW288 := am (bs hg (YA HB)); have GE288 := GW288; obtain ⟨NB282_288,NB288_282⟩ := ne_ hg BK282; replace HO279 := am (Kd.R_below (RZ HO279) hb); replace HO285 := am (Kd.R_below (RZ HO285) hb); replace BK282 := bb BK282 hb; replace HB := am (below_step (YA HB) hb); clear hb hbox hg; obtain ⟨hnb56,hnc56⟩ := nn NB288_282; obtain ⟨hcz57_0,hcz57_1,hfz57_0,hfz57_1⟩ := cB2 BK288; obtain ⟨hcz58_0,hcz58_1,hfz58_0,hfz58_1⟩ := cB2 BK282; obtain ⟨Ao59, co59, eo59⟩ := Kd.R_slice HO279.out; subst eo59))
   try have hcz53_0 := bc BK282 0
   try have hcz53_1 := bc BK282 1
   try have hfz53_0 := blk_frozen BK282.out 0
   try have hfz53_1 := blk_frozen BK282.out 1
   repeat (go_quiet (first | (go_at_call 20; (with_reducible refine (spec_DrawLexTokens.calls k _ _ l0 t276 _ ?side1 ?side2 A3.out).mono ?_); (case side1 => repeat (first | exact HR0.out | (with_reducible refine Kd.C_alloc ?_ _) | (with_reducible refine Kd.C_drewN ?_ _) | (with_reducible refine Kd.C_drew ?_))); (case side2 => exact HC0.out); rintro e w50 ⟨rfl, hb⟩; replace HB := am (below_step (YA HB) hb); (try clear hb)) | (go_at_call 11; (with_reducible refine (impl_LexTokens.calls k t276 t277 t280 t281 _ A4.out).mono ?_); rintro e w51 ⟨v278, rfl, ho0, hb⟩; have HO279 := am (Kd.R_lower ho0 (below_size (YA HB))); replace HB := am (below_step (YA HB) hb); (try clear hb); (try clear ho0)) | ((with_reducible refine gate_dst (N := 5) rfl ?_); (try (refine gate_guard (by rfl) ?_; dsimp only)); refine bx 5 #[.int .i64 0, .int .i64 0] 26 ?_; intro gb282 hg w52 hbox hb; have BK282 := am (hbox); have GW282 := am (bs hg (YA HB)); have GE282 := GW282; replace HO279 := am (Kd.R_below (RZ HO279) hb); replace HB := am (below_step (YA HB) hb); clear hb hbox hg; (try (obtain ⟨hcz53_0,hcz53_1,hfz53_0,hfz53_1⟩ := cB2 BK282))) | (go_at_call 10; (with_reducible refine (spec_LexTokens.calls k t276 t283 t286 t287 _ A5.out).mono ?_); rintro e w54 ⟨v284, rfl, ho0, hb⟩; have HO285 := am (Kd.R_lower (Kd.R_new' ho0 (Kd.R_lt (by (with_reducible repeat (first | apply Kd.R_alloc | apply Kd.R_drewN | apply Kd.R_drew)); exact (Kd.R_mono (Kd.R_far (p := ⟨gb282, 1, none⟩) (Kd.R_far (p := ⟨gb282, 0, none⟩) (Kd.R_types HO279.out BK282.out (by decide)) (fun _ hk => hk.2) (.int .i64 t280)) (fun _ hk => hk.2) (.int .i64 t281)) (fun _ h_ => h_.1))))) (below_size (YA HB))); replace HO279 := am (Kd.R_elder' (by (with_reducible repeat (first | apply Kd.R_alloc | apply Kd.R_drewN | apply Kd.R_drew)); exact (Kd.R_mono (Kd.R_far (p := ⟨gb282, 1, none⟩) (Kd.R_far (p := ⟨gb282, 0, none⟩) (Kd.R_types HO279.out BK282.out (by decide)) (fun _ hk => hk.2) (.int .i64 t280)) (fun _ hk => hk.2) (.int .i64 t281)) (fun _ h_ => h_.1))) (Kd.R_base ho0) hb); replace BK282 := am (blk_below (g := gb282) (o := b2 t280 t281 26) (by refine pf ?_; refine blk_put (cs := #[.int .i64 t280, .int .i64 0]) ?_ 1 _ rfl; refine pf ?_; refine blk_put (cs := #[.int .i64 0, .int .i64 0]) ?_ 0 _ rfl; exact Z BK282) hb); replace HB := am (below_step (YA HB) hb); (try clear hb); (try clear ho0)) | ((with_reducible refine gate_dst (N := 7) rfl ?_); (try (refine gate_guard (by rfl) ?_; dsimp only)); refine bx 7 #[.int .i64 0, .int .i64 0] 26 ?_; intro gb288 hg w55 hbox hb; have BK288 := am (hbox); have GW288 := am (bs hg (YA HB)); have GE288 := GW288; obtain ⟨NB282_288,NB288_282⟩ := ne_ hg BK282; replace HO279 := am (Kd.R_below (RZ HO279) hb); replace HO285 := am (Kd.R_below (RZ HO285) hb); replace BK282 := bb BK282 hb; replace HB := am (below_step (YA HB) hb); clear hb hbox hg; obtain ⟨hnb56,hnc56⟩ := nn NB288_282; obtain ⟨hcz57_0,hcz57_1,hfz57_0,hfz57_1⟩ := cB2 BK288; obtain ⟨hcz58_0,hcz58_1,hfz58_0,hfz58_1⟩ := cB2 BK282; obtain ⟨Ao59, co59, eo59⟩ := Kd.R_slice HO279.out; subst eo59)); try go_wp2_with (first | (go_at_call 20; (with_reducible refine (spec_DrawLexTokens.calls k _ _ l0 t276 _ ?side1 ?side2 A3.out).mono ?_); (case side1 => repeat (first | exact HR0.out | (with_reducible refine Kd.C_alloc ?_ _) | (with_reducible refine Kd.C_drewN ?_ _) | (with_reducible refine Kd.C_drew ?_))); (case side2 => exact HC0.out); rintro e w50 ⟨rfl, hb⟩; replace HB := am (below_step (YA HB) hb); (try clear hb)) | (go_at_call 11; (with_reducible refine (impl_LexTokens.calls k t276 t277 t280 t281 _ A4.out).mono ?_); rintro e w51 ⟨v278, rfl, ho0, hb⟩; have HO279 := am (Kd.R_lower ho0 (below_size (YA HB))); replace HB := am (below_step (YA HB) hb); (try clear hb); (try clear ho0)) | ((with_reducible refine gate_dst (N := 5) rfl ?_); (try (refine gate_guard (by rfl) ?_; dsimp only)); refine bx 5 #[.int .i64 0, .int .i64 0] 26 ?_; intro gb282 hg w52 hbox hb; have BK282 := am (hbox); have GW282 := am (bs hg (YA HB)); have GE282 := GW282; replace HO279 := am (Kd.R_below (RZ HO279) hb); replace HB := am (below_step (YA HB) hb); clear hb hbox hg; (try (obtain ⟨hcz53_0,hcz53_1,hfz53_0,hfz53_1⟩ := cB2 BK282))) | (go_at_call 10; (with_reducible refine (spec_LexTokens.calls k t276 t283 t286 t287 _ A5.out).mono ?_); rintro e w54 ⟨v284, rfl, ho0, hb⟩; have HO285 := am (Kd.R_lower (Kd.R_new' ho0 (Kd.R_lt (by (with_reducible repeat (first | apply Kd.R_alloc | apply Kd.R_drewN | apply Kd.R_drew)); exact (Kd.R_mono (Kd.R_far (p := ⟨gb282, 1, none⟩) (Kd.R_far (p := ⟨gb282, 0, none⟩) (Kd.R_types HO279.out BK282.out (by decide)) (fun _ hk => hk.2) (.int .i64 t280)) (fun _ hk => hk.2) (.int .i64 t281)) (fun _ h_ => h_.1))))) (below_size (YA HB))); replace HO279 := am (Kd.R_elder' (by (with_reducible repeat (first | apply Kd.R_alloc | apply Kd.R_drewN | apply Kd.R_drew)); exact (Kd.R_mono (Kd.R_far (p := ⟨gb282, 1, none⟩) (Kd.R_far (p := ⟨gb282, 0, none⟩) (Kd.R_types HO279.out BK282.out (by decide)) (fun _ hk => hk.2) (.int .i64 t280)) (fun _ hk => hk.2) (.int .i64 t281)) (fun _ h_ => h_.1))) (Kd.R_base ho0) hb); replace BK282 := am (blk_below (g := gb282) (o := b2 t280 t281 26) (by refine pf ?_; refine blk_put (cs := #[.int .i64 t280, .int .i64 0]) ?_ 1 _ rfl; refine pf ?_; refine blk_put (cs := #[.int .i64 0, .int .i64 0]) ?_ 0 _ rfl; exact Z BK282) hb); replace HB := am (below_step (YA HB) hb); (try clear hb); (try clear ho0)) | ((with_reducible refine gate_dst (N := 7) rfl ?_); (try (refine gate_guard (by rfl) ?_; dsimp only)); refine bx 7 #[.int .i64 0, .int .i64 0] 26 ?_; intro gb288 hg w55 hbox hb; have BK288 := am (hbox); have GW288 := am (bs hg (YA HB)); have GE288 := GW288; obtain ⟨NB282_288,NB288_282⟩ := ne_ hg BK282; replace HO279 := am (Kd.R_below (RZ HO279) hb); replace HO285 := am (Kd.R_below (RZ HO285) hb); replace BK282 := bb BK282 hb; replace HB := am (below_step (YA HB) hb); clear hb hbox hg; obtain ⟨hnb56,hnc56⟩ := nn NB288_282; obtain ⟨hcz57_0,hcz57_1,hfz57_0,hfz57_1⟩ := cB2 BK288; obtain ⟨hcz58_0,hcz58_1,hfz58_0,hfz58_1⟩ := cB2 BK282; obtain ⟨Ao59, co59, eo59⟩ := Kd.R_slice HO279.out; subst eo59)))
   go_ret
   exact ⟨ez, YA HB⟩
  rw [if_pos c7] at H
  have c7b0 := eT c7
  have c7b1 := nF c7
  clear c7
  replace H := Option.bind_eq_some_iff.mp H
  obtain ⟨⟨t289, t290⟩, A80, H⟩ := H
  try dsimp only at H
  have A8 := am A80
  clear A80
  replace H := Option.bind_eq_some_iff.mp H
  obtain ⟨⟨t291, t292⟩, A90, H⟩ := H
  try dsimp only at H
  have A9 := am A90
  clear A90
  have HC10 := am H
  clear H
  go_enter Tryd.func6, Tryd.ntmps6
  go_upto_region 12 with (first | (go_at_call 20; (with_reducible refine (spec_DrawLexTokens.calls k _ _ l0 t276 _ ?side1 ?side2 A3.out).mono ?_); (case side1 => repeat (first | exact HR0.out | (with_reducible refine Kd.C_alloc ?_ _) | (with_reducible refine Kd.C_drewN ?_ _) | (with_reducible refine Kd.C_drew ?_))); (case side2 => exact HC0.out); rintro e w11 ⟨rfl, hb⟩; replace HB := am (below_step (YA HB) hb); (try clear hb)) | (go_at_call 11; (with_reducible refine (impl_LexTokens.calls k t276 t277 t280 t281 _ A4.out).mono ?_); rintro e w12 ⟨v278, rfl, ho0, hb⟩; have HO279 := am (Kd.R_lower ho0 (below_size (YA HB))); replace HB := am (below_step (YA HB) hb); (try clear hb); (try clear ho0)) | ((with_reducible refine gate_dst (N := 5) rfl ?_); (try (refine gate_guard (by rfl) ?_; dsimp only)); refine bx 5 #[.int .i64 0, .int .i64 0] 26 ?_; intro gb282 hg w13 hbox hb; have BK282 := am (hbox); have GW282 := am (bs hg (YA HB)); have GE282 := GW282; replace HO279 := am (Kd.R_below (RZ HO279) hb); replace HB := am (below_step (YA HB) hb); clear hb hbox hg; obtain ⟨hcz14_0,hcz14_1,hfz14_0,hfz14_1⟩ := cB2 BK282) | (go_at_call 10; (with_reducible refine (spec_LexTokens.calls k t276 t283 t286 t287 _ A5.out).mono ?_); rintro e w15 ⟨v284, rfl, ho0, hb⟩; have HO285 := am (Kd.R_lower (Kd.R_new' ho0 (Kd.R_lt (by (with_reducible repeat (first | apply Kd.R_alloc | apply Kd.R_drewN | apply Kd.R_drew)); exact (Kd.R_mono (Kd.R_far (p := ⟨gb282, 1, none⟩) (Kd.R_far (p := ⟨gb282, 0, none⟩) (Kd.R_types HO279.out BK282.out (by decide)) (fun _ hk => hk.2) (.int .i64 t280)) (fun _ hk => hk.2) (.int .i64 t281)) (fun _ h_ => h_.1))))) (below_size (YA HB))); replace HO279 := am (Kd.R_elder' (by (with_reducible repeat (first | apply Kd.R_alloc | apply Kd.R_drewN | apply Kd.R_drew)); exact (Kd.R_mono (Kd.R_far (p := ⟨gb282, 1, none⟩) (Kd.R_far (p := ⟨gb282, 0, none⟩) (Kd.R_types HO279.out BK282.out (by decide)) (fun _ hk => hk.2) (.int .i64 t280)) (fun _ hk => hk.2) (.int .i64 t281)) (fun _ h_ => h_.1))) (Kd.R_base ho0) hb); replace BK282 := am (blk_below (g := gb282) (o := b2 t280 t281 26) (by refine pf ?_; refine blk_put (cs := #[.int .i64 t280, .int .i64 0]) ?_ 1 _ rfl; refine pf ?_; refine blk_put (cs := #[.int .i64 0, .int .i64 0]) ?_ 0 _ rfl; exact Z BK282) hb); replace HB := am (below_step (YA HB) hb); (try clear hb); (try clear ho0)) | ((with_reducible refine gate_dst (N := 7) rfl ?_); (try (refine gate_guard (by rfl) ?_; dsimp only)); refine bx 7 #[.int .i64 0, .int .i64 0] 26 ?_; intro gb288 hg w16 hbox hb; have BK288 := am (hbox); have GW288 := am (bs hg (YA HB)); have GE288 := GW288; obtain ⟨NB282_288,NB288_282⟩ := ne_ hg BK282; replace HO279 := am (Kd.R_below (RZ HO279) hb); replace HO285 := am (Kd.R_below (RZ HO285) hb); replace BK282 := bb BK282 hb; replace HB := am (below_step (YA HB) hb); clear hb hbox hg; obtain ⟨hnb17,hnc17⟩ := nn NB288_282; obtain ⟨hcz18_0,hcz18_1,hfz18_0,hfz18_1⟩ := cB2 BK288; obtain ⟨hcz19_0,hcz19_1,hfz19_0,hfz19_1⟩ := cB2 BK282; obtain ⟨Ao20, co20, eo20⟩ := Kd.R_slice HO279.out; subst eo20) | (go_at_call 19; (with_reducible refine (impl_LexJoin.calls k _ _ t277 t289 t290 _ ?side1 ?side2 A8.out).mono ?_); (case side1 => refine (Kd.R_reads' (e := 42) (base := w.heap.size) (ok := fun k_ => (True ∧ some k_ ≠ (v284 : Value).ownBlock)) (n := t277.length) (c := co20) ?_).2.2; exact (by (with_reducible repeat (first | apply Kd.R_alloc | apply Kd.R_drewN | apply Kd.R_drew)); exact (Kd.R_mono (Kd.R_far (p := ⟨gb288, 1, none⟩) (Kd.R_far (p := ⟨gb288, 0, none⟩) (Kd.R_types HO279.out BK288.out (by decide)) (fun _ hk => hk.2) (.int .i64 t286)) (fun _ hk => hk.2) (.int .i64 t287)) (fun _ h_ => h_.1)))); (case side2 => exact (Kd.R_reads' HO279.out).2.1); rintro e w21 ⟨rfl, hb⟩; replace HO279 := am (Kd.R_below (by (with_reducible repeat (first | apply Kd.R_alloc | apply Kd.R_drewN | apply Kd.R_drew)); exact (Kd.R_mono (Kd.R_far (p := ⟨gb288, 1, none⟩) (Kd.R_far (p := ⟨gb288, 0, none⟩) (Kd.R_types HO279.out BK288.out (by decide)) (fun _ hk => hk.2) (.int .i64 t286)) (fun _ hk => hk.2) (.int .i64 t287)) (fun _ h_ => h_.1))) hb); replace HO285 := am (Kd.R_below (by (with_reducible repeat (first | apply Kd.R_alloc | apply Kd.R_drewN | apply Kd.R_drew)); exact (Kd.R_mono (Kd.R_far (p := ⟨gb288, 1, none⟩) (Kd.R_far (p := ⟨gb288, 0, none⟩) (Kd.R_types HO285.out BK288.out (by decide)) (fun _ hk => hk.2) (.int .i64 t286)) (fun _ hk => hk.2) (.int .i64 t287)) (fun _ h_ => h_.1))) hb); replace BK282 := am (blk_below (g := gb282) (o := b2 t280 t281 26) (by refine fa NB282_288 ?_; refine fa NB282_288 ?_; exact Z BK282) hb); replace BK288 := am (blk_below (g := gb288) (o := b2 t286 t287 26) (by refine pf ?_; refine blk_put (cs := #[.int .i64 t286, .int .i64 0]) ?_ 1 _ rfl; refine pf ?_; refine blk_put (cs := #[.int .i64 0, .int .i64 0]) ?_ 0 _ rfl; exact Z BK288) hb); replace HB := am (below_step (YA HB) hb); (try clear hb)) | (go_at_call 17; (with_reducible refine (spec_LexJoin.calls k _ _ t277 t291 t292 _ ?side1 ?side2 A9.out).mono ?_); (case side1 => repeat (first | exact (Kd.R_reads' HO279.out).2.2 | (with_reducible refine Kd.C_alloc ?_ _) | (with_reducible refine Kd.C_drewN ?_ _) | (with_reducible refine Kd.C_drew ?_))); (case side2 => exact (Kd.R_reads' HO279.out).2.1); rintro e w22 ⟨rfl, hb⟩; replace HO279 := am (Kd.R_below (RZ HO279) hb); replace HO285 := am (Kd.R_below (RZ HO285) hb); replace BK282 := bb BK282 hb; replace BK288 := bb BK288 hb; replace HB := am (below_step (YA HB) hb); (try clear hb)))
  try have hcz14_0 := bc BK282 0
  try have hcz14_1 := bc BK282 1
  try have hfz14_0 := blk_frozen BK282.out 0
  try have hfz14_1 := blk_frozen BK282.out 1
  repeat (go_quiet (first | (go_at_call 20; (with_reducible refine (spec_DrawLexTokens.calls k _ _ l0 t276 _ ?side1 ?side2 A3.out).mono ?_); (case side1 => repeat (first | exact HR0.out | (with_reducible refine Kd.C_alloc ?_ _) | (with_reducible refine Kd.C_drewN ?_ _) | (with_reducible refine Kd.C_drew ?_))); (case side2 => exact HC0.out); rintro e w11 ⟨rfl, hb⟩; replace HB := am (below_step (YA HB) hb); (try clear hb)) | (go_at_call 11; (with_reducible refine (impl_LexTokens.calls k t276 t277 t280 t281 _ A4.out).mono ?_); rintro e w12 ⟨v278, rfl, ho0, hb⟩; have HO279 := am (Kd.R_lower ho0 (below_size (YA HB))); replace HB := am (below_step (YA HB) hb); (try clear hb); (try clear ho0)) | ((with_reducible refine gate_dst (N := 5) rfl ?_); (try (refine gate_guard (by rfl) ?_; dsimp only)); refine bx 5 #[.int .i64 0, .int .i64 0] 26 ?_; intro gb282 hg w13 hbox hb; have BK282 := am (hbox); have GW282 := am (bs hg (YA HB)); have GE282 := GW282; replace HO279 := am (Kd.R_below (RZ HO279) hb); replace HB := am (below_step (YA HB) hb); clear hb hbox hg; (try (obtain ⟨hcz14_0,hcz14_1,hfz14_0,hfz14_1⟩ := cB2 BK282))) | (go_at_call 10; (with_reducible refine (spec_LexTokens.calls k t276 t283 t286 t287 _ A5.out).mono ?_); rintro e w15 ⟨v284, rfl, ho0, hb⟩; have HO285 := am (Kd.R_lower (Kd.R_new' ho0 (Kd.R_lt (by (with_reducible repeat (first | apply Kd.R_alloc | apply Kd.R_drewN | apply Kd.R_drew)); exact (Kd.R_mono (Kd.R_far (p := ⟨gb282, 1, none⟩) (Kd.R_far (p := ⟨gb282, 0, none⟩) (Kd.R_types HO279.out BK282.out (by decide)) (fun _ hk => hk.2) (.int .i64 t280)) (fun _ hk => hk.2) (.int .i64 t281)) (fun _ h_ => h_.1))))) (below_size (YA HB))); replace HO279 := am (Kd.R_elder' (by (with_reducible repeat (first | apply Kd.R_alloc | apply Kd.R_drewN | apply Kd.R_drew)); exact (Kd.R_mono (Kd.R_far (p := ⟨gb282, 1, none⟩) (Kd.R_far (p := ⟨gb282, 0, none⟩) (Kd.R_types HO279.out BK282.out (by decide)) (fun _ hk => hk.2) (.int .i64 t280)) (fun _ hk => hk.2) (.int .i64 t281)) (fun _ h_ => h_.1))) (Kd.R_base ho0) hb); replace BK282 := am (blk_below (g := gb282) (o := b2 t280 t281 26) (by refine pf ?_; refine blk_put (cs := #[.int .i64 t280, .int .i64 0]) ?_ 1 _ rfl; refine pf ?_; refine blk_put (cs := #[.int .i64 0, .int .i64 0]) ?_ 0 _ rfl; exact Z BK282) hb); replace HB := am (below_step (YA HB) hb); (try clear hb); (try clear ho0)) | ((with_reducible refine gate_dst (N := 7) rfl ?_); (try (refine gate_guard (by rfl) ?_; dsimp only)); refine bx 7 #[.int .i64 0, .int .i64 0] 26 ?_; intro gb288 hg w16 hbox hb; have BK288 := am (hbox); have GW288 := am (bs hg (YA HB)); have GE288 := GW288; obtain ⟨NB282_288,NB288_282⟩ := ne_ hg BK282; replace HO279 := am (Kd.R_below (RZ HO279) hb); replace HO285 := am (Kd.R_below (RZ HO285) hb); replace BK282 := bb BK282 hb; replace HB := am (below_step (YA HB) hb); clear hb hbox hg; obtain ⟨hnb17,hnc17⟩ := nn NB288_282; obtain ⟨hcz18_0,hcz18_1,hfz18_0,hfz18_1⟩ := cB2 BK288; obtain ⟨hcz19_0,hcz19_1,hfz19_0,hfz19_1⟩ := cB2 BK282; obtain ⟨Ao20, co20, eo20⟩ := Kd.R_slice HO279.out; subst eo20) | (go_at_call 19; (with_reducible refine (impl_LexJoin.calls k _ _ t277 t289 t290 _ ?side1 ?side2 A8.out).mono ?_); (case side1 => refine (Kd.R_reads' (e := 42) (base := w.heap.size) (ok := fun k_ => (True ∧ some k_ ≠ (v284 : Value).ownBlock)) (n := t277.length) (c := co20) ?_).2.2; exact (by (with_reducible repeat (first | apply Kd.R_alloc | apply Kd.R_drewN | apply Kd.R_drew)); exact (Kd.R_mono (Kd.R_far (p := ⟨gb288, 1, none⟩) (Kd.R_far (p := ⟨gb288, 0, none⟩) (Kd.R_types HO279.out BK288.out (by decide)) (fun _ hk => hk.2) (.int .i64 t286)) (fun _ hk => hk.2) (.int .i64 t287)) (fun _ h_ => h_.1)))); (case side2 => exact (Kd.R_reads' HO279.out).2.1); rintro e w21 ⟨rfl, hb⟩; replace HO279 := am (Kd.R_below (by (with_reducible repeat (first | apply Kd.R_alloc | apply Kd.R_drewN | apply Kd.R_drew)); exact (Kd.R_mono (Kd.R_far (p := ⟨gb288, 1, none⟩) (Kd.R_far (p := ⟨gb288, 0, none⟩) (Kd.R_types HO279.out BK288.out (by decide)) (fun _ hk => hk.2) (.int .i64 t286)) (fun _ hk => hk.2) (.int .i64 t287)) (fun _ h_ => h_.1))) hb); replace HO285 := am (Kd.R_below (by (with_reducible repeat (first | apply Kd.R_alloc | apply Kd.R_drewN | apply Kd.R_drew)); exact (Kd.R_mono (Kd.R_far (p := ⟨gb288, 1, none⟩) (Kd.R_far (p := ⟨gb288, 0, none⟩) (Kd.R_types HO285.out BK288.out (by decide)) (fun _ hk => hk.2) (.int .i64 t286)) (fun _ hk => hk.2) (.int .i64 t287)) (fun _ h_ => h_.1))) hb); replace BK282 := am (blk_below (g := gb282) (o := b2 t280 t281 26) (by refine fa NB282_288 ?_; refine fa NB282_288 ?_; exact Z BK282) hb); replace BK288 := am (blk_below (g := gb288) (o := b2 t286 t287 26) (by refine pf ?_; refine blk_put (cs := #[.int .i64 t286, .int .i64 0]) ?_ 1 _ rfl; refine pf ?_; refine blk_put (cs := #[.int .i64 0, .int .i64 0]) ?_ 0 _ rfl; exact Z BK288) hb); replace HB := am (below_step (YA HB) hb); (try clear hb)) | (go_at_call 17; (with_reducible refine (spec_LexJoin.calls k _ _ t277 t291 t292 _ ?side1 ?side2 A9.out).mono ?_); (case side1 => repeat (first | exact (Kd.R_reads' HO279.out).2.2 | (with_reducible refine Kd.C_alloc ?_ _) | (with_reducible refine Kd.C_drewN ?_ _) | (with_reducible refine Kd.C_drew ?_))); (case side2 => exact (Kd.R_reads' HO279.out).2.1); rintro e w22 ⟨rfl, hb⟩; replace HO279 := am (Kd.R_below (RZ HO279) hb); replace HO285 := am (Kd.R_below (RZ HO285) hb); replace BK282 := bb BK282 hb; replace BK288 := bb BK288 hb; replace HB := am (below_step (YA HB) hb); (try clear hb))); go_upto_region 12 with (first | (go_at_call 20; (with_reducible refine (spec_DrawLexTokens.calls k _ _ l0 t276 _ ?side1 ?side2 A3.out).mono ?_); (case side1 => repeat (first | exact HR0.out | (with_reducible refine Kd.C_alloc ?_ _) | (with_reducible refine Kd.C_drewN ?_ _) | (with_reducible refine Kd.C_drew ?_))); (case side2 => exact HC0.out); rintro e w11 ⟨rfl, hb⟩; replace HB := am (below_step (YA HB) hb); (try clear hb)) | (go_at_call 11; (with_reducible refine (impl_LexTokens.calls k t276 t277 t280 t281 _ A4.out).mono ?_); rintro e w12 ⟨v278, rfl, ho0, hb⟩; have HO279 := am (Kd.R_lower ho0 (below_size (YA HB))); replace HB := am (below_step (YA HB) hb); (try clear hb); (try clear ho0)) | ((with_reducible refine gate_dst (N := 5) rfl ?_); (try (refine gate_guard (by rfl) ?_; dsimp only)); refine bx 5 #[.int .i64 0, .int .i64 0] 26 ?_; intro gb282 hg w13 hbox hb; have BK282 := am (hbox); have GW282 := am (bs hg (YA HB)); have GE282 := GW282; replace HO279 := am (Kd.R_below (RZ HO279) hb); replace HB := am (below_step (YA HB) hb); clear hb hbox hg; (try (obtain ⟨hcz14_0,hcz14_1,hfz14_0,hfz14_1⟩ := cB2 BK282))) | (go_at_call 10; (with_reducible refine (spec_LexTokens.calls k t276 t283 t286 t287 _ A5.out).mono ?_); rintro e w15 ⟨v284, rfl, ho0, hb⟩; have HO285 := am (Kd.R_lower (Kd.R_new' ho0 (Kd.R_lt (by (with_reducible repeat (first | apply Kd.R_alloc | apply Kd.R_drewN | apply Kd.R_drew)); exact (Kd.R_mono (Kd.R_far (p := ⟨gb282, 1, none⟩) (Kd.R_far (p := ⟨gb282, 0, none⟩) (Kd.R_types HO279.out BK282.out (by decide)) (fun _ hk => hk.2) (.int .i64 t280)) (fun _ hk => hk.2) (.int .i64 t281)) (fun _ h_ => h_.1))))) (below_size (YA HB))); replace HO279 := am (Kd.R_elder' (by (with_reducible repeat (first | apply Kd.R_alloc | apply Kd.R_drewN | apply Kd.R_drew)); exact (Kd.R_mono (Kd.R_far (p := ⟨gb282, 1, none⟩) (Kd.R_far (p := ⟨gb282, 0, none⟩) (Kd.R_types HO279.out BK282.out (by decide)) (fun _ hk => hk.2) (.int .i64 t280)) (fun _ hk => hk.2) (.int .i64 t281)) (fun _ h_ => h_.1))) (Kd.R_base ho0) hb); replace BK282 := am (blk_below (g := gb282) (o := b2 t280 t281 26) (by refine pf ?_; refine blk_put (cs := #[.int .i64 t280, .int .i64 0]) ?_ 1 _ rfl; refine pf ?_; refine blk_put (cs := #[.int .i64 0, .int .i64 0]) ?_ 0 _ rfl; exact Z BK282) hb); replace HB := am (below_step (YA HB) hb); (try clear hb); (try clear ho0)) | ((with_reducible refine gate_dst (N := 7) rfl ?_); (try (refine gate_guard (by rfl) ?_; dsimp only)); refine bx 7 #[.int .i64 0, .int .i64 0] 26 ?_; intro gb288 hg w16 hbox hb; have BK288 := am (hbox); have GW288 := am (bs hg (YA HB)); have GE288 := GW288; obtain ⟨NB282_288,NB288_282⟩ := ne_ hg BK282; replace HO279 := am (Kd.R_below (RZ HO279) hb); replace HO285 := am (Kd.R_below (RZ HO285) hb); replace BK282 := bb BK282 hb; replace HB := am (below_step (YA HB) hb); clear hb hbox hg; obtain ⟨hnb17,hnc17⟩ := nn NB288_282; obtain ⟨hcz18_0,hcz18_1,hfz18_0,hfz18_1⟩ := cB2 BK288; obtain ⟨hcz19_0,hcz19_1,hfz19_0,hfz19_1⟩ := cB2 BK282; obtain ⟨Ao20, co20, eo20⟩ := Kd.R_slice HO279.out; subst eo20) | (go_at_call 19; (with_reducible refine (impl_LexJoin.calls k _ _ t277 t289 t290 _ ?side1 ?side2 A8.out).mono ?_); (case side1 => refine (Kd.R_reads' (e := 42) (base := w.heap.size) (ok := fun k_ => (True ∧ some k_ ≠ (v284 : Value).ownBlock)) (n := t277.length) (c := co20) ?_).2.2; exact (by (with_reducible repeat (first | apply Kd.R_alloc | apply Kd.R_drewN | apply Kd.R_drew)); exact (Kd.R_mono (Kd.R_far (p := ⟨gb288, 1, none⟩) (Kd.R_far (p := ⟨gb288, 0, none⟩) (Kd.R_types HO279.out BK288.out (by decide)) (fun _ hk => hk.2) (.int .i64 t286)) (fun _ hk => hk.2) (.int .i64 t287)) (fun _ h_ => h_.1)))); (case side2 => exact (Kd.R_reads' HO279.out).2.1); rintro e w21 ⟨rfl, hb⟩; replace HO279 := am (Kd.R_below (by (with_reducible repeat (first | apply Kd.R_alloc | apply Kd.R_drewN | apply Kd.R_drew)); exact (Kd.R_mono (Kd.R_far (p := ⟨gb288, 1, none⟩) (Kd.R_far (p := ⟨gb288, 0, none⟩) (Kd.R_types HO279.out BK288.out (by decide)) (fun _ hk => hk.2) (.int .i64 t286)) (fun _ hk => hk.2) (.int .i64 t287)) (fun _ h_ => h_.1))) hb); replace HO285 := am (Kd.R_below (by (with_reducible repeat (first | apply Kd.R_alloc | apply Kd.R_drewN | apply Kd.R_drew)); exact (Kd.R_mono (Kd.R_far (p := ⟨gb288, 1, none⟩) (Kd.R_far (p := ⟨gb288, 0, none⟩) (Kd.R_types HO285.out BK288.out (by decide)) (fun _ hk => hk.2) (.int .i64 t286)) (fun _ hk => hk.2) (.int .i64 t287)) (fun _ h_ => h_.1))) hb); replace BK282 := am (blk_below (g := gb282) (o := b2 t280 t281 26) (by refine fa NB282_288 ?_; refine fa NB282_288 ?_; exact Z BK282) hb); replace BK288 := am (blk_below (g := gb288) (o := b2 t286 t287 26) (by refine pf ?_; refine blk_put (cs := #[.int .i64 t286, .int .i64 0]) ?_ 1 _ rfl; refine pf ?_; refine blk_put (cs := #[.int .i64 0, .int .i64 0]) ?_ 0 _ rfl; exact Z BK288) hb); replace HB := am (below_step (YA HB) hb); (try clear hb)) | (go_at_call 17; (with_reducible refine (spec_LexJoin.calls k _ _ t277 t291 t292 _ ?side1 ?side2 A9.out).mono ?_); (case side1 => repeat (first | exact (Kd.R_reads' HO279.out).2.2 | (with_reducible refine Kd.C_alloc ?_ _) | (with_reducible refine Kd.C_drewN ?_ _) | (with_reducible refine Kd.C_drew ?_))); (case side2 => exact (Kd.R_reads' HO279.out).2.1); rintro e w22 ⟨rfl, hb⟩; replace HO279 := am (Kd.R_below (RZ HO279) hb); replace HO285 := am (Kd.R_below (RZ HO285) hb); replace BK282 := bb BK282 hb; replace BK288 := bb BK288 hb; replace HB := am (below_step (YA HB) hb); (try clear hb))))
  (try simp only [Act.put, List.setIfInBounds_toArray, List.set_cons_zero, List.set_cons_succ])
  go_cut [56] (fun v56 wc => ∃ (kq : Nat) (x56_9 : Bool), v56 = .bool x56_9 ∧ Aside0 (laws_FnLexBack.j0 kq t277 t289 t290 x56_9 = some r) ∧ Aside0 (kq ≤ k) ∧ Aside0 (Kd.R k42 42 wc w.heap.size (fun _ => True) (.slice Ao20 t277.length co20) t277) ∧ Aside0 (wc.heap[gb282]? = some (.cells #[.int .i64 t280, .int .i64 t281] 26 (0, 0))) ∧ Aside0 (wc.heap[gb288]? = some (.cells #[.int .i64 t286, .int .i64 t287] 26 (0, 0))) ∧ Aside0 (Below w.heap.size w wc))
  case first =>
   have H := HC10.out
   clear HC10
   by_cases c23 : (t290 != t292) = true
   rotate_left
   ·rw [if_neg c23] at H
    have c23b0 : (t290 != t292) = false := by simpa using c23
    (try (have c23b1 : decide (t290 = t292) = true := by simpa using c23))
    (try (have c23b2 : (t290 == t292) = true := by simpa using c23))
    clear c23
    (first | rw [c23b0] | (simp only [i64_w, i32_w]; rw [c23b0]) | skip)
    have H' := am H
    clear H
    go_wp2
    repeat (go_quiet (fail); try go_wp2)
    go_meet
    case rel => exact ⟨_, ((t289.toList != t291.toList)), ey, H', ⟨by first | omega | exact Nat.le_refl _⟩, ⟨by (with_reducible repeat (first | apply Kd.R_alloc | apply Kd.R_drewN | apply Kd.R_drew)); exact Kd.R_mono HO279.out (fun _ hk => trivial)⟩, ⟨Z BK282⟩, ⟨Z BK288⟩, ⟨YA HB⟩⟩
   rw [if_pos c23] at H
   have c23b0 : (t290 != t292) = true := c23
   (try (have c23b1 : decide (t290 = t292) = false := by simpa using c23))
   (try (have c23b2 : (t290 == t292) = false := by simpa using c23))
   (try (have c23b3 : ¬ (t290 = t292) := by simpa using c23))
   clear c23
   (first | rw [c23b0] | (simp only [i64_w, i32_w]; rw [c23b0]) | skip)
   have H' := am H
   clear H
   go_wp2
   repeat (go_quiet (fail); try go_wp2)
   go_meet
   case rel => exact ⟨_, (true), ey, H', ⟨by first | omega | exact Nat.le_refl _⟩, ⟨by (with_reducible repeat (first | apply Kd.R_alloc | apply Kd.R_drewN | apply Kd.R_drew)); exact Kd.R_mono HO279.out (fun _ hk => trivial)⟩, ⟨Z BK282⟩, ⟨Z BK288⟩, ⟨YA HB⟩⟩
  case rest =>
   clear HC10
   (try clear c2b0);(try clear c2b1);(try clear c6b0);(try clear c7b0);(try clear c7b1);(try clear hcz14_0);(try clear hcz14_1);(try clear hcz18_0);(try clear hcz18_1);(try clear hcz19_0);(try clear hcz19_1);(try clear hfz14_0);(try clear hfz14_1);(try clear hfz18_0);(try clear hfz18_1);(try clear hfz19_0);(try clear hfz19_1)
   obtain ⟨kq, x56_9, rfl, HA, HJ9, HO_4, BK282, BK288, HB⟩ := hcut
   cases kq with
   | zero => exact absurd HA.out (by simp [laws_FnLexBack.j0])
   | succ kj9 =>
    have H := HA.out
    clear HA
    simp only [laws_FnLexBack.j0] at H
    by_cases c24 : x56_9 = true
    ·subst c24
     rw [if_pos rfl] at H
     exact absurd H (by simp)
    replace c24 := Bool.eq_false_iff.mpr c24
    subst c24
    rw [if_neg (show ¬ (false = true) by decide)] at H
    by_cases c25 : t290 = true
    rotate_left
    ·replace c25 := Bool.eq_false_iff.mpr c25
     subst c25
     rw [if_neg (show ¬ (false = true) by decide)] at H
     obtain rfl := Option.some.inj H
     go_wp2
     repeat (go_quiet (fail); try go_wp2)
     go_ret
     exact ⟨ez, YA HB⟩
    subst c25
    rw [if_pos rfl] at H
    replace H := Option.bind_eq_some_iff.mp H
    obtain ⟨⟨t293, t296, t297⟩, A260, H⟩ := H
    try dsimp only at H
    have A26 := am A260
    clear A260
    have HC27 := am H
    clear H
    go_upto_region 17 with (first | (go_at_call 11; (with_reducible refine (impl_LexTokens.calls kj9 t289 t293 t296 t297 _ A26.out).mono ?_); rintro e w28 ⟨v294, rfl, ho0, hb⟩; have HO295 := am (Kd.R_lower (Kd.R_new' ho0 (Kd.R_lt (RZ HO_4))) (below_size (YA HB))); replace HO_4 := am (Kd.R_elder' (RZ HO_4) (Kd.R_base ho0) hb); replace BK282 := bb BK282 hb; replace BK288 := bb BK288 hb; replace HB := am (below_step (YA HB) hb); (try clear hb); (try clear ho0)) | ((with_reducible refine gate_dst (N := 13) rfl ?_); (try (refine gate_guard (by rfl) ?_; dsimp only)); refine bx 13 #[.int .i64 0, .int .i64 0] 26 ?_; intro gb298 hg w29 hbox hb; have BK298 := am (hbox); have GW298 := am (bs hg (YA HB)); have GE298 := GW298; obtain ⟨NB282_298,NB298_282⟩ := ne_ hg BK282; obtain ⟨NB288_298,NB298_288⟩ := ne_ hg BK288; replace HO_4 := am (Kd.R_below (RZ HO_4) hb); replace HO295 := am (Kd.R_below (RZ HO295) hb); replace BK282 := bb BK282 hb; replace BK288 := bb BK288 hb; replace HB := am (below_step (YA HB) hb); clear hb hbox hg; obtain ⟨hnb30,hnc30⟩ := nn NB298_282; obtain ⟨hnb31,hnc31⟩ := nn NB298_288; obtain ⟨hcz32_0,hcz32_1,hfz32_0,hfz32_1⟩ := cB2 BK298))
    try have hnb30 := NB298_282.out
    try have hnc30 := NB282_298.out
    try have hnb31 := NB298_288.out
    try have hnc31 := NB288_298.out
    try have hcz32_0 := bc BK298 0
    try have hcz32_1 := bc BK298 1
    try have hfz32_0 := blk_frozen BK298.out 0
    try have hfz32_1 := blk_frozen BK298.out 1
    repeat (go_quiet (first | (go_at_call 11; (with_reducible refine (impl_LexTokens.calls kj9 t289 t293 t296 t297 _ A26.out).mono ?_); rintro e w28 ⟨v294, rfl, ho0, hb⟩; have HO295 := am (Kd.R_lower (Kd.R_new' ho0 (Kd.R_lt (RZ HO_4))) (below_size (YA HB))); replace HO_4 := am (Kd.R_elder' (RZ HO_4) (Kd.R_base ho0) hb); replace BK282 := bb BK282 hb; replace BK288 := bb BK288 hb; replace HB := am (below_step (YA HB) hb); (try clear hb); (try clear ho0)) | ((with_reducible refine gate_dst (N := 13) rfl ?_); (try (refine gate_guard (by rfl) ?_; dsimp only)); refine bx 13 #[.int .i64 0, .int .i64 0] 26 ?_; intro gb298 hg w29 hbox hb; have BK298 := am (hbox); have GW298 := am (bs hg (YA HB)); have GE298 := GW298; obtain ⟨NB282_298,NB298_282⟩ := ne_ hg BK282; obtain ⟨NB288_298,NB298_288⟩ := ne_ hg BK288; replace HO_4 := am (Kd.R_below (RZ HO_4) hb); replace HO295 := am (Kd.R_below (RZ HO295) hb); replace BK282 := bb BK282 hb; replace BK288 := bb BK288 hb; replace HB := am (below_step (YA HB) hb); clear hb hbox hg; (try (obtain ⟨hnb30,hnc30⟩ := nn NB298_282; obtain ⟨hnb31,hnc31⟩ := nn NB298_288; obtain ⟨hcz32_0,hcz32_1,hfz32_0,hfz32_1⟩ := cB2 BK298)))); go_upto_region 17 with (first | (go_at_call 11; (with_reducible refine (impl_LexTokens.calls kj9 t289 t293 t296 t297 _ A26.out).mono ?_); rintro e w28 ⟨v294, rfl, ho0, hb⟩; have HO295 := am (Kd.R_lower (Kd.R_new' ho0 (Kd.R_lt (RZ HO_4))) (below_size (YA HB))); replace HO_4 := am (Kd.R_elder' (RZ HO_4) (Kd.R_base ho0) hb); replace BK282 := bb BK282 hb; replace BK288 := bb BK288 hb; replace HB := am (below_step (YA HB) hb); (try clear hb); (try clear ho0)) | ((with_reducible refine gate_dst (N := 13) rfl ?_); (try (refine gate_guard (by rfl) ?_; dsimp only)); refine bx 13 #[.int .i64 0, .int .i64 0] 26 ?_; intro gb298 hg w29 hbox hb; have BK298 := am (hbox); have GW298 := am (bs hg (YA HB)); have GE298 := GW298; obtain ⟨NB282_298,NB298_282⟩ := ne_ hg BK282; obtain ⟨NB288_298,NB298_288⟩ := ne_ hg BK288; replace HO_4 := am (Kd.R_below (RZ HO_4) hb); replace HO295 := am (Kd.R_below (RZ HO295) hb); replace BK282 := bb BK282 hb; replace BK288 := bb BK288 hb; replace HB := am (below_step (YA HB) hb); clear hb hbox hg; (try (obtain ⟨hnb30,hnc30⟩ := nn NB298_282; obtain ⟨hnb31,hnc31⟩ := nn NB298_288; obtain ⟨hcz32_0,hcz32_1,hfz32_0,hfz32_1⟩ := cB2 BK298)))))
    (try simp only [Act.put, List.setIfInBounds_toArray, List.set_cons_zero, List.set_cons_succ])
    go_cut [73] (fun v73 wc => ∃ (kq : Nat) (x73_26 : Bool), v73 = .bool x73_26 ∧ Aside0 (laws_FnLexBack.j1 kq t277 t293 x73_26 = some r) ∧ Aside0 (kq ≤ kj9) ∧ Aside0 (Kd.R k42 42 wc w.heap.size (fun k_ => some k_ ≠ (v294 : Value).ownBlock) (.slice Ao20 t277.length co20) t277) ∧ Aside0 (Kd.R k42 42 wc w.heap.size (fun k_ => some k_ ≠ ((.slice Ao20 t277.length co20) : Value).ownBlock) v294 t293) ∧ Aside0 (wc.heap[gb282]? = some (.cells #[.int .i64 t280, .int .i64 t281] 26 (0, 0))) ∧ Aside0 (wc.heap[gb288]? = some (.cells #[.int .i64 t286, .int .i64 t287] 26 (0, 0))) ∧ Aside0 (wc.heap[gb298]? = some (.cells #[.int .i64 t296, .int .i64 t297] 26 (0, 0))) ∧ Aside0 (Below w.heap.size w wc))
    case first =>
     have H := HC27.out
     clear HC27
     by_cases c33 : t296 = 0
     rotate_left
     ·rw [if_neg c33] at H
      have c33b0 := eF c33
      have c33b1 := nT c33
      (first | rw [c33b0] | (simp only [i64_w, i32_w]; rw [c33b0]) | skip)
      have H' := am H
      clear H
      obtain ⟨hnb38,hnc38⟩ := nn NB298_282
      obtain ⟨hnb39,hnc39⟩ := nn NB298_288
      obtain ⟨hcz40_0,hcz40_1,hfz40_0,hfz40_1⟩ := cB2 BK298
      go_wp2
      repeat (go_quiet (fail); try go_wp2)
      go_meet
      case rel => exact ⟨_, (true), ey, H', ⟨by have := HJ9.out; first | omega | exact Nat.le_refl _⟩, ⟨by (with_reducible repeat (first | apply Kd.R_alloc | apply Kd.R_drewN | apply Kd.R_drew)); exact Kd.R_mono (Kd.R_far (p := ⟨gb298, 1, none⟩) (Kd.R_far (p := ⟨gb298, 0, none⟩) (Kd.R_types HO_4.out BK298.out (by decide)) (fun _ hk => hk.2) (.int .i64 t296)) (fun _ hk => hk.2) (.int .i64 t297)) (fun _ hk => hk.1.2)⟩, ⟨by (with_reducible repeat (first | apply Kd.R_alloc | apply Kd.R_drewN | apply Kd.R_drew)); exact Kd.R_mono (Kd.R_far (p := ⟨gb298, 1, none⟩) (Kd.R_far (p := ⟨gb298, 0, none⟩) (Kd.R_types HO295.out BK298.out (by decide)) (fun _ hk => hk.2) (.int .i64 t296)) (fun _ hk => hk.2) (.int .i64 t297)) (fun _ hk => hk.1.2)⟩, ⟨by refine fa NB282_298 ?_; refine fa NB282_298 ?_; exact Z BK282⟩, ⟨by refine fa NB288_298 ?_; refine fa NB288_298 ?_; exact Z BK288⟩, ⟨by refine pf ?_; refine blk_put (cs := #[.int .i64 t296, .int .i64 0]) ?_ 1 _ rfl; refine pf ?_; refine blk_put (cs := #[.int .i64 0, .int .i64 0]) ?_ 0 _ rfl; exact Z BK298⟩, ⟨YA HB⟩⟩
     rw [if_pos c33] at H
     have c33b0 := eT c33
     have c33b1 := nF c33
     clear c33
     (first | rw [c33b0] | (simp only [i64_w, i32_w]; rw [c33b0]) | skip)
     have H' := am H
     clear H
     obtain ⟨hnb34,hnc34⟩ := nn NB298_282
     obtain ⟨hnb35,hnc35⟩ := nn NB298_288
     obtain ⟨hcz36_0,hcz36_1,hfz36_0,hfz36_1⟩ := cB2 BK298
     obtain ⟨Ao37, co37, eo37⟩ := Kd.R_slice HO295.out
     subst eo37
     go_wp2
     repeat (go_quiet (fail); try go_wp2)
     go_meet
     case rel => exact ⟨_, (((t293.length : Int) != (t277.length : Int))), ey, H', ⟨by have := HJ9.out; first | omega | exact Nat.le_refl _⟩, ⟨by (with_reducible repeat (first | apply Kd.R_alloc | apply Kd.R_drewN | apply Kd.R_drew)); exact Kd.R_mono (Kd.R_far (p := ⟨gb298, 1, none⟩) (Kd.R_far (p := ⟨gb298, 0, none⟩) (Kd.R_types HO_4.out BK298.out (by decide)) (fun _ hk => hk.2) (.int .i64 t296)) (fun _ hk => hk.2) (.int .i64 t297)) (fun _ hk => hk.1.2)⟩, ⟨by (with_reducible repeat (first | apply Kd.R_alloc | apply Kd.R_drewN | apply Kd.R_drew)); exact Kd.R_mono (Kd.R_far (p := ⟨gb298, 1, none⟩) (Kd.R_far (p := ⟨gb298, 0, none⟩) (Kd.R_types HO295.out BK298.out (by decide)) (fun _ hk => hk.2) (.int .i64 t296)) (fun _ hk => hk.2) (.int .i64 t297)) (fun _ hk => hk.1.2)⟩, ⟨by refine fa NB282_298 ?_; refine fa NB282_298 ?_; exact Z BK282⟩, ⟨by refine fa NB288_298 ?_; refine fa NB288_298 ?_; exact Z BK288⟩, ⟨by refine pf ?_; refine blk_put (cs := #[.int .i64 t296, .int .i64 0]) ?_ 1 _ rfl; refine pf ?_; refine blk_put (cs := #[.int .i64 0, .int .i64 0]) ?_ 0 _ rfl; exact Z BK298⟩, ⟨YA HB⟩⟩
    case rest =>
     clear HC27
     (try clear c24);(try clear c25);(try clear hcz32_0);(try clear hcz32_1);(try clear hfz32_0);(try clear hfz32_1)
     obtain ⟨kq, x73_26, rfl, HA, HJ26, HO_4, HO_12, BK282, BK288, BK298, HB⟩ := hcut
     cases kq with
     | zero => exact absurd HA.out (by simp [laws_FnLexBack.j1])
     | succ kj26 =>
      have H := HA.out
      clear HA
      simp only [laws_FnLexBack.j1] at H
      by_cases c41 : x73_26 = true
      ·subst c41
       rw [if_pos rfl] at H
       exact absurd H (by simp)
      replace c41 := Bool.eq_false_iff.mpr c41
      subst c41
      rw [if_neg (show ¬ (false = true) by decide)] at H
      have H' := am H
      clear H
      go_wp2
      repeat (go_quiet (fail); try go_wp2)
      go_loopg [14] kj26 (fun kq v14 w' => ∃ (x14_3 : Int), v14 = .int .i64 x14_3 ∧ Aside0 (laws_FnLexBack.l0 kq t277 t293 x14_3 = some r) ∧ Aside0 (kq ≤ kj26) ∧ Aside0 (Kd.R k42 42 w' w.heap.size (fun k_ => some k_ ≠ (v294 : Value).ownBlock) (.slice Ao20 t277.length co20) t277) ∧ Aside0 (Kd.R k42 42 w' w.heap.size (fun k_ => some k_ ≠ ((.slice Ao20 t277.length co20) : Value).ownBlock) v294 t293) ∧ Aside0 (w'.heap[gb282]? = some (.cells #[.int .i64 t280, .int .i64 t281] 26 (0, 0))) ∧ Aside0 (w'.heap[gb288]? = some (.cells #[.int .i64 t286, .int .i64 t287] 26 (0, 0))) ∧ Aside0 (w'.heap[gb298]? = some (.cells #[.int .i64 t296, .int .i64 t297] 26 (0, 0))) ∧ Aside0 (Below w.heap.size w w'))
      case atStart => exact ⟨(0), ey, H', ⟨Nat.le_refl _⟩, ⟨by exact RZ HO_4⟩, ⟨by exact RZ HO_12⟩, ⟨Z BK282⟩, ⟨Z BK288⟩, ⟨Z BK298⟩, ⟨YA HB⟩⟩
      case round =>
       clear H'
       try clear c41
       obtain ⟨x14_3, rfl, HA, HK3, HO_4, HO_12, BK282, BK288, BK298, HB⟩ := hrel
       cases gk with
       | zero => exact absurd HA.out (by simp [laws_FnLexBack.l0])
       | succ k3 =>
        have H := HA.out
        clear HA
        simp only [laws_FnLexBack.l0] at H
        by_cases c42 : x14_3 < (t293.length : Int)
        rotate_left
        ·rw [if_neg c42] at H
         have c42b0 := dF c42
         clear c42
         obtain rfl := Option.some.inj H
         obtain ⟨Ao49, co49, eo49⟩ := Kd.R_slice HO_12.out
         subst eo49
         go_wp2
         repeat (go_quiet (fail); try go_wp2)
         go_ret
         exact ⟨ez, YA HB⟩
        rw [if_pos c42] at H
        have c42b0 := dT c42
        clear c42
        by_cases c43 : 0 ≤ x14_3
        rotate_left
        ·rw [if_neg c43] at H
         exact absurd H (by simp)
        rw [if_pos c43] at H
        have c43b0 := dT c43
        clear c43
        by_cases c44 : x14_3 < (t277.length : Int)
        rotate_left
        ·rw [if_neg c44] at H
         exact absurd H (by simp)
        rw [if_pos c44] at H
        have c44b0 := dT c44
        clear c44
        by_cases c45 : ((rd_T42 t293 x14_3).f0) = ((rd_T42 t277 x14_3).f0)
        rotate_left
        ·rw [if_neg c45] at H
         exact absurd H (by simp)
        rw [if_pos c45] at H
        have c45b0 := eT c45
        have c45b1 := nF c45
        clear c45
        by_cases c46 : ((rd_T42 t293 x14_3).f2).toList = ((rd_T42 t277 x14_3).f2).toList
        rotate_left
        ·rw [if_neg c46] at H
         exact absurd H (by simp)
        rw [if_pos c46] at H
        have c46b0 := eT c46
        have c46b1 := nF c46
        clear c46
        by_cases c47 : ((rd_T42 t293 x14_3).f3) = ((rd_T42 t277 x14_3).f3)
        rotate_left
        ·rw [if_neg c47] at H
         exact absurd H (by simp)
        rw [if_pos c47] at H
        have c47b0 := eT c47
        have c47b1 := nF c47
        clear c47
        have H' := am H
        clear H
        obtain ⟨Ao48, co48, eo48⟩ := Kd.R_slice HO_12.out
        subst eo48
        have p299 : 0 ≤ (x14_3 : Int) := oz
        have q299 : x14_3 < (t293.length : Int) := oz
        obtain ⟨ad299, e299, hx299_0, hx299_1, hx299_2, hx299_3⟩ := at_T42 (Kd.R_reads' HO_12.out).2.2 x14_3 p299 q299
        cases e299
        replace p299 := eq_true p299
        replace q299 := eq_true q299
        have p300 : 0 ≤ (x14_3 : Int) := oz
        have q300 : x14_3 < (t277.length : Int) := oz
        obtain ⟨ad300, e300, hx300_0, hx300_1, hx300_2, hx300_3⟩ := at_T42 (Kd.R_reads' HO_4.out).2.2 x14_3 p300 q300
        cases e300
        replace p300 := eq_true p300
        replace q300 := eq_true q300
        have p301 : 0 ≤ (x14_3 : Int) := oz
        have q301 : x14_3 < (t293.length : Int) := oz
        obtain ⟨ad301, e301, hx301_0, hx301_1, hx301_2, hx301_3⟩ := at_T42 (Kd.R_reads' HO_12.out).2.2 x14_3 p301 q301
        obtain rfl : ad299 = ad301 := (by injection e301)
        replace p301 := eq_true p301
        replace q301 := eq_true q301
        have p302 : 0 ≤ (x14_3 : Int) := oz
        have q302 : x14_3 < (t277.length : Int) := oz
        obtain ⟨ad302, e302, hx302_0, hx302_1, hx302_2, hx302_3⟩ := at_T42 (Kd.R_reads' HO_4.out).2.2 x14_3 p302 q302
        obtain rfl : ad300 = ad302 := (by injection e302)
        replace p302 := eq_true p302
        replace q302 := eq_true q302
        have p303 : 0 ≤ (x14_3 : Int) := oz
        have q303 : x14_3 < (t293.length : Int) := oz
        obtain ⟨ad303, e303, hx303_0, hx303_1, hx303_2, hx303_3⟩ := at_T42 (Kd.R_reads' HO_12.out).2.2 x14_3 p303 q303
        obtain rfl : ad299 = ad303 := (by injection e303)
        replace p303 := eq_true p303
        replace q303 := eq_true q303
        have p304 : 0 ≤ (x14_3 : Int) := oz
        have q304 : x14_3 < (t277.length : Int) := oz
        obtain ⟨ad304, e304, hx304_0, hx304_1, hx304_2, hx304_3⟩ := at_T42 (Kd.R_reads' HO_4.out).2.2 x14_3 p304 q304
        obtain rfl : ad300 = ad304 := (by injection e304)
        replace p304 := eq_true p304
        replace q304 := eq_true q304
        go_wp2
        repeat (go_quiet (fail); try go_wp2)
        go_roundg k3
        case measure => have := HJ9.out; have := HJ26.out; have := HK3.out; omega
        case rel => exact ⟨(wrap64 (x14_3 + 1)), ey, H', ⟨by have := HJ9.out; have := HJ26.out; have := HK3.out; omega⟩, ⟨by exact RZ HO_4⟩, ⟨by exact RZ HO_12⟩, ⟨Z BK282⟩, ⟨Z BK288⟩, ⟨Z BK298⟩, ⟨YA HB⟩⟩
 -- THE ONE PURE STATEMENT of laws_FnLexBack: yours. -/
def laws_FnLexBack.Pure : Prop := ∀ (l0 : List Int), l0.length ≤ maxLen → l0.length * 1 ≤ 140737488351232 → (∀ x ∈ l0, (Lit.int .u8 x).wf = true) → ∃ k, laws_FnLexBack.f k l0 = some true
theorem laws_FnLexBack.walk (P : laws_FnLexBack.Pure) (a0 : Option Addr) (len0 cap0 : Nat) (z0 : List Int) (w : World) (w0 : (a0 = none ∧ len0 = 0 ∧ cap0 = 0 ∧ z0 = []) ∨ ∃ x, a0 = some x ∧ len0 ≤ cap0 ∧ cap0 ≤ maxLen ∧ z0.length = cap0 ∧ (∀ i, i < z0.length → w.cell? (x.add i) = some (.int .u8 (z0.getD i 0))) ∧ ∀ n ∈ z0, (Lit.int .u8 n).wf = true) (y0 : len0 * 1 ≤ 140737488351232) (hT : PFnExactSignAt.Tab w) :
  Calls Tryd.prog 6 #[.slice a0 len0 cap0] w fun e w' => e = .returned (.bool true) ∧ Below w.heap.size w w' := by
 obtain ⟨l0, rfl, hr0, hm0, hw0, hc0⟩ := ReadsInt.ofRowC w0
 obtain ⟨k, h⟩ := P l0 hm0 y0 hw0
 refine (laws_FnLexBack.calls k _ _ l0 true w (Kd.C_of_reads (d := (0 : Int)) (h1 := fun _ => rfl) hr0) hc0 h).mono ?_
 rintro e w' ⟨rfl, hd⟩
 exact ⟨rfl, hd⟩

end Go.Proofs.YtnbpgnkplahknaaDoor.PFnLexBack
