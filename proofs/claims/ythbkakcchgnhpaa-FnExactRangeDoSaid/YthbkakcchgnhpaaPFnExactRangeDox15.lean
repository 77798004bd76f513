/- Written by this session's own driver (wip/dprint.py): the functions that the law FnExactRangeDo reaches, as Lean functions, each with its contract. -/
import Derived.Test.YthbkakcchgnhpaaPFnExactRangeDox0
import Derived.Test.YthbkakcchgnhpaaPFnExactRangeDox12
import Derived.Test.YthbkakcchgnhpaaPFnExactRangeDox14
import Derived.Test.YthbkakcchgnhpaaSv
namespace Go.Proofs.Ythbkakcchgnhpaa.PFnExactRangeDo
open Go.RowKit Go.Proofs.YthbkakcchgnhpaaV.PrintWords Go.Proofs.YthbkakcchgnhpaaV.PrintLast Go.Proofs.YthbkakcchgnhpaaV.PrintMore Go.Proofs.YthbkakcchgnhpaaSv
attribute [local go_sem] max2_int min2_int max_two min_two max_three min_three max_four min_four   -- for this text's walks alone
set_option linter.unusedVariables false
set_option linter.unusedSimpArgs false

/-! ### impl_rangeFrom: function 50 -/
attribute [local go_sem] Go.Proofs.YthbkakcchgnhpaaSet.isSome_setCell
def impl_rangeFrom.f (a0 : Int) (a1 : Int) : Option (Int × Int) := if (mx a0 (-2147483648)) > (mn a1 2147483647) then ((impl_rangeNone.f).bind fun bt307 => (some (bt307.1, bt307.2))) else (some (mx a0 (-2147483648), mn a1 2147483647))
set_option maxHeartbeats 8000000 in
set_option maxRecDepth 100000 in
theorem impl_rangeFrom.calls (a0 : Int) (a1 : Int) (r1 : Int) (r2 : Int) (w : World) (h : impl_rangeFrom.f a0 a1 = some (r1, r2)) :
  Calls Try.prog 50 #[.int .i64 a0, .int .i64 a1] w fun e w' => e = .returned (.agg #[.int .i64 r1, .int .i64 r2]) ∧ Below w.heap.size w w' := by
 have hu24 := Try.underlying24
 have HB := am (Below.refl w.heap.size w)
 have H : (if (mx a0 (-2147483648)) > (mn a1 2147483647) then ((impl_rangeNone.f).bind fun bt307 => (some (bt307.1, bt307.2))) else (some (mx a0 (-2147483648), mn a1 2147483647))) = some (r1, r2) := h
 clear h
 obtain ⟨ji3, hji3⟩ : ∃ j_ : Int, (mx a0 (-2147483648)) = j_ := ⟨_, rfl⟩
 replace H : (if (ji3) > (mn a1 2147483647) then ((impl_rangeNone.f).bind fun bt307 => (some (bt307.1, bt307.2))) else (some (ji3, mn a1 2147483647))) = some (r1, r2) := by first | (rw [hji3] at H; exact H) | (simp only [hji3] at H ⊢; exact H)
 have hji3_ : (if a0 < (-2147483648) then (-2147483648) else a0) = ji3 := hji3
 obtain ⟨ji4, hji4⟩ : ∃ j_ : Int, (mn a1 2147483647) = j_ := ⟨_, rfl⟩
 replace H : (if (ji3) > (ji4) then ((impl_rangeNone.f).bind fun bt307 => (some (bt307.1, bt307.2))) else (some (ji3, ji4))) = some (r1, r2) := by first | (rw [hji4] at H; exact H) | (simp only [hji4] at H ⊢; exact H)
 (try (have hji4h : ji4 ≤ 2147483647 := by (rw [← hji4]; unfold mn; (repeat' split) <;> omega)))
 (try (have hji4g : ji4 ≤ 64 := by omega))
 have hji4_ : (if 2147483647 < a1 then 2147483647 else a1) = ji4 := hji4
 by_cases c5 : (ji3) > (ji4)
 rotate_left
 ·rw [if_neg c5] at H
  have c5b0 : decide ((ji4) < (ji3)) = false := decide_eq_false c5
  clear c5
  simp only [Option.some.injEq, Prod.mk.injEq] at H
  obtain ⟨rfl, rfl⟩ := H
  go_enter Try.func50, Try.ntmps50
  go_wp2_with (first | ((with_reducible refine gate_dst (N := 4) rfl ?_); refine bx 4 #[.int .i64 0, .int .i64 0] 24 ?_; intro gb305 hg w13 hbox hb; have BK305 := am (hbox); have GW305 := am (bs hg (Y0 HB)); have GE305 := am (bs hg (Y0 HB)); replace HB := am (below_step (Y0 HB) hb); clear hb hbox hg) | ((with_reducible refine gate_dst (N := 5) rfl ?_); refine bx 5 #[.int .i64 0, .int .i64 0] 24 ?_; intro gb306 hg w14 hbox hb; have BK306 := am (hbox); have GW306 := am (bs hg (Y1 HB GE305)); have GE306 := am (bs hg (Y1 HB GE305)); obtain ⟨NB305_306,NB306_305⟩ := ne_ hg BK305; replace BK305 := bb BK305 hb; replace HB := am (below_step (Y1 HB GE305) hb); clear hb hbox hg; obtain ⟨hnb15,hnc15⟩ := nn NB306_305; obtain ⟨hcz16_0,hcz16_1,hfz16_0,hfz16_1⟩ := c2 BK306; obtain ⟨hcz17_0,hcz17_1,hfz17_0,hfz17_1⟩ := c2 BK305))
  refine bodyPost_ret (results_cell_row rfl _ _ gb305 24 #[.int .i64 ji3, .int .i64 ji4] (0, 0) _ rfl (by refine pf ?_; refine blk_put (cs := #[.int .i64 ji3, .int .i64 0]) ?_ 1 _ rfl; refine pf ?_; refine blk_put (cs := #[.int .i64 0, .int .i64 0]) ?_ 0 _ rfl; refine fa NB305_306 ?_; refine fa NB305_306 ?_; exact Z BK305) Try.underlying24 rfl (by kernel_rfl)) rfl ?_
  exact ⟨by first | rfl | (simp [errW_none, errW_some] <;> rfl) | (simp only [← hji3, ← hji4]; first | rfl | (simp [errW_none, errW_some] <;> rfl)) | (simp [*, errW_none, errW_some] <;> rfl), Y2 HB GE305 GE306⟩
 rw [if_pos c5] at H
 have c5b0 : decide ((ji4) < (ji3)) = true := decide_eq_true c5
 clear c5
 replace H := Option.bind_eq_some_iff.mp H
 obtain ⟨⟨t307, t308⟩, A60, H⟩ := H
 try dsimp only at H
 have A6 := am A60
 clear A60
 simp only [Option.some.injEq, Prod.mk.injEq] at H
 obtain ⟨rfl, rfl⟩ := H
 go_enter Try.func50, Try.ntmps50
 go_wp2_with (first | ((with_reducible refine gate_dst (N := 4) rfl ?_); refine bx 4 #[.int .i64 0, .int .i64 0] 24 ?_; intro gb305 hg w7 hbox hb; have BK305 := am (hbox); have GW305 := am (bs hg (Y0 HB)); have GE305 := am (bs hg (Y0 HB)); replace HB := am (below_step (Y0 HB) hb); clear hb hbox hg) | ((with_reducible refine gate_dst (N := 5) rfl ?_); refine bx 5 #[.int .i64 0, .int .i64 0] 24 ?_; intro gb306 hg w8 hbox hb; have BK306 := am (hbox); have GW306 := am (bs hg (Y1 HB GE305)); have GE306 := am (bs hg (Y1 HB GE305)); obtain ⟨NB305_306,NB306_305⟩ := ne_ hg BK305; replace BK305 := bb BK305 hb; replace HB := am (below_step (Y1 HB GE305) hb); clear hb hbox hg; obtain ⟨hnb9,hnc9⟩ := nn NB306_305; obtain ⟨hcz10_0,hcz10_1,hfz10_0,hfz10_1⟩ := c2 BK306) | ((with_reducible refine gate_callee (f := 48) rfl ?_); refine goesL_ (some 16) rfl rfl Try.func48 (by kernel_rfl) rfl #[] rfl mz ?_; (with_reducible refine (impl_rangeNone.calls  t307 t308 _ A6.out).mono ?_); rintro e w11 ⟨rfl, hb⟩; refine ⟨_, rfl, ?_⟩; replace BK305 := am (blk_below (g := gb305) (o := b2 0 0 24) (by refine fa NB305_306 ?_; refine fa NB305_306 ?_; exact Z BK305) hb); replace BK306 := am (blk_below (g := gb306) (o := b2 ji3 ji4 24) (by refine pf ?_; refine blk_put (cs := #[.int .i64 ji3, .int .i64 0]) ?_ 1 _ rfl; refine pf ?_; refine blk_put (cs := #[.int .i64 0, .int .i64 0]) ?_ 0 _ rfl; exact Z BK306) hb); replace HB := am (below_step (Y2 HB GE305 GE306) hb); (try clear hb); obtain ⟨hcz12_0,hcz12_1,hfz12_0,hfz12_1⟩ := c2 BK305))
 refine bodyPost_ret (results_cell_row rfl _ _ gb305 24 #[.int .i64 t307, .int .i64 t308] (0, 0) _ rfl (by refine pf ?_; refine blk_put (cs := #[.int .i64 t307, .int .i64 0]) ?_ 1 _ rfl; refine pf ?_; refine blk_put (cs := #[.int .i64 0, .int .i64 0]) ?_ 0 _ rfl; exact Z BK305) Try.underlying24 rfl (by kernel_rfl)) rfl ?_
 exact ⟨by first | rfl | (simp [errW_none, errW_some] <;> rfl) | (simp only [← hji3, ← hji4]; first | rfl | (simp [errW_none, errW_some] <;> rfl)) | (simp [*, errW_none, errW_some] <;> rfl), Y2 HB GE305 GE306⟩

/-! ### impl_NumWrap: function 62 -/
attribute [local go_sem] Go.Proofs.YthbkakcchgnhpaaSet.isSome_setCell
def impl_NumWrap.f (a0 : Int) : Option (Int) := some (wrap64 (wrap32 (a0)))
set_option maxHeartbeats 8000000 in
set_option maxRecDepth 100000 in
theorem impl_NumWrap.calls (a0 : Int) (r : Int) (w : World) (h : impl_NumWrap.f a0 = some r) :
  Calls Try.prog 62 #[.int .i64 a0] w fun e w' => e = .returned (.int .i64 r) ∧ Drawn0 w w' := by
 have H : (some (wrap64 (wrap32 (a0)))) = some r := h
 clear h
 obtain rfl := Option.some.inj H
 go_enter Try.func62, Try.ntmps62
 go_wp2
 go_ret
 exact ⟨by first | rfl | (simp; done) | (simp [*]; done), by repeat (first | exact Drawn0.refl _ | apply Drawn0.step)⟩

/-! ### impl_rangeWrap: function 51 -/
attribute [local go_sem] Go.Proofs.YthbkakcchgnhpaaSet.isSome_setCell
def impl_rangeWrap.j0 : Nat → Int → Int → Bool → Option (Int × Int)
 | 0, _, _, _ => none
 | k + 1, x7, x8, x26 => if x26 = true then ((impl_rangeFrom.f (-2147483648) 2147483647).bind fun bt316 => (some (bt316.1, bt316.2))) else ((impl_NumWrap.f x7).bind fun t318 => ((impl_NumWrap.f x8).bind fun t319 => ((impl_rangeFrom.f t318 t319).bind fun bt320 => (some (bt320.1, bt320.2)))))
def impl_rangeWrap.f (k : Nat) (a0 : Int) (a1_0 : Int) (a1_1 : Int) (a2_0 : Int) (a2_1 : Int) : Option (Int × Int) := (impl_rangeCorners.f k a0 a1_0 a1_1 a2_0 a2_1).bind fun bt312 => (if (wrap64 (bt312.2 - bt312.1)) > 4294967295 then (impl_rangeWrap.j0 k bt312.1 bt312.2 true) else ((impl_NumWrap.f bt312.1).bind fun t314 => ((impl_NumWrap.f bt312.2).bind fun t315 => (impl_rangeWrap.j0 k bt312.1 bt312.2 (decide (t314 > t315))))))
theorem impl_rangeWrap.mono_l : ∀ k, (∀ y0 y1 y2, LeO (impl_rangeWrap.j0 k y0 y1 y2) (impl_rangeWrap.j0 (k + 1) y0 y1 y2))
 | 0 => fun _ _ _ r h => by simp [impl_rangeWrap.j0] at h
 | k + 1 => by
  have ih0 := impl_rangeWrap.mono_l k
  ·intro y0 y1 y2
   unfold impl_rangeWrap.j0
   repeat' first
   | (with_reducible exact ih0 _ _ _)
   | (with_reducible exact impl_rangeCorners.mono _ _ _ _ _ _)
   | (with_reducible exact LeO.refl _)
   | (with_reducible exact LeO.none _)
   | (with_reducible refine LeO.ite ?_ ?_)
   | (with_reducible refine LeO.bind ?_ (fun _ => ?_))
   | exact ih0 _ _ _
   | exact impl_rangeCorners.mono _ _ _ _ _ _
   | exact LeO.none _
   | refine LeO.ite ?_ ?_
   | refine LeO.bind ?_ (fun _ => ?_)
theorem impl_rangeWrap.mono : ∀ a0 a1 a2 a3 a4 k, LeO (impl_rangeWrap.f k a0 a1 a2 a3 a4) (impl_rangeWrap.f (k + 1) a0 a1 a2 a3 a4) := by
 intro a0 a1 a2 a3 a4 k
 have ih0 := impl_rangeWrap.mono_l k
 unfold impl_rangeWrap.f
 repeat' first
   | (with_reducible exact ih0 _ _ _)
   | (with_reducible exact impl_rangeCorners.mono _ _ _ _ _ _)
   | (with_reducible exact LeO.refl _)
   | (with_reducible exact LeO.none _)
   | (with_reducible refine LeO.ite ?_ ?_)
   | (with_reducible refine LeO.bind ?_ (fun _ => ?_))
   | exact ih0 _ _ _
   | exact impl_rangeCorners.mono _ _ _ _ _ _
   | exact LeO.none _
   | refine LeO.ite ?_ ?_
   | refine LeO.bind ?_ (fun _ => ?_)
set_option maxHeartbeats 8000000 in
set_option maxRecDepth 100000 in
theorem impl_rangeWrap.calls (k : Nat) (a0 : Int) (a1_0 : Int) (a1_1 : Int) (a2_0 : Int) (a2_1 : Int) (r1 : Int) (r2 : Int) (w : World) (h : impl_rangeWrap.f k a0 a1_0 a1_1 a2_0 a2_1 = some (r1, r2)) :
  Calls Try.prog 51 #[.int .i64 a0, .agg #[.int .i64 a1_0, .int .i64 a1_1], .agg #[.int .i64 a2_0, .int .i64 a2_1]] w fun e w' => e = .returned (.agg #[.int .i64 r1, .int .i64 r2]) ∧ Below w.heap.size w w' := by
 have hu24 := Try.underlying24
 have HB := am (Below.refl w.heap.size w)
 have H : ((impl_rangeCorners.f k a0 a1_0 a1_1 a2_0 a2_1).bind fun bt312 => (if (wrap64 (bt312.2 - bt312.1)) > 4294967295 then (impl_rangeWrap.j0 k bt312.1 bt312.2 true) else ((impl_NumWrap.f bt312.1).bind fun t314 => ((impl_NumWrap.f bt312.2).bind fun t315 => (impl_rangeWrap.j0 k bt312.1 bt312.2 (decide (t314 > t315))))))) = some (r1, r2) := h
 clear h
 replace H := Option.bind_eq_some_iff.mp H
 obtain ⟨⟨t312, t313⟩, A40, H⟩ := H
 try dsimp only at H
 have A4 := am A40
 clear A40
 have HC5 := am H
 clear H
 go_enter Try.func51, Try.ntmps51
 go_upto_region 2 with (first | ((with_reducible refine gate_dst (N := 4) rfl ?_); refine bx 4 #[.int .i64 a1_0, .int .i64 a1_1] 24 ?_; intro gb309 hg w6 hbox hb; have BK309 := am (hbox); have GW309 := am (bs hg (Y0 HB)); have GE309 := am (bs hg (Y0 HB)); replace HB := am (below_step (Y0 HB) hb); clear hb hbox hg) | ((with_reducible refine gate_dst (N := 5) rfl ?_); refine bx 5 #[.int .i64 a2_0, .int .i64 a2_1] 24 ?_; intro gb310 hg w7 hbox hb; have BK310 := am (hbox); have GW310 := am (bs hg (Y1 HB GE309)); have GE310 := am (bs hg (Y1 HB GE309)); obtain ⟨NB309_310,NB310_309⟩ := ne_ hg BK309; replace BK309 := bb BK309 hb; replace HB := am (below_step (Y1 HB GE309) hb); clear hb hbox hg) | ((with_reducible refine gate_dst (N := 6) rfl ?_); refine bx 6 #[.int .i64 0, .int .i64 0] 24 ?_; intro gb311 hg w8 hbox hb; have BK311 := am (hbox); have GW311 := am (bs hg (Y2 HB GE309 GE310)); have GE311 := am (bs hg (Y2 HB GE309 GE310)); obtain ⟨NB309_311,NB311_309⟩ := ne_ hg BK309; obtain ⟨NB310_311,NB311_310⟩ := ne_ hg BK310; replace BK309 := bb BK309 hb; replace BK310 := bb BK310 hb; replace HB := am (below_step (Y2 HB GE309 GE310) hb); clear hb hbox hg; obtain ⟨hnb9,hnc9⟩ := nn NB309_310; obtain ⟨hnb10,hnc10⟩ := nn NB309_311; obtain ⟨hcz11_0,hcz11_1,hfz11_0,hfz11_1⟩ := c2 BK309; obtain ⟨hnb12,hnc12⟩ := nn NB310_311; obtain ⟨hcz13_0,hcz13_1,hfz13_0,hfz13_1⟩ := c2 BK310) | ((with_reducible refine gate_callee (f := 49) rfl ?_); refine goesL_ (some 13) rfl rfl Try.func49 (by kernel_rfl) rfl #[.int .i64 a0, .agg #[.int .i64 a1_0, .int .i64 a1_1], .agg #[.int .i64 a2_0, .int .i64 a2_1]] rfl mz ?_; (with_reducible refine (impl_rangeCorners.calls k a0 a1_0 a1_1 a2_0 a2_1 t312 t313 _ A4.out).mono ?_); rintro e w14 ⟨rfl, hb⟩; refine ⟨_, rfl, ?_⟩; replace BK309 := bb BK309 hb; replace BK310 := bb BK310 hb; replace BK311 := bb BK311 hb; replace HB := am (below_step (Y3 HB GE309 GE310 GE311) hb); (try clear hb)))
 (try simp only [Act.put, List.setIfInBounds_toArray, List.set_cons_zero, List.set_cons_succ])
 go_cut [26] (fun v26 wc => ∃ (kq : Nat) (x26_4 : Bool), v26 = .bool x26_4 ∧ Aside0 (impl_rangeWrap.j0 kq t312 t313 x26_4 = some (r1, r2)) ∧ Aside0 (kq ≤ k) ∧ Aside0 (wc.heap[gb309]? = some (.cells #[.int .i64 a1_0, .int .i64 a1_1] 24 (0, 0))) ∧ Aside0 (wc.heap[gb310]? = some (.cells #[.int .i64 a2_0, .int .i64 a2_1] 24 (0, 0))) ∧ Aside0 (wc.heap[gb311]? = some (.cells #[.int .i64 0, .int .i64 0] 24 (0, 0))) ∧ Aside0 (Below w.heap.size w wc))
 case first =>
  have H := HC5.out
  clear HC5
  by_cases c15 : (wrap64 (t313 - t312)) > 4294967295
  ·rw [if_pos c15] at H
   have c15b0 : decide (4294967295 < (wrap64 (t313 - t312))) = true := decide_eq_true c15
   clear c15
   (first | rw [c15b0] | (simp only [i64_w, i32_w]; rw [c15b0]) | skip)
   have H' := am H
   clear H
   go_wp2
   go_meet
   case rel => exact ⟨_, (true), ey, H', ⟨by first | omega | exact Nat.le_refl _⟩, ⟨Z BK309⟩, ⟨Z BK310⟩, ⟨Z BK311⟩, ⟨Y3 HB GE309 GE310 GE311⟩⟩
  rw [if_neg c15] at H
  have c15b0 : decide (4294967295 < (wrap64 (t313 - t312))) = false := decide_eq_false c15
  clear c15
  (first | rw [c15b0] | (simp only [i64_w, i32_w]; rw [c15b0]) | skip)
  replace H := Option.bind_eq_some_iff.mp H
  obtain ⟨t314, A160, H⟩ := H
  try dsimp only at H
  have A16 := am A160
  clear A160
  replace H := Option.bind_eq_some_iff.mp H
  obtain ⟨t315, A170, H⟩ := H
  try dsimp only at H
  have A17 := am A170
  clear A170
  have H' := am H
  clear H
  go_wp2_with (first | (go_at_call 62; (with_reducible refine (impl_NumWrap.calls t312 t314 _ A16.out).mono ?_); rintro e w' ⟨rfl, ⟨nd, rfl⟩⟩) | (go_at_call 62; (with_reducible refine (impl_NumWrap.calls t313 t315 _ A17.out).mono ?_); rintro e w' ⟨rfl, ⟨nd, rfl⟩⟩))
  go_meet
  case rel => exact ⟨_, (decide (t314 > t315)), ey, H', ⟨by first | omega | exact Nat.le_refl _⟩, ⟨Z BK309⟩, ⟨Z BK310⟩, ⟨Z BK311⟩, ⟨Y3 HB GE309 GE310 GE311⟩⟩
 case rest =>
  clear HC5
  (try clear hcz11_0);(try clear hcz11_1);(try clear hcz13_0);(try clear hcz13_1);(try clear hfz11_0);(try clear hfz11_1);(try clear hfz13_0);(try clear hfz13_1)
  obtain ⟨kq, x26_4, rfl, HA, HJ4, BK309, BK310, BK311, HB⟩ := hcut
  cases kq with
  | zero => exact absurd HA.out (by simp [impl_rangeWrap.j0])
  | succ kj4 =>
   have H := HA.out
   clear HA
   simp only [impl_rangeWrap.j0] at H
   by_cases c18 : x26_4 = true
   ·subst c18
    rw [if_pos rfl] at H
    replace H := Option.bind_eq_some_iff.mp H
    obtain ⟨⟨t316, t317⟩, A190, H⟩ := H
    try dsimp only at H
    have A19 := am A190
    clear A190
    simp only [Option.some.injEq, Prod.mk.injEq] at H
    obtain ⟨rfl, rfl⟩ := H
    go_wp2_with (first | ((with_reducible refine gate_callee (f := 50) rfl ?_); refine goesL_ (some 27) rfl rfl Try.func50 (by kernel_rfl) rfl #[.int .i64 (-2147483648), .int .i64 2147483647] rfl mz ?_; (with_reducible refine (impl_rangeFrom.calls (-2147483648) 2147483647 t316 t317 _ A19.out).mono ?_); rintro e w20 ⟨rfl, hb⟩; refine ⟨_, rfl, ?_⟩; replace BK309 := bb BK309 hb; replace BK310 := bb BK310 hb; replace BK311 := bb BK311 hb; replace HB := am (below_step (Y3 HB GE309 GE310 GE311) hb); (try clear hb); obtain ⟨hnb21,hnc21⟩ := nn NB311_309; obtain ⟨hnb22,hnc22⟩ := nn NB311_310; obtain ⟨hcz23_0,hcz23_1,hfz23_0,hfz23_1⟩ := c2 BK311))
    refine bodyPost_ret (results_cell_row rfl _ _ gb311 24 #[.int .i64 t316, .int .i64 t317] (0, 0) _ rfl (by refine pf ?_; refine blk_put (cs := #[.int .i64 t316, .int .i64 0]) ?_ 1 _ rfl; refine pf ?_; refine blk_put (cs := #[.int .i64 0, .int .i64 0]) ?_ 0 _ rfl; exact Z BK311) Try.underlying24 rfl (by kernel_rfl)) rfl ?_
    exact ⟨ez, Y3 HB GE309 GE310 GE311⟩
   replace c18 := Bool.eq_false_iff.mpr c18
   subst c18
   rw [if_neg (show ¬ (false = true) by decide)] at H
   replace H := Option.bind_eq_some_iff.mp H
   obtain ⟨t318, A240, H⟩ := H
   try dsimp only at H
   have A24 := am A240
   clear A240
   replace H := Option.bind_eq_some_iff.mp H
   obtain ⟨t319, A250, H⟩ := H
   try dsimp only at H
   have A25 := am A250
   clear A250
   replace H := Option.bind_eq_some_iff.mp H
   obtain ⟨⟨t320, t321⟩, A260, H⟩ := H
   try dsimp only at H
   have A26 := am A260
   clear A260
   simp only [Option.some.injEq, Prod.mk.injEq] at H
   obtain ⟨rfl, rfl⟩ := H
   go_wp2_with (first | ((with_reducible refine gate_callee (f := 62) rfl ?_); refine goesL_ (some 29) rfl rfl Try.func62 (by kernel_rfl) rfl #[.int .i64 t312] rfl mz ?_; (with_reducible refine (impl_NumWrap.calls t312 t318 _ A24.out).mono ?_); rintro e w' ⟨rfl, ⟨nd, rfl⟩⟩; refine ⟨_, rfl, ?_⟩; (try (rw [drewN_self wc]; generalize hq_ : World.drewN wc _ = wc; replace BK309 : Aside0 (wc.heap[gb309]? = some (.cells #[.int .i64 a1_0, .int .i64 a1_1] 24 (0, 0))) := ⟨by rw [← hq_]; exact (Z BK309)⟩; replace BK310 : Aside0 (wc.heap[gb310]? = some (.cells #[.int .i64 a2_0, .int .i64 a2_1] 24 (0, 0))) := ⟨by rw [← hq_]; exact (Z BK310)⟩; replace BK311 : Aside0 (wc.heap[gb311]? = some (.cells #[.int .i64 0, .int .i64 0] 24 (0, 0))) := ⟨by rw [← hq_]; exact (Z BK311)⟩; replace HB : Aside0 (Below w.heap.size w wc) := ⟨by rw [← hq_]; exact (Y3 HB GE309 GE310 GE311)⟩; clear hq_))) | ((with_reducible refine gate_callee (f := 62) rfl ?_); refine goesL_ (some 31) rfl rfl Try.func62 (by kernel_rfl) rfl #[.int .i64 t313] rfl mz ?_; (with_reducible refine (impl_NumWrap.calls t313 t319 _ A25.out).mono ?_); rintro e w' ⟨rfl, ⟨nd, rfl⟩⟩; refine ⟨_, rfl, ?_⟩; (try (rw [drewN_self wc]; generalize hq_ : World.drewN wc _ = wc; replace BK309 : Aside0 (wc.heap[gb309]? = some (.cells #[.int .i64 a1_0, .int .i64 a1_1] 24 (0, 0))) := ⟨by rw [← hq_]; exact (Z BK309)⟩; replace BK310 : Aside0 (wc.heap[gb310]? = some (.cells #[.int .i64 a2_0, .int .i64 a2_1] 24 (0, 0))) := ⟨by rw [← hq_]; exact (Z BK310)⟩; replace BK311 : Aside0 (wc.heap[gb311]? = some (.cells #[.int .i64 0, .int .i64 0] 24 (0, 0))) := ⟨by rw [← hq_]; exact (Z BK311)⟩; replace HB : Aside0 (Below w.heap.size w wc) := ⟨by rw [← hq_]; exact (Y3 HB GE309 GE310 GE311)⟩; clear hq_))) | ((with_reducible refine gate_callee (f := 50) rfl ?_); refine goesL_ (some 32) rfl rfl Try.func50 (by kernel_rfl) rfl #[.int .i64 t318, .int .i64 t319] rfl mz ?_; (with_reducible refine (impl_rangeFrom.calls t318 t319 t320 t321 _ A26.out).mono ?_); rintro e w27 ⟨rfl, hb⟩; refine ⟨_, rfl, ?_⟩; replace BK309 := bb BK309 hb; replace BK310 := bb BK310 hb; replace BK311 := bb BK311 hb; replace HB := am (below_step (Y3 HB GE309 GE310 GE311) hb); (try clear hb); obtain ⟨hnb28,hnc28⟩ := nn NB311_309; obtain ⟨hnb29,hnc29⟩ := nn NB311_310; obtain ⟨hcz30_0,hcz30_1,hfz30_0,hfz30_1⟩ := c2 BK311))
   refine bodyPost_ret (results_cell_row rfl _ _ gb311 24 #[.int .i64 t320, .int .i64 t321] (0, 0) _ rfl (by refine pf ?_; refine blk_put (cs := #[.int .i64 t320, .int .i64 0]) ?_ 1 _ rfl; refine pf ?_; refine blk_put (cs := #[.int .i64 0, .int .i64 0]) ?_ 0 _ rfl; exact Z BK311) Try.underlying24 rfl (by kernel_rfl)) rfl ?_
   exact ⟨ez, Y3 HB GE309 GE310 GE311⟩

/-! ### impl_RangeMeet: function 93 -/
attribute [local go_sem] Go.Proofs.YthbkakcchgnhpaaSet.isSome_setCell
def impl_RangeMeet.j0 : Nat → Bool → Int → Int → Int → Int → Option (Int × Int)
 | 0, _, _, _, _, _ => none
 | k + 1, x20, x323000, x323001, x324000, x324001 => if x20 = true then ((impl_rangeNone.f).bind fun bt329 => (some (bt329.1, bt329.2))) else ((impl_rangeFrom.f (mx x323000 x324000) (mn x323001 x324001)).bind fun bt331 => (some (bt331.1, bt331.2)))
def impl_RangeMeet.f (k : Nat) (a0_0 : Int) (a0_1 : Int) (a1_0 : Int) (a1_1 : Int) : Option (Int × Int) := (impl_RangeOk.f a0_0 a0_1).bind fun t325 => (if t325 = true then ((impl_RangeOk.f a1_0 a1_1).bind fun t326 => (if t326 = true then ((impl_Range_empty.f a0_0 a0_1).bind fun t327 => (if t327 = true then (impl_RangeMeet.j0 k true a0_0 a0_1 a1_0 a1_1) else ((impl_Range_empty.f a1_0 a1_1).bind fun t328 => (impl_RangeMeet.j0 k t328 a0_0 a0_1 a1_0 a1_1)))) else (impl_RangeMeet.j0 k true a0_0 a0_1 a1_0 a1_1))) else (impl_RangeMeet.j0 k true a0_0 a0_1 a1_0 a1_1))
theorem impl_RangeMeet.mono_l : ∀ k, (∀ y0 y1 y2 y3 y4, LeO (impl_RangeMeet.j0 k y0 y1 y2 y3 y4) (impl_RangeMeet.j0 (k + 1) y0 y1 y2 y3 y4))
 | 0 => fun _ _ _ _ _ r h => by simp [impl_RangeMeet.j0] at h
 | k + 1 => by
  have ih0 := impl_RangeMeet.mono_l k
  ·intro y0 y1 y2 y3 y4
   unfold impl_RangeMeet.j0
   repeat' first
   | (with_reducible exact ih0 _ _ _ _ _)
   | (with_reducible exact LeO.refl _)
   | (with_reducible exact LeO.none _)
   | (with_reducible refine LeO.ite ?_ ?_)
   | (with_reducible refine LeO.bind ?_ (fun _ => ?_))
   | exact ih0 _ _ _ _ _
   | exact LeO.none _
   | refine LeO.ite ?_ ?_
   | refine LeO.bind ?_ (fun _ => ?_)
theorem impl_RangeMeet.mono : ∀ a0 a1 a2 a3 k, LeO (impl_RangeMeet.f k a0 a1 a2 a3) (impl_RangeMeet.f (k + 1) a0 a1 a2 a3) := by
 intro a0 a1 a2 a3 k
 have ih0 := impl_RangeMeet.mono_l k
 unfold impl_RangeMeet.f
 repeat' first
   | (with_reducible exact ih0 _ _ _ _ _)
   | (with_reducible exact LeO.refl _)
   | (with_reducible exact LeO.none _)
   | (with_reducible refine LeO.ite ?_ ?_)
   | (with_reducible refine LeO.bind ?_ (fun _ => ?_))
   | exact ih0 _ _ _ _ _
   | exact LeO.none _
   | refine LeO.ite ?_ ?_
   | refine LeO.bind ?_ (fun _ => ?_)
set_option maxHeartbeats 8000000 in
set_option maxRecDepth 100000 in
theorem impl_RangeMeet.calls (k : Nat) (a0_0 : Int) (a0_1 : Int) (a1_0 : Int) (a1_1 : Int) (r1 : Int) (r2 : Int) (w : World) (h : impl_RangeMeet.f k a0_0 a0_1 a1_0 a1_1 = some (r1, r2)) :
  Calls Try.prog 93 #[.agg #[.int .i64 a0_0, .int .i64 a0_1], .agg #[.int .i64 a1_0, .int .i64 a1_1]] w fun e w' => e = .returned (.agg #[.int .i64 r1, .int .i64 r2]) ∧ Below w.heap.size w w' := by
 have hu24 := Try.underlying24
 have HB := am (Below.refl w.heap.size w)
 have H : ((impl_RangeOk.f a0_0 a0_1).bind fun t325 => (if t325 = true then ((impl_RangeOk.f a1_0 a1_1).bind fun t326 => (if t326 = true then ((impl_Range_empty.f a0_0 a0_1).bind fun t327 => (if t327 = true then (impl_RangeMeet.j0 k true a0_0 a0_1 a1_0 a1_1) else ((impl_Range_empty.f a1_0 a1_1).bind fun t328 => (impl_RangeMeet.j0 k t328 a0_0 a0_1 a1_0 a1_1)))) else (impl_RangeMeet.j0 k true a0_0 a0_1 a1_0 a1_1))) else (impl_RangeMeet.j0 k true a0_0 a0_1 a1_0 a1_1))) = some (r1, r2) := h
 clear h
 have HC3 := am H
 clear H
 go_enter Try.func93, Try.ntmps93
 go_upto_region 1 with (first | ((with_reducible refine gate_dst (N := 2) rfl ?_); refine bx 2 #[.int .i64 a0_0, .int .i64 a0_1] 24 ?_; intro gb322 hg w4 hbox hb; have BK322 := am (hbox); have GW322 := am (bs hg (Y0 HB)); have GE322 := am (bs hg (Y0 HB)); replace HB := am (below_step (Y0 HB) hb); clear hb hbox hg) | ((with_reducible refine gate_dst (N := 3) rfl ?_); refine bx 3 #[.int .i64 a1_0, .int .i64 a1_1] 24 ?_; intro gb323 hg w5 hbox hb; have BK323 := am (hbox); have GW323 := am (bs hg (Y1 HB GE322)); have GE323 := am (bs hg (Y1 HB GE322)); obtain ⟨NB322_323,NB323_322⟩ := ne_ hg BK322; replace BK322 := bb BK322 hb; replace HB := am (below_step (Y1 HB GE322) hb); clear hb hbox hg) | ((with_reducible refine gate_dst (N := 4) rfl ?_); refine bx 4 #[.int .i64 0, .int .i64 0] 24 ?_; intro gb324 hg w6 hbox hb; have BK324 := am (hbox); have GW324 := am (bs hg (Y2 HB GE322 GE323)); have GE324 := am (bs hg (Y2 HB GE322 GE323)); obtain ⟨NB322_324,NB324_322⟩ := ne_ hg BK322; obtain ⟨NB323_324,NB324_323⟩ := ne_ hg BK323; replace BK322 := bb BK322 hb; replace BK323 := bb BK323 hb; replace HB := am (below_step (Y2 HB GE322 GE323) hb); clear hb hbox hg))
 (try simp only [Act.put, List.setIfInBounds_toArray, List.set_cons_zero, List.set_cons_succ])
 go_cut [20] (fun v20 wc => ∃ (kq : Nat) (x20_2 : Bool), v20 = .bool x20_2 ∧ Aside0 (impl_RangeMeet.j0 kq x20_2 a0_0 a0_1 a1_0 a1_1 = some (r1, r2)) ∧ Aside0 (kq ≤ k) ∧ Aside0 (wc.heap[gb322]? = some (.cells #[.int .i64 a0_0, .int .i64 a0_1] 24 (0, 0))) ∧ Aside0 (wc.heap[gb323]? = some (.cells #[.int .i64 a1_0, .int .i64 a1_1] 24 (0, 0))) ∧ Aside0 (wc.heap[gb324]? = some (.cells #[.int .i64 0, .int .i64 0] 24 (0, 0))) ∧ Aside0 (Below w.heap.size w wc))
 case first =>
  have H := HC3.out
  clear HC3
  replace H := Option.bind_eq_some_iff.mp H
  obtain ⟨t325, A70, H⟩ := H
  try dsimp only at H
  have A7 := am A70
  clear A70
  by_cases c8 : t325 = true
  rotate_left
  ·replace c8 := Bool.eq_false_iff.mpr c8
   subst c8
   rw [if_neg (show ¬ (false = true) by decide)] at H
   have H' := am H
   clear H
   obtain ⟨hnb41,hnc41⟩ := nn NB322_323
   obtain ⟨hnb42,hnc42⟩ := nn NB322_324
   obtain ⟨hcz43_0,hcz43_1,hfz43_0,hfz43_1⟩ := c2 BK322
   go_wp2_with (first | ((with_reducible refine gate_callee (f := 46) rfl ?_); refine goesL_ (some 6) rfl rfl Try.func46 (by kernel_rfl) rfl #[.agg #[.int .i64 a0_0, .int .i64 a0_1]] rfl mz ?_; (with_reducible refine (impl_RangeOk.calls a0_0 a0_1 false _ A7.out).mono ?_); rintro e w44 ⟨rfl, hb⟩; refine ⟨_, rfl, ?_⟩; replace BK322 := bb BK322 hb; replace BK323 := bb BK323 hb; replace BK324 := bb BK324 hb; replace HB := am (below_step (Y3 HB GE322 GE323 GE324) hb); (try clear hb)))
   go_meet
   case rel => exact ⟨_, (true), ey, H', ⟨by first | omega | exact Nat.le_refl _⟩, ⟨Z BK322⟩, ⟨Z BK323⟩, ⟨Z BK324⟩, ⟨Y3 HB GE322 GE323 GE324⟩⟩
  subst c8
  rw [if_pos rfl] at H
  replace H := Option.bind_eq_some_iff.mp H
  obtain ⟨t326, A90, H⟩ := H
  try dsimp only at H
  have A9 := am A90
  clear A90
  by_cases c10 : t326 = true
  rotate_left
  ·replace c10 := Bool.eq_false_iff.mpr c10
   subst c10
   rw [if_neg (show ¬ (false = true) by decide)] at H
   have H' := am H
   clear H
   obtain ⟨hnb34,hnc34⟩ := nn NB322_323
   obtain ⟨hnb35,hnc35⟩ := nn NB322_324
   obtain ⟨hcz36_0,hcz36_1,hfz36_0,hfz36_1⟩ := c2 BK322
   go_wp2_with (first | ((with_reducible refine gate_callee (f := 46) rfl ?_); refine goesL_ (some 6) rfl rfl Try.func46 (by kernel_rfl) rfl #[.agg #[.int .i64 a0_0, .int .i64 a0_1]] rfl mz ?_; (with_reducible refine (impl_RangeOk.calls a0_0 a0_1 true _ A7.out).mono ?_); rintro e w37 ⟨rfl, hb⟩; refine ⟨_, rfl, ?_⟩; replace BK322 := bb BK322 hb; replace BK323 := bb BK323 hb; replace BK324 := bb BK324 hb; replace HB := am (below_step (Y3 HB GE322 GE323 GE324) hb); (try clear hb); obtain ⟨hnb38,hnc38⟩ := nn NB323_324; obtain ⟨hcz39_0,hcz39_1,hfz39_0,hfz39_1⟩ := c2 BK323) | (go_at_call 46; (with_reducible refine (impl_RangeOk.calls a1_0 a1_1 false _ A9.out).mono ?_); rintro e w40 ⟨rfl, hb⟩; replace BK322 := bb BK322 hb; replace BK323 := bb BK323 hb; replace BK324 := bb BK324 hb; replace HB := am (below_step (Y3 HB GE322 GE323 GE324) hb); (try clear hb)))
   go_meet
   case rel => exact ⟨_, (true), ey, H', ⟨by first | omega | exact Nat.le_refl _⟩, ⟨Z BK322⟩, ⟨Z BK323⟩, ⟨Z BK324⟩, ⟨Y3 HB GE322 GE323 GE324⟩⟩
  subst c10
  rw [if_pos rfl] at H
  replace H := Option.bind_eq_some_iff.mp H
  obtain ⟨t327, A110, H⟩ := H
  try dsimp only at H
  have A11 := am A110
  clear A110
  by_cases c12 : t327 = true
  ·subst c12
   rw [if_pos rfl] at H
   have H' := am H
   clear H
   obtain ⟨hnb13,hnc13⟩ := nn NB322_323
   obtain ⟨hnb14,hnc14⟩ := nn NB322_324
   obtain ⟨hcz15_0,hcz15_1,hfz15_0,hfz15_1⟩ := c2 BK322
   go_wp2_with (first | ((with_reducible refine gate_callee (f := 46) rfl ?_); refine goesL_ (some 6) rfl rfl Try.func46 (by kernel_rfl) rfl #[.agg #[.int .i64 a0_0, .int .i64 a0_1]] rfl mz ?_; (with_reducible refine (impl_RangeOk.calls a0_0 a0_1 true _ A7.out).mono ?_); rintro e w16 ⟨rfl, hb⟩; refine ⟨_, rfl, ?_⟩; replace BK322 := bb BK322 hb; replace BK323 := bb BK323 hb; replace BK324 := bb BK324 hb; replace HB := am (below_step (Y3 HB GE322 GE323 GE324) hb); (try clear hb); obtain ⟨hnb17,hnc17⟩ := nn NB323_324; obtain ⟨hcz18_0,hcz18_1,hfz18_0,hfz18_1⟩ := c2 BK323) | (go_at_call 46; (with_reducible refine (impl_RangeOk.calls a1_0 a1_1 true _ A9.out).mono ?_); rintro e w19 ⟨rfl, hb⟩; replace BK322 := bb BK322 hb; replace BK323 := bb BK323 hb; replace BK324 := bb BK324 hb; replace HB := am (below_step (Y3 HB GE322 GE323 GE324) hb); (try clear hb); obtain ⟨hcz20_0,hcz20_1,hfz20_0,hfz20_1⟩ := c2 BK322) | (go_at_call 47; (with_reducible refine (impl_Range_empty.calls a0_0 a0_1 true _ A11.out).mono ?_); rintro e w21 ⟨rfl, hb⟩; replace BK322 := bb BK322 hb; replace BK323 := bb BK323 hb; replace BK324 := bb BK324 hb; replace HB := am (below_step (Y3 HB GE322 GE323 GE324) hb); (try clear hb)))
   go_meet
   case rel => exact ⟨_, (true), ey, H', ⟨by first | omega | exact Nat.le_refl _⟩, ⟨Z BK322⟩, ⟨Z BK323⟩, ⟨Z BK324⟩, ⟨Y3 HB GE322 GE323 GE324⟩⟩
  replace c12 := Bool.eq_false_iff.mpr c12
  subst c12
  rw [if_neg (show ¬ (false = true) by decide)] at H
  replace H := Option.bind_eq_some_iff.mp H
  obtain ⟨t328, A220, H⟩ := H
  try dsimp only at H
  have A22 := am A220
  clear A220
  have H' := am H
  clear H
  obtain ⟨hnb23,hnc23⟩ := nn NB322_323
  obtain ⟨hnb24,hnc24⟩ := nn NB322_324
  obtain ⟨hcz25_0,hcz25_1,hfz25_0,hfz25_1⟩ := c2 BK322
  go_wp2_with (first | ((with_reducible refine gate_callee (f := 46) rfl ?_); refine goesL_ (some 6) rfl rfl Try.func46 (by kernel_rfl) rfl #[.agg #[.int .i64 a0_0, .int .i64 a0_1]] rfl mz ?_; (with_reducible refine (impl_RangeOk.calls a0_0 a0_1 true _ A7.out).mono ?_); rintro e w26 ⟨rfl, hb⟩; refine ⟨_, rfl, ?_⟩; replace BK322 := bb BK322 hb; replace BK323 := bb BK323 hb; replace BK324 := bb BK324 hb; replace HB := am (below_step (Y3 HB GE322 GE323 GE324) hb); (try clear hb); obtain ⟨hnb27,hnc27⟩ := nn NB323_324; obtain ⟨hcz28_0,hcz28_1,hfz28_0,hfz28_1⟩ := c2 BK323) | (go_at_call 46; (with_reducible refine (impl_RangeOk.calls a1_0 a1_1 true _ A9.out).mono ?_); rintro e w29 ⟨rfl, hb⟩; replace BK322 := bb BK322 hb; replace BK323 := bb BK323 hb; replace BK324 := bb BK324 hb; replace HB := am (below_step (Y3 HB GE322 GE323 GE324) hb); (try clear hb); obtain ⟨hcz30_0,hcz30_1,hfz30_0,hfz30_1⟩ := c2 BK322) | (go_at_call 47; (with_reducible refine (impl_Range_empty.calls a0_0 a0_1 false _ A11.out).mono ?_); rintro e w31 ⟨rfl, hb⟩; replace BK322 := bb BK322 hb; replace BK323 := bb BK323 hb; replace BK324 := bb BK324 hb; replace HB := am (below_step (Y3 HB GE322 GE323 GE324) hb); (try clear hb); obtain ⟨hcz32_0,hcz32_1,hfz32_0,hfz32_1⟩ := c2 BK323) | (go_at_call 47; (with_reducible refine (impl_Range_empty.calls a1_0 a1_1 t328 _ A22.out).mono ?_); rintro e w33 ⟨rfl, hb⟩; replace BK322 := bb BK322 hb; replace BK323 := bb BK323 hb; replace BK324 := bb BK324 hb; replace HB := am (below_step (Y3 HB GE322 GE323 GE324) hb); (try clear hb)))
  go_meet
  case rel => exact ⟨_, (t328), ey, H', ⟨by first | omega | exact Nat.le_refl _⟩, ⟨Z BK322⟩, ⟨Z BK323⟩, ⟨Z BK324⟩, ⟨Y3 HB GE322 GE323 GE324⟩⟩
 case rest =>
  clear HC3
  obtain ⟨kq, x20_2, rfl, HA, HJ2, BK322, BK323, BK324, HB⟩ := hcut
  cases kq with
  | zero => exact absurd HA.out (by simp [impl_RangeMeet.j0])
  | succ kj2 =>
   have H := HA.out
   clear HA
   simp only [impl_RangeMeet.j0] at H
   by_cases c45 : x20_2 = true
   ·subst c45
    rw [if_pos rfl] at H
    replace H := Option.bind_eq_some_iff.mp H
    obtain ⟨⟨t329, t330⟩, A460, H⟩ := H
    try dsimp only at H
    have A46 := am A460
    clear A460
    simp only [Option.some.injEq, Prod.mk.injEq] at H
    obtain ⟨rfl, rfl⟩ := H
    go_wp2_with (first | ((with_reducible refine gate_callee (f := 48) rfl ?_); refine goesL_ (some 21) rfl rfl Try.func48 (by kernel_rfl) rfl #[] rfl mz ?_; (with_reducible refine (impl_rangeNone.calls  t329 t330 _ A46.out).mono ?_); rintro e w47 ⟨rfl, hb⟩; refine ⟨_, rfl, ?_⟩; replace BK322 := bb BK322 hb; replace BK323 := bb BK323 hb; replace BK324 := bb BK324 hb; replace HB := am (below_step (Y3 HB GE322 GE323 GE324) hb); (try clear hb); obtain ⟨hnb48,hnc48⟩ := nn NB324_322; obtain ⟨hnb49,hnc49⟩ := nn NB324_323; obtain ⟨hcz50_0,hcz50_1,hfz50_0,hfz50_1⟩ := c2 BK324))
    refine bodyPost_ret (results_cell_row rfl _ _ gb324 24 #[.int .i64 t329, .int .i64 t330] (0, 0) _ rfl (by refine pf ?_; refine blk_put (cs := #[.int .i64 t329, .int .i64 0]) ?_ 1 _ rfl; refine pf ?_; refine blk_put (cs := #[.int .i64 0, .int .i64 0]) ?_ 0 _ rfl; exact Z BK324) Try.underlying24 rfl (by kernel_rfl)) rfl ?_
    exact ⟨ez, Y3 HB GE322 GE323 GE324⟩
   replace c45 := Bool.eq_false_iff.mpr c45
   subst c45
   rw [if_neg (show ¬ (false = true) by decide)] at H
   obtain ⟨ji51, hji51⟩ : ∃ j_ : Int, (mx a0_0 a1_0) = j_ := ⟨_, rfl⟩
   replace H : ((impl_rangeFrom.f (ji51) (mn a0_1 a1_1)).bind fun bt331 => (some (bt331.1, bt331.2))) = some (r1, r2) := by first | (rw [hji51] at H; exact H) | (simp only [hji51] at H ⊢; exact H)
   have hji51_ : (if a0_0 < a1_0 then a1_0 else a0_0) = ji51 := hji51
   obtain ⟨ji52, hji52⟩ : ∃ j_ : Int, (mn a0_1 a1_1) = j_ := ⟨_, rfl⟩
   replace H : ((impl_rangeFrom.f (ji51) (ji52)).bind fun bt331 => (some (bt331.1, bt331.2))) = some (r1, r2) := by first | (rw [hji52] at H; exact H) | (simp only [hji52] at H ⊢; exact H)
   have hji52_ : (if a1_1 < a0_1 then a1_1 else a0_1) = ji52 := hji52
   replace H := Option.bind_eq_some_iff.mp H
   obtain ⟨⟨t331, t332⟩, A530, H⟩ := H
   try dsimp only at H
   have A53 := am A530
   clear A530
   simp only [Option.some.injEq, Prod.mk.injEq] at H
   obtain ⟨rfl, rfl⟩ := H
   obtain ⟨hnb54,hnc54⟩ := nn NB322_323
   obtain ⟨hnb55,hnc55⟩ := nn NB322_324
   obtain ⟨hcz56_0,hcz56_1,hfz56_0,hfz56_1⟩ := c2 BK322
   obtain ⟨hnb57,hnc57⟩ := nn NB323_324
   obtain ⟨hcz58_0,hcz58_1,hfz58_0,hfz58_1⟩ := c2 BK323
   go_wp2_with (first | ((with_reducible refine gate_callee (f := 50) rfl ?_); refine goesL_ (some 32) rfl rfl Try.func50 (by kernel_rfl) rfl #[.int .i64 ji51, .int .i64 ji52] rfl (by (try simp only [List.map_toArray, List.map_cons, List.map_nil]); first | done | (simp only [hji51, hji52]; rfl) | rfl | (simp only [List.length_drop, List.length_take]; rfl)) ?_; (with_reducible refine (impl_rangeFrom.calls ji51 ji52 t331 t332 _ A53.out).mono ?_); rintro e w59 ⟨rfl, hb⟩; refine ⟨_, rfl, ?_⟩; replace BK322 := bb BK322 hb; replace BK323 := bb BK323 hb; replace BK324 := bb BK324 hb; replace HB := am (below_step (Y3 HB GE322 GE323 GE324) hb); (try clear hb); obtain ⟨hcz60_0,hcz60_1,hfz60_0,hfz60_1⟩ := c2 BK324))
   refine bodyPost_ret (results_cell_row rfl _ _ gb324 24 #[.int .i64 t331, .int .i64 t332] (0, 0) _ rfl (by refine pf ?_; refine blk_put (cs := #[.int .i64 t331, .int .i64 0]) ?_ 1 _ rfl; refine pf ?_; refine blk_put (cs := #[.int .i64 0, .int .i64 0]) ?_ 0 _ rfl; exact Z BK324) Try.underlying24 rfl (by kernel_rfl)) rfl ?_
   exact ⟨by first | rfl | (simp [errW_none, errW_some] <;> rfl) | (simp only [← hji51, ← hji52]; first | rfl | (simp [errW_none, errW_some] <;> rfl)) | (simp [*, errW_none, errW_some] <;> rfl), Y3 HB GE322 GE323 GE324⟩

end Go.Proofs.Ythbkakcchgnhpaa.PFnExactRangeDo
