/- Written by this session's own driver (wip/dprint.py): the functions that the law FnRangeFaults reaches, as Lean functions, each with its contract. -/
import Derived.Test.YthbkakcchgnhpaaPFnRangeFaultsx0
import Derived.Test.YthbkakcchgnhpaaPFnRangeFaultsx12
import Derived.Test.YthbkakcchgnhpaaPFnRangeFaultsx14
import Derived.Test.YthbkakcchgnhpaaSv
namespace Go.Proofs.Ythbkakcchgnhpaa.PFnRangeFaults
open Go.RowKit Go.Proofs.YthbkakcchgnhpaaV.PrintWords Go.Proofs.YthbkakcchgnhpaaV.PrintLast Go.Proofs.YthbkakcchgnhpaaV.PrintMore Go.Proofs.YthbkakcchgnhpaaSv
attribute [local go_sem] max2_int min2_int max_two min_two max_three min_three max_four min_four   -- for this text's walks alone
set_option linter.unusedVariables false
set_option linter.unusedSimpArgs false

/-! ### impl_rangeFrom: function 50 -/
attribute [local go_sem] Go.Proofs.YthbkakcchgnhpaaSet.isSome_setCell
def impl_rangeFrom.f (a0 : Int) (a1 : Int) : Option (Int × Int) := if (mx a0 (-2147483648)) > (mn a1 2147483647) then ((impl_rangeNone.f).bind fun bt304 => (some (bt304.1, bt304.2))) else (some (mx a0 (-2147483648), mn a1 2147483647))
set_option maxHeartbeats 8000000 in
set_option maxRecDepth 100000 in
theorem impl_rangeFrom.calls (a0 : Int) (a1 : Int) (r1 : Int) (r2 : Int) (w : World) (h : impl_rangeFrom.f a0 a1 = some (r1, r2)) :
  Calls Try.prog 50 #[.int .i64 a0, .int .i64 a1] w fun e w' => e = .returned (.agg #[.int .i64 r1, .int .i64 r2]) ∧ Below w.heap.size w w' := by
 have hu24 := Try.underlying24
 have HB := am (Below.refl w.heap.size w)
 have H : (if (mx a0 (-2147483648)) > (mn a1 2147483647) then ((impl_rangeNone.f).bind fun bt304 => (some (bt304.1, bt304.2))) else (some (mx a0 (-2147483648), mn a1 2147483647))) = some (r1, r2) := h
 clear h
 obtain ⟨ji3, hji3⟩ : ∃ j_ : Int, (mx a0 (-2147483648)) = j_ := ⟨_, rfl⟩
 replace H : (if (ji3) > (mn a1 2147483647) then ((impl_rangeNone.f).bind fun bt304 => (some (bt304.1, bt304.2))) else (some (ji3, mn a1 2147483647))) = some (r1, r2) := by first | (rw [hji3] at H; exact H) | (simp only [hji3] at H ⊢; exact H)
 have hji3_ : (if a0 < (-2147483648) then (-2147483648) else a0) = ji3 := hji3
 obtain ⟨ji4, hji4⟩ : ∃ j_ : Int, (mn a1 2147483647) = j_ := ⟨_, rfl⟩
 replace H : (if (ji3) > (ji4) then ((impl_rangeNone.f).bind fun bt304 => (some (bt304.1, bt304.2))) else (some (ji3, ji4))) = some (r1, r2) := by first | (rw [hji4] at H; exact H) | (simp only [hji4] at H ⊢; exact H)
 (try (have hji4h : ji4 ≤ 2147483647 := by (rw [← hji4]; unfold mn; (repeat' split) <;> omega)))
 (try (have hji4g : ji4 ≤ 64 := by omega))
 have hji4_ : (if 2147483647 < a1 then 2147483647 else a1) = ji4 := hji4
 by_cases c5 : (ji3) > (ji4)
 rotate_left
 ·rw [if_neg c5] at H
  have c5b0 := dF c5
  clear c5
  simp only [Option.some.injEq, Prod.mk.injEq] at H
  obtain ⟨rfl, rfl⟩ := H
  go_enter Try.func50, Try.ntmps50
  go_wp2_with (first | ((with_reducible refine gate_dst (N := 4) rfl ?_); refine bx 4 #[.int .i64 0, .int .i64 0] 24 ?_; intro gb302 hg w13 hbox hb; have BK302 := am (hbox); have GW302 := am (bs hg (YA HB)); have GE302 := GW302; replace HB := am (below_step (YA HB) hb); clear hb hbox hg) | ((with_reducible refine gate_dst (N := 5) rfl ?_); refine bx 5 #[.int .i64 0, .int .i64 0] 24 ?_; intro gb303 hg w14 hbox hb; have BK303 := am (hbox); have GW303 := am (bs hg (YA HB)); have GE303 := GW303; obtain ⟨NB302_303,NB303_302⟩ := ne_ hg BK302; obtain ⟨BK302, HB⟩ := bk1 BK302 HB hb; clear hb hbox hg; obtain ⟨hnb15,hnc15⟩ := nn NB303_302; obtain ⟨hcz16_0,hcz16_1,hfz16_0,hfz16_1⟩ := cB2 BK303; obtain ⟨hcz17_0,hcz17_1,hfz17_0,hfz17_1⟩ := cB2 BK302))
  refine bodyPost_ret (results_cell_row rfl _ _ gb302 24 #[.int .i64 ji3, .int .i64 ji4] (0, 0) _ rfl (by refine pf ?_; refine blk_put (cs := #[.int .i64 ji3, .int .i64 0]) ?_ 1 _ rfl; refine pf ?_; refine blk_put (cs := #[.int .i64 0, .int .i64 0]) ?_ 0 _ rfl; refine fa NB302_303 ?_; refine fa NB302_303 ?_; exact Z BK302) Try.underlying24 rfl (by kernel_rfl)) rfl ?_
  exact ⟨by first | rfl | (simp [errW_none, errW_some] <;> rfl) | (simp only [← hji3, ← hji4]; first | rfl | (simp [errW_none, errW_some] <;> rfl)) | (simp [*, errW_none, errW_some] <;> rfl), YA HB⟩
 rw [if_pos c5] at H
 have c5b0 := dT c5
 clear c5
 obtain ⟨⟨t304, t305⟩, A6, H⟩ := bd H
 try dsimp only at H
 simp only [Option.some.injEq, Prod.mk.injEq] at H
 obtain ⟨rfl, rfl⟩ := H
 go_enter Try.func50, Try.ntmps50
 go_wp2_with (first | ((with_reducible refine gate_dst (N := 4) rfl ?_); refine bx 4 #[.int .i64 0, .int .i64 0] 24 ?_; intro gb302 hg w7 hbox hb; have BK302 := am (hbox); have GW302 := am (bs hg (YA HB)); have GE302 := GW302; replace HB := am (below_step (YA HB) hb); clear hb hbox hg) | ((with_reducible refine gate_dst (N := 5) rfl ?_); refine bx 5 #[.int .i64 0, .int .i64 0] 24 ?_; intro gb303 hg w8 hbox hb; have BK303 := am (hbox); have GW303 := am (bs hg (YA HB)); have GE303 := GW303; obtain ⟨NB302_303,NB303_302⟩ := ne_ hg BK302; obtain ⟨BK302, HB⟩ := bk1 BK302 HB hb; clear hb hbox hg; obtain ⟨hnb9,hnc9⟩ := nn NB303_302; obtain ⟨hcz10_0,hcz10_1,hfz10_0,hfz10_1⟩ := cB2 BK303) | ((with_reducible refine gate_callee (f := 48) rfl ?_); refine gL 16 Try.func48 (impl_rangeNone.calls _ _ _ A6.out) fun w11 hb => ?_; replace BK302 := am (blk_below (g := gb302) (o := b2 0 0 24) (by refine fa NB302_303 ?_; refine fa NB302_303 ?_; exact Z BK302) hb); replace BK303 := am (blk_below (g := gb303) (o := b2 ji3 ji4 24) (by refine pf ?_; refine blk_put (cs := #[.int .i64 ji3, .int .i64 0]) ?_ 1 _ rfl; refine pf ?_; refine blk_put (cs := #[.int .i64 0, .int .i64 0]) ?_ 0 _ rfl; exact Z BK303) hb); replace HB := am (below_step (YA HB) hb); (try clear hb); obtain ⟨hcz12_0,hcz12_1,hfz12_0,hfz12_1⟩ := cB2 BK302))
 refine bodyPost_ret (results_cell_row rfl _ _ gb302 24 #[.int .i64 t304, .int .i64 t305] (0, 0) _ rfl (by refine pf ?_; refine blk_put (cs := #[.int .i64 t304, .int .i64 0]) ?_ 1 _ rfl; refine pf ?_; refine blk_put (cs := #[.int .i64 0, .int .i64 0]) ?_ 0 _ rfl; exact Z BK302) Try.underlying24 rfl (by kernel_rfl)) rfl ?_
 exact ⟨by first | rfl | (simp [errW_none, errW_some] <;> rfl) | (simp only [← hji3, ← hji4]; first | rfl | (simp [errW_none, errW_some] <;> rfl)) | (simp [*, errW_none, errW_some] <;> rfl), YA HB⟩

/-! ### impl_NumWrap: function 62 -/
attribute [local go_sem] Go.Proofs.YthbkakcchgnhpaaSet.isSome_setCell
def impl_NumWrap.f (a0 : Int) : Option (Int) := some (wrap64 (wrap32 (a0)))
set_option maxHeartbeats 8000000 in
set_option maxRecDepth 100000 in
theorem impl_NumWrap.calls (a0 : Int) (r : Int) (w : World) (h : impl_NumWrap.f a0 = some r) :
  Calls Try.prog 62 #[.int .i64 a0] w fun e w' => e = .returned (.int .i64 r) ∧ Drawn0 w w' := by
 have H : (some (wrap64 (wrap32 (a0)))) = some r := h
 clear h
 obtain rfl := Option.some.inj H
 go_enter Try.func62, Try.ntmps62
 go_wp2
 go_ret
 exact ⟨by first | rfl | (simp; done) | (simp [*]; done), by repeat (first | exact Drawn0.refl _ | apply Drawn0.step)⟩

/-! ### impl_rangeWrap: function 51 -/
attribute [local go_sem] Go.Proofs.YthbkakcchgnhpaaSet.isSome_setCell
def impl_rangeWrap.j0 : Nat → Int → Int → Bool → Option (Int × Int)
 | 0, _, _, _ => none
 | k + 1, x7, x8, x26 => if x26 = true then ((impl_rangeFrom.f (-2147483648) 2147483647).bind fun bt313 => (some (bt313.1, bt313.2))) else ((impl_NumWrap.f x7).bind fun t315 => ((impl_NumWrap.f x8).bind fun t316 => ((impl_rangeFrom.f t315 t316).bind fun bt317 => (some (bt317.1, bt317.2)))))
def impl_rangeWrap.f (k : Nat) (a0 : Int) (a1_0 : Int) (a1_1 : Int) (a2_0 : Int) (a2_1 : Int) : Option (Int × Int) := (impl_rangeCorners.f k a0 a1_0 a1_1 a2_0 a2_1).bind fun bt309 => (if (wrap64 (bt309.2 - bt309.1)) > 4294967295 then (impl_rangeWrap.j0 k bt309.1 bt309.2 true) else ((impl_NumWrap.f bt309.1).bind fun t311 => ((impl_NumWrap.f bt309.2).bind fun t312 => (impl_rangeWrap.j0 k bt309.1 bt309.2 (decide (t311 > t312))))))
theorem impl_rangeWrap.mono_l : ∀ k, (∀ y0 y1 y2, LeO (impl_rangeWrap.j0 k y0 y1 y2) (impl_rangeWrap.j0 (k + 1) y0 y1 y2))
 | 0 => fun _ _ _ r h => by simp [impl_rangeWrap.j0] at h
 | k + 1 => by
  have ih0 := impl_rangeWrap.mono_l k
  ·intro y0 y1 y2
   unfold impl_rangeWrap.j0
   repeat' first | (with_reducible first | apply ih0 | apply impl_rangeCorners.mono | apply LeO.refl | apply LeO.none | refine LeO.ite ?_ ?_ | refine LeO.bind ?_ (fun _ => ?_)) | apply ih0 | apply impl_rangeCorners.mono | apply LeO.none | refine LeO.ite ?_ ?_ | refine LeO.bind ?_ (fun _ => ?_)
theorem impl_rangeWrap.mono : ∀ a0 a1 a2 a3 a4 k, LeO (impl_rangeWrap.f k a0 a1 a2 a3 a4) (impl_rangeWrap.f (k + 1) a0 a1 a2 a3 a4) := by
 intro a0 a1 a2 a3 a4 k
 have ih0 := impl_rangeWrap.mono_l k
 unfold impl_rangeWrap.f
 repeat' first | (with_reducible first | apply ih0 | apply impl_rangeCorners.mono | apply LeO.refl | apply LeO.none | refine LeO.ite ?_ ?_ | refine LeO.bind ?_ (fun _ => ?_)) | apply ih0 | apply impl_rangeCorners.mono | apply LeO.none | refine LeO.ite ?_ ?_ | refine LeO.bind ?_ (fun _ => ?_)
set_option maxHeartbeats 8000000 in
set_option maxRecDepth 100000 in
theorem impl_rangeWrap.calls (k : Nat) (a0 : Int) (a1_0 : Int) (a1_1 : Int) (a2_0 : Int) (a2_1 : Int) (r1 : Int) (r2 : Int) (w : World) (h : impl_rangeWrap.f k a0 a1_0 a1_1 a2_0 a2_1 = some (r1, r2)) :
  Calls Try.prog 51 #[.int .i64 a0, .agg #[.int .i64 a1_0, .int .i64 a1_1], .agg #[.int .i64 a2_0, .int .i64 a2_1]] w fun e w' => e = .returned (.agg #[.int .i64 r1, .int .i64 r2]) ∧ Below w.heap.size w w' := by
 have hu24 := Try.underlying24
 have HB := am (Below.refl w.heap.size w)
 have H : ((impl_rangeCorners.f k a0 a1_0 a1_1 a2_0 a2_1).bind fun bt309 => (if (wrap64 (bt309.2 - bt309.1)) > 4294967295 then (impl_rangeWrap.j0 k bt309.1 bt309.2 true) else ((impl_NumWrap.f bt309.1).bind fun t311 => ((impl_NumWrap.f bt309.2).bind fun t312 => (impl_rangeWrap.j0 k bt309.1 bt309.2 (decide (t311 > t312))))))) = some (r1, r2) := h
 clear h
 obtain ⟨⟨t309, t310⟩, A4, H⟩ := bd H
 try dsimp only at H
 have HC5 := am H
 clear H
 go_enter Try.func51, Try.ntmps51
 go_upto_region 2 with (first | ((with_reducible refine gate_dst (N := 4) rfl ?_); refine bx 4 #[.int .i64 a1_0, .int .i64 a1_1] 24 ?_; intro gb306 hg w6 hbox hb; have BK306 := am (hbox); have GW306 := am (bs hg (YA HB)); have GE306 := GW306; replace HB := am (below_step (YA HB) hb); clear hb hbox hg) | ((with_reducible refine gate_dst (N := 5) rfl ?_); refine bx 5 #[.int .i64 a2_0, .int .i64 a2_1] 24 ?_; intro gb307 hg w7 hbox hb; have BK307 := am (hbox); have GW307 := am (bs hg (YA HB)); have GE307 := GW307; obtain ⟨NB306_307,NB307_306⟩ := ne_ hg BK306; obtain ⟨BK306, HB⟩ := bk1 BK306 HB hb; clear hb hbox hg) | ((with_reducible refine gate_dst (N := 6) rfl ?_); refine bx 6 #[.int .i64 0, .int .i64 0] 24 ?_; intro gb308 hg w8 hbox hb; have BK308 := am (hbox); have GW308 := am (bs hg (YA HB)); have GE308 := GW308; obtain ⟨NB306_308,NB308_306⟩ := ne_ hg BK306; obtain ⟨NB307_308,NB308_307⟩ := ne_ hg BK307; obtain ⟨BK306, BK307, HB⟩ := bk2 BK306 BK307 HB hb; clear hb hbox hg; obtain ⟨hnb9,hnc9⟩ := nn NB306_307; obtain ⟨hnb10,hnc10⟩ := nn NB306_308; obtain ⟨hcz11_0,hcz11_1,hfz11_0,hfz11_1⟩ := cB2 BK306; obtain ⟨hnb12,hnc12⟩ := nn NB307_308; obtain ⟨hcz13_0,hcz13_1,hfz13_0,hfz13_1⟩ := cB2 BK307) | ((with_reducible refine gate_callee (f := 49) rfl ?_); refine gL 13 Try.func49 (impl_rangeCorners.calls _ _ _ _ _ _ _ _ _ A4.out) fun w14 hb => ?_; obtain ⟨BK306, BK307, BK308, HB⟩ := bk3 BK306 BK307 BK308 HB hb; (try clear hb)))
 (try simp only [Act.put, List.setIfInBounds_toArray, List.set_cons_zero, List.set_cons_succ])
 go_cut [26] (fun v26 wc => ∃ (kq : Nat) (x26_4 : Bool), v26 = .bool x26_4 ∧ Aside0 (impl_rangeWrap.j0 kq t309 t310 x26_4 = some (r1, r2)) ∧ Aside0 (kq ≤ k) ∧ Bx2 wc gb306 a1_0 a1_1 24 ∧ Bx2 wc gb307 a2_0 a2_1 24 ∧ Bx2 wc gb308 0 0 24 ∧ Aside0 (Below w.heap.size w wc))
 case first =>
  have H := HC5.out
  clear HC5
  by_cases c15 : (wrap64 (t310 - t309)) > 4294967295
  ·rw [if_pos c15] at H
   have c15b0 := dT c15
   clear c15
   (first | rw [c15b0] | (simp only [i64_w, i32_w]; rw [c15b0]) | skip)
   have H' := am H
   clear H
   go_wp2
   go_meet
   case rel => exact ⟨_, (true), ey, H', le0, ⟨Z BK306⟩, ⟨Z BK307⟩, ⟨Z BK308⟩, ⟨YA HB⟩⟩
  rw [if_neg c15] at H
  have c15b0 := dF c15
  clear c15
  (first | rw [c15b0] | (simp only [i64_w, i32_w]; rw [c15b0]) | skip)
  obtain ⟨t311, A16, H⟩ := bd H
  try dsimp only at H
  obtain ⟨t312, A17, H⟩ := bd H
  try dsimp only at H
  have H' := am H
  clear H
  go_wp2_with (first | (go_at_call 62; (with_reducible refine (impl_NumWrap.calls _ _ _ A16.out).mono ?_); rintro e w' ⟨rfl, ⟨nd, rfl⟩⟩) | (go_at_call 62; (with_reducible refine (impl_NumWrap.calls _ _ _ A17.out).mono ?_); rintro e w' ⟨rfl, ⟨nd, rfl⟩⟩))
  go_meet
  case rel => exact ⟨_, (decide (t311 > t312)), ey, H', le0, ⟨Z BK306⟩, ⟨Z BK307⟩, ⟨Z BK308⟩, ⟨YA HB⟩⟩
 case rest =>
  clear HC5
  (try clear hcz11_0);(try clear hcz11_1);(try clear hcz13_0);(try clear hcz13_1);(try clear hfz11_0);(try clear hfz11_1);(try clear hfz13_0);(try clear hfz13_1)
  obtain ⟨kq, x26_4, rfl, HA, HJ4, BK306, BK307, BK308, HB⟩ := hcut
  cases kq with
  | zero => exact absurd HA.out (by simp [impl_rangeWrap.j0])
  | succ kj4 =>
   have H := HA.out
   clear HA
   simp only [impl_rangeWrap.j0] at H
   by_cases c18 : x26_4 = true
   ·subst c18
    rw [if_pos rfl] at H
    obtain ⟨⟨t313, t314⟩, A19, H⟩ := bd H
    try dsimp only at H
    simp only [Option.some.injEq, Prod.mk.injEq] at H
    obtain ⟨rfl, rfl⟩ := H
    go_wp2_with (first | ((with_reducible refine gate_callee (f := 50) rfl ?_); refine gL 27 Try.func50 (impl_rangeFrom.calls _ _ _ _ _ A19.out) fun w20 hb => ?_; obtain ⟨BK306, BK307, BK308, HB⟩ := bk3 BK306 BK307 BK308 HB hb; (try clear hb); obtain ⟨hnb21,hnc21⟩ := nn NB308_306; obtain ⟨hnb22,hnc22⟩ := nn NB308_307; obtain ⟨hcz23_0,hcz23_1,hfz23_0,hfz23_1⟩ := cB2 BK308))
    refine bodyPost_ret (results_cell_row rfl _ _ gb308 24 #[.int .i64 t313, .int .i64 t314] (0, 0) _ rfl (by refine pf ?_; refine blk_put (cs := #[.int .i64 t313, .int .i64 0]) ?_ 1 _ rfl; refine pf ?_; refine blk_put (cs := #[.int .i64 0, .int .i64 0]) ?_ 0 _ rfl; exact Z BK308) Try.underlying24 rfl (by kernel_rfl)) rfl ?_
    exact ⟨ez, YA HB⟩
   replace c18 := Bool.eq_false_iff.mpr c18
   subst c18
   rw [if_neg ff] at H
   obtain ⟨t315, A24, H⟩ := bd H
   try dsimp only at H
   obtain ⟨t316, A25, H⟩ := bd H
   try dsimp only at H
   obtain ⟨⟨t317, t318⟩, A26, H⟩ := bd H
   try dsimp only at H
   simp only [Option.some.injEq, Prod.mk.injEq] at H
   obtain ⟨rfl, rfl⟩ := H
   go_wp2_with (first | ((with_reducible refine gate_callee (f := 62) rfl ?_); refine goesL_ (some 29) rfl rfl Try.func62 (by kernel_rfl) rfl #[.int .i64 t309] rfl mz ?_; (with_reducible refine (impl_NumWrap.calls _ _ _ A24.out).mono ?_); rintro e w' ⟨rfl, ⟨nd, rfl⟩⟩; refine ⟨_, rfl, ?_⟩; (try (rw [drewN_self wc]; generalize hq_ : World.drewN wc _ = wc; replace BK306 : Bx2 wc gb306 a1_0 a1_1 24 := ⟨by rw [← hq_]; exact (Z BK306)⟩; replace BK307 : Bx2 wc gb307 a2_0 a2_1 24 := ⟨by rw [← hq_]; exact (Z BK307)⟩; replace BK308 : Bx2 wc gb308 0 0 24 := ⟨by rw [← hq_]; exact (Z BK308)⟩; replace HB : Aside0 (Below w.heap.size w wc) := ⟨by rw [← hq_]; exact (YA HB)⟩; clear hq_))) | ((with_reducible refine gate_callee (f := 62) rfl ?_); refine goesL_ (some 31) rfl rfl Try.func62 (by kernel_rfl) rfl #[.int .i64 t310] rfl mz ?_; (with_reducible refine (impl_NumWrap.calls _ _ _ A25.out).mono ?_); rintro e w' ⟨rfl, ⟨nd, rfl⟩⟩; refine ⟨_, rfl, ?_⟩; (try (rw [drewN_self wc]; generalize hq_ : World.drewN wc _ = wc; replace BK306 : Bx2 wc gb306 a1_0 a1_1 24 := ⟨by rw [← hq_]; exact (Z BK306)⟩; replace BK307 : Bx2 wc gb307 a2_0 a2_1 24 := ⟨by rw [← hq_]; exact (Z BK307)⟩; replace BK308 : Bx2 wc gb308 0 0 24 := ⟨by rw [← hq_]; exact (Z BK308)⟩; replace HB : Aside0 (Below w.heap.size w wc) := ⟨by rw [← hq_]; exact (YA HB)⟩; clear hq_))) | ((with_reducible refine gate_callee (f := 50) rfl ?_); refine gL 32 Try.func50 (impl_rangeFrom.calls _ _ _ _ _ A26.out) fun w27 hb => ?_; obtain ⟨BK306, BK307, BK308, HB⟩ := bk3 BK306 BK307 BK308 HB hb; (try clear hb); obtain ⟨hnb28,hnc28⟩ := nn NB308_306; obtain ⟨hnb29,hnc29⟩ := nn NB308_307; obtain ⟨hcz30_0,hcz30_1,hfz30_0,hfz30_1⟩ := cB2 BK308))
   refine bodyPost_ret (results_cell_row rfl _ _ gb308 24 #[.int .i64 t317, .int .i64 t318] (0, 0) _ rfl (by refine pf ?_; refine blk_put (cs := #[.int .i64 t317, .int .i64 0]) ?_ 1 _ rfl; refine pf ?_; refine blk_put (cs := #[.int .i64 0, .int .i64 0]) ?_ 0 _ rfl; exact Z BK308) Try.underlying24 rfl (by kernel_rfl)) rfl ?_
   exact ⟨ez, YA HB⟩

/-! ### impl_RangeMeet: function 93 -/
attribute [local go_sem] Go.Proofs.YthbkakcchgnhpaaSet.isSome_setCell
def impl_RangeMeet.j0 : Nat → Bool → Int → Int → Int → Int → Option (Int × Int)
 | 0, _, _, _, _, _ => none
 | k + 1, x20, x320000, x320001, x321000, x321001 => if x20 = true then ((impl_rangeNone.f).bind fun bt326 => (some (bt326.1, bt326.2))) else ((impl_rangeFrom.f (mx x320000 x321000) (mn x320001 x321001)).bind fun bt328 => (some (bt328.1, bt328.2)))
def impl_RangeMeet.f (k : Nat) (a0_0 : Int) (a0_1 : Int) (a1_0 : Int) (a1_1 : Int) : Option (Int × Int) := (impl_RangeOk.f a0_0 a0_1).bind fun t322 => (if t322 = true then ((impl_RangeOk.f a1_0 a1_1).bind fun t323 => (if t323 = true then ((impl_Range_empty.f a0_0 a0_1).bind fun t324 => (if t324 = true then (impl_RangeMeet.j0 k true a0_0 a0_1 a1_0 a1_1) else ((impl_Range_empty.f a1_0 a1_1).bind fun t325 => (impl_RangeMeet.j0 k t325 a0_0 a0_1 a1_0 a1_1)))) else (impl_RangeMeet.j0 k true a0_0 a0_1 a1_0 a1_1))) else (impl_RangeMeet.j0 k true a0_0 a0_1 a1_0 a1_1))
theorem impl_RangeMeet.mono_l : ∀ k, (∀ y0 y1 y2 y3 y4, LeO (impl_RangeMeet.j0 k y0 y1 y2 y3 y4) (impl_RangeMeet.j0 (k + 1) y0 y1 y2 y3 y4))
 | 0 => fun _ _ _ _ _ r h => by simp [impl_RangeMeet.j0] at h
 | k + 1 => by
  have ih0 := impl_RangeMeet.mono_l k
  ·intro y0 y1 y2 y3 y4
   unfold impl_RangeMeet.j0
   repeat' first | (with_reducible first | apply ih0 | apply LeO.refl | apply LeO.none | refine LeO.ite ?_ ?_ | refine LeO.bind ?_ (fun _ => ?_)) | apply ih0 | apply LeO.none | refine LeO.ite ?_ ?_ | refine LeO.bind ?_ (fun _ => ?_)
theorem impl_RangeMeet.mono : ∀ a0 a1 a2 a3 k, LeO (impl_RangeMeet.f k a0 a1 a2 a3) (impl_RangeMeet.f (k + 1) a0 a1 a2 a3) := by
 intro a0 a1 a2 a3 k
 have ih0 := impl_RangeMeet.mono_l k
 unfold impl_RangeMeet.f
 repeat' first | (with_reducible first | apply ih0 | apply LeO.refl | apply LeO.none | refine LeO.ite ?_ ?_ | refine LeO.bind ?_ (fun _ => ?_)) | apply ih0 | apply LeO.none | refine LeO.ite ?_ ?_ | refine LeO.bind ?_ (fun _ => ?_)
set_option maxHeartbeats 8000000 in
set_option maxRecDepth 100000 in
theorem impl_RangeMeet.calls (k : Nat) (a0_0 : Int) (a0_1 : Int) (a1_0 : Int) (a1_1 : Int) (r1 : Int) (r2 : Int) (w : World) (h : impl_RangeMeet.f k a0_0 a0_1 a1_0 a1_1 = some (r1, r2)) :
  Calls Try.prog 93 #[.agg #[.int .i64 a0_0, .int .i64 a0_1], .agg #[.int .i64 a1_0, .int .i64 a1_1]] w fun e w' => e = .returned (.agg #[.int .i64 r1, .int .i64 r2]) ∧ Below w.heap.size w w' := by
 have hu24 := Try.underlying24
 have HB := am (Below.refl w.heap.size w)
 have H : ((impl_RangeOk.f a0_0 a0_1).bind fun t322 => (if t322 = true then ((impl_RangeOk.f a1_0 a1_1).bind fun t323 => (if t323 = true then ((impl_Range_empty.f a0_0 a0_1).bind fun t324 => (if t324 = true then (impl_RangeMeet.j0 k true a0_0 a0_1 a1_0 a1_1) else ((impl_Range_empty.f a1_0 a1_1).bind fun t325 => (impl_RangeMeet.j0 k t325 a0_0 a0_1 a1_0 a1_1)))) else (impl_RangeMeet.j0 k true a0_0 a0_1 a1_0 a1_1))) else (impl_RangeMeet.j0 k true a0_0 a0_1 a1_0 a1_1))) = some (r1, r2) := h
 clear h
 have HC3 := am H
 clear H
 go_enter Try.func93, Try.ntmps93
 go_upto_region 1 with (first | ((with_reducible refine gate_dst (N := 2) rfl ?_); refine bx 2 #[.int .i64 a0_0, .int .i64 a0_1] 24 ?_; intro gb319 hg w4 hbox hb; have BK319 := am (hbox); have GW319 := am (bs hg (YA HB)); have GE319 := GW319; replace HB := am (below_step (YA HB) hb); clear hb hbox hg) | ((with_reducible refine gate_dst (N := 3) rfl ?_); refine bx 3 #[.int .i64 a1_0, .int .i64 a1_1] 24 ?_; intro gb320 hg w5 hbox hb; have BK320 := am (hbox); have GW320 := am (bs hg (YA HB)); have GE320 := GW320; obtain ⟨NB319_320,NB320_319⟩ := ne_ hg BK319; obtain ⟨BK319, HB⟩ := bk1 BK319 HB hb; clear hb hbox hg) | ((with_reducible refine gate_dst (N := 4) rfl ?_); refine bx 4 #[.int .i64 0, .int .i64 0] 24 ?_; intro gb321 hg w6 hbox hb; have BK321 := am (hbox); have GW321 := am (bs hg (YA HB)); have GE321 := GW321; obtain ⟨NB319_321,NB321_319⟩ := ne_ hg BK319; obtain ⟨NB320_321,NB321_320⟩ := ne_ hg BK320; obtain ⟨BK319, BK320, HB⟩ := bk2 BK319 BK320 HB hb; clear hb hbox hg))
 (try simp only [Act.put, List.setIfInBounds_toArray, List.set_cons_zero, List.set_cons_succ])
 go_cut [20] (fun v20 wc => ∃ (kq : Nat) (x20_2 : Bool), v20 = .bool x20_2 ∧ Aside0 (impl_RangeMeet.j0 kq x20_2 a0_0 a0_1 a1_0 a1_1 = some (r1, r2)) ∧ Aside0 (kq ≤ k) ∧ Bx2 wc gb319 a0_0 a0_1 24 ∧ Bx2 wc gb320 a1_0 a1_1 24 ∧ Bx2 wc gb321 0 0 24 ∧ Aside0 (Below w.heap.size w wc))
 case first =>
  have H := HC3.out
  clear HC3
  obtain ⟨t322, A7, H⟩ := bd H
  try dsimp only at H
  by_cases c8 : t322 = true
  rotate_left
  ·replace c8 := Bool.eq_false_iff.mpr c8
   subst c8
   rw [if_neg ff] at H
   have H' := am H
   clear H
   obtain ⟨hnb41,hnc41⟩ := nn NB319_320
   obtain ⟨hnb42,hnc42⟩ := nn NB319_321
   obtain ⟨hcz43_0,hcz43_1,hfz43_0,hfz43_1⟩ := cB2 BK319
   go_wp2_with (first | ((with_reducible refine gate_callee (f := 46) rfl ?_); refine gL 6 Try.func46 (impl_RangeOk.calls _ _ _ _ A7.out) fun w44 hb => ?_; obtain ⟨BK319, BK320, BK321, HB⟩ := bk3 BK319 BK320 BK321 HB hb; (try clear hb)))
   go_meet
   case rel => exact ⟨_, (true), ey, H', le0, ⟨Z BK319⟩, ⟨Z BK320⟩, ⟨Z BK321⟩, ⟨YA HB⟩⟩
  subst c8
  rw [if_pos rfl] at H
  obtain ⟨t323, A9, H⟩ := bd H
  try dsimp only at H
  by_cases c10 : t323 = true
  rotate_left
  ·replace c10 := Bool.eq_false_iff.mpr c10
   subst c10
   rw [if_neg ff] at H
   have H' := am H
   clear H
   obtain ⟨hnb34,hnc34⟩ := nn NB319_320
   obtain ⟨hnb35,hnc35⟩ := nn NB319_321
   obtain ⟨hcz36_0,hcz36_1,hfz36_0,hfz36_1⟩ := cB2 BK319
   go_wp2_with (first | ((with_reducible refine gate_callee (f := 46) rfl ?_); refine gL 6 Try.func46 (impl_RangeOk.calls _ _ _ _ A7.out) fun w37 hb => ?_; obtain ⟨BK319, BK320, BK321, HB⟩ := bk3 BK319 BK320 BK321 HB hb; (try clear hb); obtain ⟨hnb38,hnc38⟩ := nn NB320_321; obtain ⟨hcz39_0,hcz39_1,hfz39_0,hfz39_1⟩ := cB2 BK320) | (go_at_call 46; (with_reducible refine (impl_RangeOk.calls _ _ _ _ A9.out).mono ?_); rintro e w40 ⟨rfl, hb⟩; obtain ⟨BK319, BK320, BK321, HB⟩ := bk3 BK319 BK320 BK321 HB hb; (try clear hb)))
   go_meet
   case rel => exact ⟨_, (true), ey, H', le0, ⟨Z BK319⟩, ⟨Z BK320⟩, ⟨Z BK321⟩, ⟨YA HB⟩⟩
  subst c10
  rw [if_pos rfl] at H
  obtain ⟨t324, A11, H⟩ := bd H
  try dsimp only at H
  by_cases c12 : t324 = true
  ·subst c12
   rw [if_pos rfl] at H
   have H' := am H
   clear H
   obtain ⟨hnb13,hnc13⟩ := nn NB319_320
   obtain ⟨hnb14,hnc14⟩ := nn NB319_321
   obtain ⟨hcz15_0,hcz15_1,hfz15_0,hfz15_1⟩ := cB2 BK319
   go_wp2_with (first | ((with_reducible refine gate_callee (f := 46) rfl ?_); refine gL 6 Try.func46 (impl_RangeOk.calls _ _ _ _ A7.out) fun w16 hb => ?_; obtain ⟨BK319, BK320, BK321, HB⟩ := bk3 BK319 BK320 BK321 HB hb; (try clear hb); obtain ⟨hnb17,hnc17⟩ := nn NB320_321; obtain ⟨hcz18_0,hcz18_1,hfz18_0,hfz18_1⟩ := cB2 BK320) | (go_at_call 46; (with_reducible refine (impl_RangeOk.calls _ _ _ _ A9.out).mono ?_); rintro e w19 ⟨rfl, hb⟩; obtain ⟨BK319, BK320, BK321, HB⟩ := bk3 BK319 BK320 BK321 HB hb; (try clear hb); obtain ⟨hcz20_0,hcz20_1,hfz20_0,hfz20_1⟩ := cB2 BK319) | (go_at_call 47; (with_reducible refine (impl_Range_empty.calls _ _ _ _ A11.out).mono ?_); rintro e w21 ⟨rfl, hb⟩; obtain ⟨BK319, BK320, BK321, HB⟩ := bk3 BK319 BK320 BK321 HB hb; (try clear hb)))
   go_meet
   case rel => exact ⟨_, (true), ey, H', le0, ⟨Z BK319⟩, ⟨Z BK320⟩, ⟨Z BK321⟩, ⟨YA HB⟩⟩
  replace c12 := Bool.eq_false_iff.mpr c12
  subst c12
  rw [if_neg ff] at H
  obtain ⟨t325, A22, H⟩ := bd H
  try dsimp only at H
  have H' := am H
  clear H
  obtain ⟨hnb23,hnc23⟩ := nn NB319_320
  obtain ⟨hnb24,hnc24⟩ := nn NB319_321
  obtain ⟨hcz25_0,hcz25_1,hfz25_0,hfz25_1⟩ := cB2 BK319
  go_wp2_with (first | ((with_reducible refine gate_callee (f := 46) rfl ?_); refine gL 6 Try.func46 (impl_RangeOk.calls _ _ _ _ A7.out) fun w26 hb => ?_; obtain ⟨BK319, BK320, BK321, HB⟩ := bk3 BK319 BK320 BK321 HB hb; (try clear hb); obtain ⟨hnb27,hnc27⟩ := nn NB320_321; obtain ⟨hcz28_0,hcz28_1,hfz28_0,hfz28_1⟩ := cB2 BK320) | (go_at_call 46; (with_reducible refine (impl_RangeOk.calls _ _ _ _ A9.out).mono ?_); rintro e w29 ⟨rfl, hb⟩; obtain ⟨BK319, BK320, BK321, HB⟩ := bk3 BK319 BK320 BK321 HB hb; (try clear hb); obtain ⟨hcz30_0,hcz30_1,hfz30_0,hfz30_1⟩ := cB2 BK319) | (go_at_call 47; (with_reducible refine (impl_Range_empty.calls _ _ _ _ A11.out).mono ?_); rintro e w31 ⟨rfl, hb⟩; obtain ⟨BK319, BK320, BK321, HB⟩ := bk3 BK319 BK320 BK321 HB hb; (try clear hb); obtain ⟨hcz32_0,hcz32_1,hfz32_0,hfz32_1⟩ := cB2 BK320) | (go_at_call 47; (with_reducible refine (impl_Range_empty.calls _ _ _ _ A22.out).mono ?_); rintro e w33 ⟨rfl, hb⟩; obtain ⟨BK319, BK320, BK321, HB⟩ := bk3 BK319 BK320 BK321 HB hb; (try clear hb)))
  go_meet
  case rel => exact ⟨_, (t325), ey, H', le0, ⟨Z BK319⟩, ⟨Z BK320⟩, ⟨Z BK321⟩, ⟨YA HB⟩⟩
 case rest =>
  clear HC3
  obtain ⟨kq, x20_2, rfl, HA, HJ2, BK319, BK320, BK321, HB⟩ := hcut
  cases kq with
  | zero => exact absurd HA.out (by simp [impl_RangeMeet.j0])
  | succ kj2 =>
   have H := HA.out
   clear HA
   simp only [impl_RangeMeet.j0] at H
   by_cases c45 : x20_2 = true
   ·subst c45
    rw [if_pos rfl] at H
    obtain ⟨⟨t326, t327⟩, A46, H⟩ := bd H
    try dsimp only at H
    simp only [Option.some.injEq, Prod.mk.injEq] at H
    obtain ⟨rfl, rfl⟩ := H
    go_wp2_with (first | ((with_reducible refine gate_callee (f := 48) rfl ?_); refine gL 21 Try.func48 (impl_rangeNone.calls _ _ _ A46.out) fun w47 hb => ?_; obtain ⟨BK319, BK320, BK321, HB⟩ := bk3 BK319 BK320 BK321 HB hb; (try clear hb); obtain ⟨hnb48,hnc48⟩ := nn NB321_319; obtain ⟨hnb49,hnc49⟩ := nn NB321_320; obtain ⟨hcz50_0,hcz50_1,hfz50_0,hfz50_1⟩ := cB2 BK321))
    refine bodyPost_ret (results_cell_row rfl _ _ gb321 24 #[.int .i64 t326, .int .i64 t327] (0, 0) _ rfl (by refine pf ?_; refine blk_put (cs := #[.int .i64 t326, .int .i64 0]) ?_ 1 _ rfl; refine pf ?_; refine blk_put (cs := #[.int .i64 0, .int .i64 0]) ?_ 0 _ rfl; exact Z BK321) Try.underlying24 rfl (by kernel_rfl)) rfl ?_
    exact ⟨ez, YA HB⟩
   replace c45 := Bool.eq_false_iff.mpr c45
   subst c45
   rw [if_neg ff] at H
   obtain ⟨ji51, hji51⟩ : ∃ j_ : Int, (mx a0_0 a1_0) = j_ := ⟨_, rfl⟩
   replace H : ((impl_rangeFrom.f (ji51) (mn a0_1 a1_1)).bind fun bt328 => (some (bt328.1, bt328.2))) = some (r1, r2) := by first | (rw [hji51] at H; exact H) | (simp only [hji51] at H ⊢; exact H)
   have hji51_ : (if a0_0 < a1_0 then a1_0 else a0_0) = ji51 := hji51
   obtain ⟨ji52, hji52⟩ : ∃ j_ : Int, (mn a0_1 a1_1) = j_ := ⟨_, rfl⟩
   replace H : ((impl_rangeFrom.f (ji51) (ji52)).bind fun bt328 => (some (bt328.1, bt328.2))) = some (r1, r2) := by first | (rw [hji52] at H; exact H) | (simp only [hji52] at H ⊢; exact H)
   have hji52_ : (if a1_1 < a0_1 then a1_1 else a0_1) = ji52 := hji52
   obtain ⟨⟨t328, t329⟩, A53, H⟩ := bd H
   try dsimp only at H
   simp only [Option.some.injEq, Prod.mk.injEq] at H
   obtain ⟨rfl, rfl⟩ := H
   obtain ⟨hnb54,hnc54⟩ := nn NB319_320
   obtain ⟨hnb55,hnc55⟩ := nn NB319_321
   obtain ⟨hcz56_0,hcz56_1,hfz56_0,hfz56_1⟩ := cB2 BK319
   obtain ⟨hnb57,hnc57⟩ := nn NB320_321
   obtain ⟨hcz58_0,hcz58_1,hfz58_0,hfz58_1⟩ := cB2 BK320
   go_wp2_with (first | ((with_reducible refine gate_callee (f := 50) rfl ?_); refine goesL_ (some 32) rfl rfl Try.func50 (by kernel_rfl) rfl #[.int .i64 ji51, .int .i64 ji52] rfl (by (try simp only [List.map_toArray, List.map_cons, List.map_nil]); first | done | (simp only [hji51, hji52]; rfl) | rfl | (simp only [List.length_drop, List.length_take]; rfl)) ?_; (with_reducible refine (impl_rangeFrom.calls _ _ _ _ _ A53.out).mono ?_); rintro e w59 ⟨rfl, hb⟩; refine ⟨_, rfl, ?_⟩; obtain ⟨BK319, BK320, BK321, HB⟩ := bk3 BK319 BK320 BK321 HB hb; (try clear hb); obtain ⟨hcz60_0,hcz60_1,hfz60_0,hfz60_1⟩ := cB2 BK321))
   refine bodyPost_ret (results_cell_row rfl _ _ gb321 24 #[.int .i64 t328, .int .i64 t329] (0, 0) _ rfl (by refine pf ?_; refine blk_put (cs := #[.int .i64 t328, .int .i64 0]) ?_ 1 _ rfl; refine pf ?_; refine blk_put (cs := #[.int .i64 0, .int .i64 0]) ?_ 0 _ rfl; exact Z BK321) Try.underlying24 rfl (by kernel_rfl)) rfl ?_
   exact ⟨by first | rfl | (simp [errW_none, errW_some] <;> rfl) | (simp only [← hji51, ← hji52]; first | rfl | (simp [errW_none, errW_some] <;> rfl)) | (simp [*, errW_none, errW_some] <;> rfl), YA HB⟩

end Go.Proofs.Ythbkakcchgnhpaa.PFnRangeFaults
