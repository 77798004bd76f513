/- Written by this session's own driver (wip/dprint.py): the functions that the law FnExactValMeet reaches, as Lean functions, each with its contract. -/
import Derived.Test.YtnmccgjdnceheaaPFnExactValMeetx0
import Derived.Test.YtnmccgjdnceheaaPFnExactValMeetx3
import Derived.Test.YtnmccgjdnceheaaPFnExactValMeetx4
import Derived.Test.YtnmccgjdnceheaaPFnExactValMeetx5
import Derived.Test.YtnmccgjdnceheaaSv
namespace Go.Proofs.Ytnmccgjdnceheaa.PFnExactValMeet
open Go.RowKit Go.Proofs.YtnmccgjdnceheaaV.PrintWords Go.Proofs.YtnmccgjdnceheaaV.PrintLast Go.Proofs.YtnmccgjdnceheaaV.PrintMore Go.Proofs.YtnmccgjdnceheaaSv
attribute [local go_sem] max2_int min2_int max_two min_two max_three min_three max_four min_four   -- for this text's walks alone
set_option linter.unusedVariables false
set_option linter.unusedSimpArgs false

/-! ### spec_RestHas: function 61 -/
def spec_RestHas.j0 : Nat → Int → Bool → Int → Int → Option (Bool)
 | 0, _, _, _, _ => none
 | k + 1, x1, x12, x176000, x176001 => if x12 = true then (some false) else (if x176000 = 0 then (some (x1 == x176001)) else ((spec_l1Mod.f x1 x176000).bind fun t178 => (some (t178 == x176001))))
def spec_RestHas.f (k : Nat) (a0_0 : Int) (a0_1 : Int) (a1 : Int) : Option (Bool) := (spec_RestOk.f a0_0 a0_1).bind fun t176 => (if t176 = true then ((spec_NumOk.f a1).bind fun t177 => (spec_RestHas.j0 k a1 (!t177) a0_0 a0_1)) else (spec_RestHas.j0 k a1 true a0_0 a0_1))
theorem spec_RestHas.mono_l : ∀ k, (∀ y0 y1 y2 y3, LeO (spec_RestHas.j0 k y0 y1 y2 y3) (spec_RestHas.j0 (k + 1) y0 y1 y2 y3))
 | 0 => fun _ _ _ _ r h => by simp [spec_RestHas.j0] at h
 | k + 1 => by
  have ih0 := spec_RestHas.mono_l k
  ·intro y0 y1 y2 y3
   unfold spec_RestHas.j0
   repeat' first
   | (with_reducible exact ih0 _ _ _ _)
   | (with_reducible exact LeO.refl _)
   | (with_reducible exact LeO.none _)
   | (with_reducible refine LeO.ite ?_ ?_)
   | (with_reducible refine LeO.bind ?_ (fun _ => ?_))
   | exact ih0 _ _ _ _
   | exact LeO.none _
   | refine LeO.ite ?_ ?_
   | refine LeO.bind ?_ (fun _ => ?_)
theorem spec_RestHas.mono : ∀ a0 a1 a2 k, LeO (spec_RestHas.f k a0 a1 a2) (spec_RestHas.f (k + 1) a0 a1 a2) := by
 intro a0 a1 a2 k
 have ih0 := spec_RestHas.mono_l k
 unfold spec_RestHas.f
 repeat' first
   | (with_reducible exact ih0 _ _ _ _)
   | (with_reducible exact LeO.refl _)
   | (with_reducible exact LeO.none _)
   | (with_reducible refine LeO.ite ?_ ?_)
   | (with_reducible refine LeO.bind ?_ (fun _ => ?_))
   | exact ih0 _ _ _ _
   | exact LeO.none _
   | refine LeO.ite ?_ ?_
   | refine LeO.bind ?_ (fun _ => ?_)
set_option maxHeartbeats 8000000 in
set_option maxRecDepth 100000 in
theorem spec_RestHas.calls (k : Nat) (a0_0 : Int) (a0_1 : Int) (a1 : Int) (r : Bool) (w : World) (h : spec_RestHas.f k a0_0 a0_1 a1 = some r) :
  Calls Try.prog 61 #[.agg #[.int .i64 a0_0, .int .i64 a0_1], .int .i64 a1] w fun e w' => e = .returned (.bool r) ∧ Below w.heap.size w w' := by
 have hu90 := Try.underlying90
 have HB := Aside0.mk (Below.refl w.heap.size w)
 have H : ((spec_RestOk.f a0_0 a0_1).bind fun t176 => (if t176 = true then ((spec_NumOk.f a1).bind fun t177 => (spec_RestHas.j0 k a1 (!t177) a0_0 a0_1)) else (spec_RestHas.j0 k a1 true a0_0 a0_1))) = some r := h
 clear h
 have HC3 := Aside0.mk H
 clear H
 go_enter Try.func61, Try.ntmps61
 go_upto_region 1 with (first | ((with_reducible refine gate_dst (N := 2) rfl ?_); refine box_event ?hg (N := 2) ?hd (cs := #[.int .i64 a0_0, .int .i64 a0_1]) (t := 90) ?hr ?_; (case hd => rfl); (case hg => rfl); (case hr => first | (go_simp; done) | (go_simp; rfl)); intro gb175 hg w4 hbox hb; have n0_ := Aside0.mk (below_step (hz HB.out) hb); have n1_ := Aside0.mk (hbox); have n2_ := Aside0.mk ((by rw [hg]; exact (below_size (hz HB.out)) : w.heap.size ≤ gb175)); have n3_ := Aside0.mk ((by rw [hg]; exact (below_size (hz HB.out)) : w.heap.size ≤ gb175)); clear HB; have HB := n0_; have BK175 := n1_; have GW175 := n2_; have GE175 := n3_; clear n0_ n1_ n2_ n3_; clear hb hbox hg))
 repeat (go_quiet (first | ((with_reducible refine gate_dst (N := 2) rfl ?_); refine box_event ?hg (N := 2) ?hd (cs := #[.int .i64 a0_0, .int .i64 a0_1]) (t := 90) ?hr ?_; (case hd => rfl); (case hg => rfl); (case hr => first | (go_simp; done) | (go_simp; rfl)); intro gb175 hg w4 hbox hb; have n0_ := Aside0.mk (below_step (hz HB.out) hb); have n1_ := Aside0.mk (hbox); have n2_ := Aside0.mk ((by rw [hg]; exact (below_size (hz HB.out)) : w.heap.size ≤ gb175)); have n3_ := Aside0.mk ((by rw [hg]; exact (below_size (hz HB.out)) : w.heap.size ≤ gb175)); clear HB; have HB := n0_; have BK175 := n1_; have GW175 := n2_; have GE175 := n3_; clear n0_ n1_ n2_ n3_; clear hb hbox hg)); go_upto_region 1 with (first | ((with_reducible refine gate_dst (N := 2) rfl ?_); refine box_event ?hg (N := 2) ?hd (cs := #[.int .i64 a0_0, .int .i64 a0_1]) (t := 90) ?hr ?_; (case hd => rfl); (case hg => rfl); (case hr => first | (go_simp; done) | (go_simp; rfl)); intro gb175 hg w4 hbox hb; have n0_ := Aside0.mk (below_step (hz HB.out) hb); have n1_ := Aside0.mk (hbox); have n2_ := Aside0.mk ((by rw [hg]; exact (below_size (hz HB.out)) : w.heap.size ≤ gb175)); have n3_ := Aside0.mk ((by rw [hg]; exact (below_size (hz HB.out)) : w.heap.size ≤ gb175)); clear HB; have HB := n0_; have BK175 := n1_; have GW175 := n2_; have GE175 := n3_; clear n0_ n1_ n2_ n3_; clear hb hbox hg)))
 (try simp only [Act.put, List.setIfInBounds_toArray, List.set_cons_zero, List.set_cons_succ])
 go_cut [12] (fun v12 wc => ∃ (kq : Nat) (x12_2 : Bool), v12 = .bool x12_2 ∧ Aside0 (spec_RestHas.j0 kq a1 x12_2 a0_0 a0_1 = some r) ∧ Aside0 (kq ≤ k) ∧ Aside0 (wc.heap[gb175]? = some (.cells #[.int .i64 a0_0, .int .i64 a0_1] 90 (0, 0))) ∧ Aside0 (Below w.heap.size w wc))
 case first =>
  have H := HC3.out
  clear HC3
  replace H := Option.bind_eq_some_iff.mp H
  obtain ⟨t176, A50, H⟩ := H
  replace H : (if t176 = true then ((spec_NumOk.f a1).bind fun t177 => (spec_RestHas.j0 k a1 (!t177) a0_0 a0_1)) else (spec_RestHas.j0 k a1 true a0_0 a0_1)) = some r := H
  have A5 := Aside0.mk A50
  clear A50
  by_cases c6 : t176 = true
  ·subst c6
   have H1 : ((spec_NumOk.f a1).bind fun t177 => (spec_RestHas.j0 k a1 (!t177) a0_0 a0_1)) = some r := by rw [if_pos rfl] at H; exact H
   clear H
   have H := H1
   clear H1
   replace H := Option.bind_eq_some_iff.mp H
   obtain ⟨t177, A70, H⟩ := H
   replace H : (spec_RestHas.j0 k a1 (!t177) a0_0 a0_1) = some r := H
   have A7 := Aside0.mk A70
   clear A70
   have H' := Aside0.mk H
   clear H
   have hcz8_0 : w4.cell? ⟨gb175, 0, none⟩ = some (.int .i64 a0_0) := bc BK175 0
   have hcz8_1 : w4.cell? ⟨gb175, 1, none⟩ = some (.int .i64 a0_1) := bc BK175 1
   have hfz8_0 := blk_frozen BK175.out 0
   have hfz8_1 := blk_frozen BK175.out 1
   go_wp2_with (first | (go_at_call 118; (with_reducible refine (spec_RestOk.calls a0_0 a0_1 true _ A5.out).mono ?_); rintro e w9 ⟨rfl, hb⟩; have n0_ := Aside0.mk (blk_below (g := gb175) (o := b2 a0_0 a0_1 90) (bz BK175.out) hb); have n1_ := Aside0.mk (below_step (hz1 HB.out GE175.out) hb); clear BK175; clear HB; have BK175 := n0_; have HB := n1_; clear n0_ n1_; (try clear hb); (try clear hb2); (try clear hk); (try clear hi)) | (go_at_call 93; (with_reducible refine (spec_NumOk.calls a1 t177 _ A7.out).mono ?_); rintro e w' ⟨rfl, ⟨nd, rfl⟩⟩; (try first | exact ⟨rfl, _, World.drewN_drewN _ _ _⟩ | exact ⟨rfl, _, Eq.trans (World.drewN_drewN _ _ _) (congrArg (World.drewN _) (Nat.add_assoc _ _ _))⟩)))
   repeat (go_quiet (first | (go_at_call 118; (with_reducible refine (spec_RestOk.calls a0_0 a0_1 true _ A5.out).mono ?_); rintro e w9 ⟨rfl, hb⟩; have n0_ := Aside0.mk (blk_below (g := gb175) (o := b2 a0_0 a0_1 90) (bz BK175.out) hb); have n1_ := Aside0.mk (below_step (hz1 HB.out GE175.out) hb); clear BK175; clear HB; have BK175 := n0_; have HB := n1_; clear n0_ n1_; (try clear hb); (try clear hb2); (try clear hk); (try clear hi)) | (go_at_call 93; (with_reducible refine (spec_NumOk.calls a1 t177 _ A7.out).mono ?_); rintro e w' ⟨rfl, ⟨nd, rfl⟩⟩; (try first | exact ⟨rfl, _, World.drewN_drewN _ _ _⟩ | exact ⟨rfl, _, Eq.trans (World.drewN_drewN _ _ _) (congrArg (World.drewN _) (Nat.add_assoc _ _ _))⟩))); try go_wp2_with (first | (go_at_call 118; (with_reducible refine (spec_RestOk.calls a0_0 a0_1 true _ A5.out).mono ?_); rintro e w9 ⟨rfl, hb⟩; have n0_ := Aside0.mk (blk_below (g := gb175) (o := b2 a0_0 a0_1 90) (bz BK175.out) hb); have n1_ := Aside0.mk (below_step (hz1 HB.out GE175.out) hb); clear BK175; clear HB; have BK175 := n0_; have HB := n1_; clear n0_ n1_; (try clear hb); (try clear hb2); (try clear hk); (try clear hi)) | (go_at_call 93; (with_reducible refine (spec_NumOk.calls a1 t177 _ A7.out).mono ?_); rintro e w' ⟨rfl, ⟨nd, rfl⟩⟩; (try first | exact ⟨rfl, _, World.drewN_drewN _ _ _⟩ | exact ⟨rfl, _, Eq.trans (World.drewN_drewN _ _ _) (congrArg (World.drewN _) (Nat.add_assoc _ _ _))⟩))))
   go_meet
   case rel => exact ⟨_, (!t177), (by first | rfl | (simp; done) | (simp [*]; done)), H', ⟨by first | omega | exact Nat.le_refl _⟩, ⟨bz BK175.out⟩, ⟨hz1 HB.out GE175.out⟩⟩
  ·replace c6 := Bool.eq_false_iff.mpr c6
   subst c6
   have H1 : (spec_RestHas.j0 k a1 true a0_0 a0_1) = some r := by rw [if_neg (show ¬ (false = true) by decide)] at H; exact H
   clear H
   have H := H1
   clear H1
   have H' := Aside0.mk H
   clear H
   have hcz10_0 : w4.cell? ⟨gb175, 0, none⟩ = some (.int .i64 a0_0) := bc BK175 0
   have hcz10_1 : w4.cell? ⟨gb175, 1, none⟩ = some (.int .i64 a0_1) := bc BK175 1
   have hfz10_0 := blk_frozen BK175.out 0
   have hfz10_1 := blk_frozen BK175.out 1
   go_wp2_with (first | (go_at_call 118; (with_reducible refine (spec_RestOk.calls a0_0 a0_1 false _ A5.out).mono ?_); rintro e w11 ⟨rfl, hb⟩; have n0_ := Aside0.mk (blk_below (g := gb175) (o := b2 a0_0 a0_1 90) (bz BK175.out) hb); have n1_ := Aside0.mk (below_step (hz1 HB.out GE175.out) hb); clear BK175; clear HB; have BK175 := n0_; have HB := n1_; clear n0_ n1_; (try clear hb); (try clear hb2); (try clear hk); (try clear hi)))
   repeat (go_quiet (first | (go_at_call 118; (with_reducible refine (spec_RestOk.calls a0_0 a0_1 false _ A5.out).mono ?_); rintro e w11 ⟨rfl, hb⟩; have n0_ := Aside0.mk (blk_below (g := gb175) (o := b2 a0_0 a0_1 90) (bz BK175.out) hb); have n1_ := Aside0.mk (below_step (hz1 HB.out GE175.out) hb); clear BK175; clear HB; have BK175 := n0_; have HB := n1_; clear n0_ n1_; (try clear hb); (try clear hb2); (try clear hk); (try clear hi))); try go_wp2_with (first | (go_at_call 118; (with_reducible refine (spec_RestOk.calls a0_0 a0_1 false _ A5.out).mono ?_); rintro e w11 ⟨rfl, hb⟩; have n0_ := Aside0.mk (blk_below (g := gb175) (o := b2 a0_0 a0_1 90) (bz BK175.out) hb); have n1_ := Aside0.mk (below_step (hz1 HB.out GE175.out) hb); clear BK175; clear HB; have BK175 := n0_; have HB := n1_; clear n0_ n1_; (try clear hb); (try clear hb2); (try clear hk); (try clear hi))))
   go_meet
   case rel => exact ⟨_, (true), (by first | rfl | (simp; done) | (simp [*]; done)), H', ⟨by first | omega | exact Nat.le_refl _⟩, ⟨bz BK175.out⟩, ⟨hz1 HB.out GE175.out⟩⟩
 case rest =>
  clear HC3
  try clear p2
  try clear c6
  try clear hcz10_0
  try clear hcz10_1
  try clear hcz8_0
  try clear hcz8_1
  try clear hfz10_0
  try clear hfz10_1
  try clear hfz8_0
  try clear hfz8_1
  obtain ⟨kq, x12_2, rfl, HA, HJ2, BK175, HB⟩ := hcut
  cases kq with
  | zero => exact absurd HA.out (by simp [spec_RestHas.j0])
  | succ kj2 =>
   have H := HA.out
   clear HA
   simp only [spec_RestHas.j0] at H
   by_cases c12 : x12_2 = true
   ·subst c12
    have H1 : (some false) = some r := by rw [if_pos rfl] at H; exact H
    clear H
    have H := H1
    clear H1
    obtain rfl := Option.some.inj H
    go_wp2
    repeat (go_quiet (fail); try go_wp2)
    go_ret
    exact ⟨by first | rfl | (simp [errW_none, errW_some] <;> rfl) | (simp [*, errW_none, errW_some] <;> rfl), hz1 HB.out GE175.out⟩
   ·replace c12 := Bool.eq_false_iff.mpr c12
    subst c12
    have H1 : (if a0_0 = 0 then (some (a1 == a0_1)) else ((spec_l1Mod.f a1 a0_0).bind fun t178 => (some (t178 == a0_1)))) = some r := by rw [if_neg (show ¬ (false = true) by decide)] at H; exact H
    clear H
    have H := H1
    clear H1
    by_cases c13 : a0_0 = 0
    ·rw [if_pos c13] at H
     have c13b0 : (a0_0 == 0) = true := beq_iff_eq.mpr c13
     have c13b1 : (a0_0 != 0) = false := bne_eq_false_iff_eq.mpr c13
     clear c13
     obtain rfl := Option.some.inj H
     have hcz14_0 : wc.cell? ⟨gb175, 0, none⟩ = some (.int .i64 a0_0) := bc BK175 0
     have hcz14_1 : wc.cell? ⟨gb175, 1, none⟩ = some (.int .i64 a0_1) := bc BK175 1
     have hfz14_0 := blk_frozen BK175.out 0
     have hfz14_1 := blk_frozen BK175.out 1
     go_wp2
     repeat (go_quiet (fail); try go_wp2)
     go_ret
     exact ⟨by first | rfl | (simp [errW_none, errW_some] <;> rfl) | (simp [*, errW_none, errW_some] <;> rfl), hz1 HB.out GE175.out⟩
    ·rw [if_neg c13] at H
     have c13b0 : (a0_0 == 0) = false := beq_eq_false_iff_ne.mpr c13
     have c13b1 : (a0_0 != 0) = true := bne_iff_ne.mpr c13
     replace H := Option.bind_eq_some_iff.mp H
     obtain ⟨t178, A150, H⟩ := H
     replace H : (some (t178 == a0_1)) = some r := H
     have A15 := Aside0.mk A150
     clear A150
     obtain rfl := Option.some.inj H
     have hcz16_0 : wc.cell? ⟨gb175, 0, none⟩ = some (.int .i64 a0_0) := bc BK175 0
     have hcz16_1 : wc.cell? ⟨gb175, 1, none⟩ = some (.int .i64 a0_1) := bc BK175 1
     have hfz16_0 := blk_frozen BK175.out 0
     have hfz16_1 := blk_frozen BK175.out 1
     go_wp2_with (first | (go_at_call 119; (with_reducible refine (spec_l1Mod.calls a1 a0_0 t178 _ A15.out).mono ?_); rintro e w' ⟨rfl, ⟨nd, rfl⟩⟩; (try first | exact ⟨rfl, _, World.drewN_drewN _ _ _⟩ | exact ⟨rfl, _, Eq.trans (World.drewN_drewN _ _ _) (congrArg (World.drewN _) (Nat.add_assoc _ _ _))⟩)))
     repeat (go_quiet (first | (go_at_call 119; (with_reducible refine (spec_l1Mod.calls a1 a0_0 t178 _ A15.out).mono ?_); rintro e w' ⟨rfl, ⟨nd, rfl⟩⟩; (try first | exact ⟨rfl, _, World.drewN_drewN _ _ _⟩ | exact ⟨rfl, _, Eq.trans (World.drewN_drewN _ _ _) (congrArg (World.drewN _) (Nat.add_assoc _ _ _))⟩))); try go_wp2_with (first | (go_at_call 119; (with_reducible refine (spec_l1Mod.calls a1 a0_0 t178 _ A15.out).mono ?_); rintro e w' ⟨rfl, ⟨nd, rfl⟩⟩; (try first | exact ⟨rfl, _, World.drewN_drewN _ _ _⟩ | exact ⟨rfl, _, Eq.trans (World.drewN_drewN _ _ _) (congrArg (World.drewN _) (Nat.add_assoc _ _ _))⟩))))
     go_ret
     exact ⟨by first | rfl | (simp [errW_none, errW_some] <;> rfl) | (simp [*, errW_none, errW_some] <;> rfl), hz1 HB.out GE175.out⟩

/-! ### spec_l9Gcd: function 130 -/
mutual
def spec_l9Gcd.j0 : Nat → Int → Int → Option (Int)
 | 0, _, _ => none
 | k + 1, x0, x1 => if x1 < 0 then (spec_l9Gcd.j1 k x0 (wrap64 (-x1))) else (spec_l9Gcd.j1 k x0 x1)
def spec_l9Gcd.j1 : Nat → Int → Int → Option (Int)
 | 0, _, _ => none
 | k + 1, x0, x1 => spec_l9Gcd.l0 k x0 x1
def spec_l9Gcd.l0 : Nat → Int → Int → Option (Int)
 | 0, _, _ => none
 | k + 1, x0, x1 => if x1 = 0 then (some x0) else (spec_l9Gcd.l0 k x1 (Int.tmod x0 x1))
end
def spec_l9Gcd.f (k : Nat) (a0 : Int) (a1 : Int) : Option (Int) := if a0 < 0 then (spec_l9Gcd.j0 k (wrap64 (-a0)) a1) else (spec_l9Gcd.j0 k a0 a1)
theorem spec_l9Gcd.mono_l : ∀ k, (∀ y0 y1, LeO (spec_l9Gcd.j0 k y0 y1) (spec_l9Gcd.j0 (k + 1) y0 y1)) ∧ (∀ y0 y1, LeO (spec_l9Gcd.j1 k y0 y1) (spec_l9Gcd.j1 (k + 1) y0 y1)) ∧ (∀ y0 y1, LeO (spec_l9Gcd.l0 k y0 y1) (spec_l9Gcd.l0 (k + 1) y0 y1))
 | 0 => ⟨fun _ _ r h => by simp [spec_l9Gcd.j0] at h, fun _ _ r h => by simp [spec_l9Gcd.j1] at h, fun _ _ r h => by simp [spec_l9Gcd.l0] at h⟩
 | k + 1 => by
  obtain ⟨ih0, ih1, ih2⟩ := spec_l9Gcd.mono_l k
  refine ⟨?_, ?_, ?_⟩
  ·intro y0 y1
   unfold spec_l9Gcd.j0
   repeat' first
   | (with_reducible exact ih0 _ _)
   | (with_reducible exact ih1 _ _)
   | (with_reducible exact ih2 _ _)
   | (with_reducible exact LeO.refl _)
   | (with_reducible exact LeO.none _)
   | (with_reducible refine LeO.ite ?_ ?_)
   | (with_reducible refine LeO.bind ?_ (fun _ => ?_))
   | exact ih0 _ _
   | exact ih1 _ _
   | exact ih2 _ _
   | exact LeO.none _
   | refine LeO.ite ?_ ?_
   | refine LeO.bind ?_ (fun _ => ?_)
  ·intro y0 y1
   unfold spec_l9Gcd.j1
   repeat' first
   | (with_reducible exact ih0 _ _)
   | (with_reducible exact ih1 _ _)
   | (with_reducible exact ih2 _ _)
   | (with_reducible exact LeO.refl _)
   | (with_reducible exact LeO.none _)
   | (with_reducible refine LeO.ite ?_ ?_)
   | (with_reducible refine LeO.bind ?_ (fun _ => ?_))
   | exact ih0 _ _
   | exact ih1 _ _
   | exact ih2 _ _
   | exact LeO.none _
   | refine LeO.ite ?_ ?_
   | refine LeO.bind ?_ (fun _ => ?_)
  ·intro y0 y1
   unfold spec_l9Gcd.l0
   repeat' first
   | (with_reducible exact ih0 _ _)
   | (with_reducible exact ih1 _ _)
   | (with_reducible exact ih2 _ _)
   | (with_reducible exact LeO.refl _)
   | (with_reducible exact LeO.none _)
   | (with_reducible refine LeO.ite ?_ ?_)
   | (with_reducible refine LeO.bind ?_ (fun _ => ?_))
   | exact ih0 _ _
   | exact ih1 _ _
   | exact ih2 _ _
   | exact LeO.none _
   | refine LeO.ite ?_ ?_
   | refine LeO.bind ?_ (fun _ => ?_)
theorem spec_l9Gcd.mono : ∀ a0 a1 k, LeO (spec_l9Gcd.f k a0 a1) (spec_l9Gcd.f (k + 1) a0 a1) := by
 intro a0 a1 k
 obtain ⟨ih0, ih1, ih2⟩ := spec_l9Gcd.mono_l k
 unfold spec_l9Gcd.f
 repeat' first
   | (with_reducible exact ih0 _ _)
   | (with_reducible exact ih1 _ _)
   | (with_reducible exact ih2 _ _)
   | (with_reducible exact LeO.refl _)
   | (with_reducible exact LeO.none _)
   | (with_reducible refine LeO.ite ?_ ?_)
   | (with_reducible refine LeO.bind ?_ (fun _ => ?_))
   | exact ih0 _ _
   | exact ih1 _ _
   | exact ih2 _ _
   | exact LeO.none _
   | refine LeO.ite ?_ ?_
   | refine LeO.bind ?_ (fun _ => ?_)
set_option maxHeartbeats 8000000 in
set_option maxRecDepth 100000 in
theorem spec_l9Gcd.calls (k : Nat) (a0 : Int) (a1 : Int) (r : Int) (w : World) (h : spec_l9Gcd.f k a0 a1 = some r) :
  Calls Try.prog 130 #[.int .i64 a0, .int .i64 a1] w fun e w' => e = .returned (.int .i64 r) ∧ Drawn0 w w' := by
 have H : (if a0 < 0 then (spec_l9Gcd.j0 k (wrap64 (-a0)) a1) else (spec_l9Gcd.j0 k a0 a1)) = some r := h
 clear h
 have HC3 := Aside0.mk H
 clear H
 go_enter Try.func130, Try.ntmps130
 go_upto_if 7 with (fail)
 go_cut [0] (fun v0 wc => ∃ (kq : Nat) (x0_2 : Int), v0 = .int .i64 x0_2 ∧ Aside0 (spec_l9Gcd.j0 kq x0_2 a1 = some r) ∧ Aside0 (kq ≤ k) ∧ Drawn0 w wc)
 case first =>
  have H := HC3.out
  clear HC3
  by_cases c4 : a0 < 0
  ·rw [if_pos c4] at H
   have c4b0 : decide (a0 < 0) = true := decide_eq_true c4
   clear c4
   (first | rw [c4b0] | (simp only [i64_w, i32_w]; rw [c4b0]) | skip)
   have H' := Aside0.mk H
   clear H
   go_wp2
   go_meet
   case rel => exact ⟨_, (wrap64 (-a0)), (by first | rfl | (simp; done) | (simp [*]; done)), H', ⟨by first | omega | exact Nat.le_refl _⟩, by repeat (first | exact Drawn0.refl _ | apply Drawn0.step)⟩
  ·rw [if_neg c4] at H
   have c4b0 : decide (a0 < 0) = false := decide_eq_false c4
   clear c4
   (first | rw [c4b0] | (simp only [i64_w, i32_w]; rw [c4b0]) | skip)
   have H' := Aside0.mk H
   clear H
   go_wp2
   go_meet
   case rel => exact ⟨_, (a0), (by first | rfl | (simp; done) | (simp [*]; done)), H', ⟨by first | omega | exact Nat.le_refl _⟩, by repeat (first | exact Drawn0.refl _ | apply Drawn0.step)⟩
 case rest =>
  clear HC3
  try clear c1
  try clear p2
  try clear c4
  try clear c4b0
  obtain ⟨kq, x0_2, rfl, HA, HJ2, ⟨mc2, rfl⟩⟩ := hcut
  cases kq with
  | zero => exact absurd HA.out (by simp [spec_l9Gcd.j0])
  | succ kj2 =>
   have H := HA.out
   clear HA
   simp only [spec_l9Gcd.j0] at H
   have HC5 := Aside0.mk H
   clear H
   go_upto_if 11 with (fail)
   go_cut [1] (fun v1 wc => ∃ (kq : Nat) (x1_4 : Int), v1 = .int .i64 x1_4 ∧ Aside0 (spec_l9Gcd.j1 kq x0_2 x1_4 = some r) ∧ Aside0 (kq ≤ kj2) ∧ Drawn0 w wc)
   case first =>
    have H := HC5.out
    clear HC5
    by_cases c6 : a1 < 0
    ·rw [if_pos c6] at H
     have c6b0 : decide (a1 < 0) = true := decide_eq_true c6
     clear c6
     (first | rw [c6b0] | (simp only [i64_w, i32_w]; rw [c6b0]) | skip)
     have H' := Aside0.mk H
     clear H
     go_wp2
     go_meet
     case rel => exact ⟨_, (wrap64 (-a1)), (by first | rfl | (simp; done) | (simp [*]; done)), H', ⟨by have := HJ2.out; first | omega | exact Nat.le_refl _⟩, by repeat (first | exact Drawn0.refl _ | apply Drawn0.step)⟩
    ·rw [if_neg c6] at H
     have c6b0 : decide (a1 < 0) = false := decide_eq_false c6
     clear c6
     (first | rw [c6b0] | (simp only [i64_w, i32_w]; rw [c6b0]) | skip)
     have H' := Aside0.mk H
     clear H
     go_wp2
     go_meet
     case rel => exact ⟨_, (a1), (by first | rfl | (simp; done) | (simp [*]; done)), H', ⟨by have := HJ2.out; first | omega | exact Nat.le_refl _⟩, by repeat (first | exact Drawn0.refl _ | apply Drawn0.step)⟩
   case rest =>
    clear HC5
    try clear c1
    try clear c2
    try clear p2
    try clear c4
    try clear c4b0
    try clear c6
    try clear c6b0
    try clear p6
    try clear p2
    obtain ⟨kq, x1_4, rfl, HA, HJ4, ⟨mc4, rfl⟩⟩ := hcut
    cases kq with
    | zero => exact absurd HA.out (by simp [spec_l9Gcd.j1])
    | succ kj4 =>
     have H := HA.out
     clear HA
     simp only [spec_l9Gcd.j1] at H
     have H' := Aside0.mk H
     clear H
     go_wp2
     go_loopg [0, 1] kj4 (fun kq v0 v1 w' => ∃ (x0_3 : Int) (x1_3 : Int), v0 = .int .i64 x0_3 ∧ v1 = .int .i64 x1_3 ∧ Aside0 (spec_l9Gcd.l0 kq x0_3 x1_3 = some r) ∧ Aside0 (kq ≤ kj4) ∧ Drawn0 w w')
     case atStart => exact ⟨(x0_2), (x1_4), (by first | rfl | (simp; done) | (simp [*]; done)), (by first | rfl | (simp; done) | (simp [*]; done)), H', ⟨Nat.le_refl _⟩, by repeat (first | exact Drawn0.refl _ | apply Drawn0.step)⟩
     case round =>
      clear H'
      try clear c1
      try clear c2
      try clear p2
      try clear c4
      try clear c4b0
      try clear c6
      try clear c6b0
      try clear p6
      try clear p2
      try clear p6
      obtain ⟨x0_3, x1_3, rfl, rfl, HA, HK3, ⟨m3, rfl⟩⟩ := hrel
      cases gk with
      | zero => exact absurd HA.out (by simp [spec_l9Gcd.l0])
      | succ k3 =>
       have H := HA.out
       clear HA
       simp only [spec_l9Gcd.l0] at H
       by_cases c7 : x1_3 = 0
       ·rw [if_pos c7] at H
        have c7b0 : (x1_3 == 0) = true := beq_iff_eq.mpr c7
        have c7b1 : (x1_3 != 0) = false := bne_eq_false_iff_eq.mpr c7
        clear c7
        obtain rfl := Option.some.inj H
        go_wp2
        go_ret
        exact ⟨by first | rfl | (simp; done) | (simp [*]; done), by repeat (first | exact Drawn0.refl _ | apply Drawn0.step)⟩
       ·rw [if_neg c7] at H
        have c7b0 : (x1_3 == 0) = false := beq_eq_false_iff_ne.mpr c7
        have c7b1 : (x1_3 != 0) = true := bne_iff_ne.mpr c7
        have H' := Aside0.mk H
        clear H
        go_wp2
        go_roundg k3
        case measure => have := HJ2.out; have := HJ4.out; have := HK3.out; omega
        case rel => exact ⟨(x1_3), (Int.tmod x0_3 x1_3), (by first | rfl | (simp; done) | (simp [*]; done)), (by first | rfl | (simp; done) | (simp [*]; done)), H', ⟨by have := HJ2.out; have := HJ4.out; have := HK3.out; omega⟩, by repeat (first | exact Drawn0.refl _ | apply Drawn0.step)⟩

end Go.Proofs.Ytnmccgjdnceheaa.PFnExactValMeet
