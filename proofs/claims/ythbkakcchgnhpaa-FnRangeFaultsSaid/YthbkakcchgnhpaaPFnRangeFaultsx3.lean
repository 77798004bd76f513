/- Written by this session's own driver (wip/dprint.py): the functions that the law FnRangeFaults reaches, as Lean functions, each with its contract. -/
import Derived.Test.YthbkakcchgnhpaaPFnRangeFaultsx0
import Derived.Test.YthbkakcchgnhpaaPFnRangeFaultsx1
import Derived.Test.YthbkakcchgnhpaaPFnRangeFaultsx2
import Derived.Test.YthbkakcchgnhpaaSv
namespace Go.Proofs.Ythbkakcchgnhpaa.PFnRangeFaults
open Go.RowKit Go.Proofs.YthbkakcchgnhpaaV.PrintWords Go.Proofs.YthbkakcchgnhpaaV.PrintLast Go.Proofs.YthbkakcchgnhpaaV.PrintMore Go.Proofs.YthbkakcchgnhpaaSv
attribute [local go_sem] max2_int min2_int max_two min_two max_three min_three max_four min_four   -- for this text's walks alone
set_option linter.unusedVariables false
set_option linter.unusedSimpArgs false

attribute [local go_sem high] eqA24
/-! ### spec_l8Min: function 68 -/
attribute [local go_sem] Go.Proofs.YthbkakcchgnhpaaSet.isSome_setCell
def spec_l8Min.f (a0 : Int) (a1 : Int) : Option (Int) := if a0 < a1 then (some a0) else (some a1)
set_option maxHeartbeats 8000000 in
set_option maxRecDepth 100000 in
theorem spec_l8Min.calls (a0 : Int) (a1 : Int) (r : Int) (w : World) (h : spec_l8Min.f a0 a1 = some r) :
  Calls Try.prog 68 #[.int .i64 a0, .int .i64 a1] w fun e w' => e = .returned (.int .i64 r) ∧ Drawn0 w w' := by
 have H : (if a0 < a1 then (some a0) else (some a1)) = some r := h
 clear h
 by_cases c3 : a0 < a1
 ·rw [if_pos c3] at H
  have c3b0 := dT c3
  clear c3
  obtain rfl := Option.some.inj H
  go_enter Try.func68, Try.ntmps68
  go_wp2
  go_ret
  exact ⟨by first | rfl | (simp; done) | (simp [*]; done), by repeat (first | exact Drawn0.refl _ | apply Drawn0.step)⟩
 rw [if_neg c3] at H
 have c3b0 := dF c3
 clear c3
 obtain rfl := Option.some.inj H
 go_enter Try.func68, Try.ntmps68
 go_wp2
 go_ret
 exact ⟨by first | rfl | (simp; done) | (simp [*]; done), by repeat (first | exact Drawn0.refl _ | apply Drawn0.step)⟩

/-! ### spec_l8Max: function 69 -/
attribute [local go_sem] Go.Proofs.YthbkakcchgnhpaaSet.isSome_setCell
def spec_l8Max.f (a0 : Int) (a1 : Int) : Option (Int) := if a0 > a1 then (some a0) else (some a1)
set_option maxHeartbeats 8000000 in
set_option maxRecDepth 100000 in
theorem spec_l8Max.calls (a0 : Int) (a1 : Int) (r : Int) (w : World) (h : spec_l8Max.f a0 a1 = some r) :
  Calls Try.prog 69 #[.int .i64 a0, .int .i64 a1] w fun e w' => e = .returned (.int .i64 r) ∧ Drawn0 w w' := by
 have H : (if a0 > a1 then (some a0) else (some a1)) = some r := h
 clear h
 by_cases c3 : a0 > a1
 ·rw [if_pos c3] at H
  have c3b0 := dT c3
  clear c3
  obtain rfl := Option.some.inj H
  go_enter Try.func69, Try.ntmps69
  go_wp2
  go_ret
  exact ⟨by first | rfl | (simp; done) | (simp [*]; done), by repeat (first | exact Drawn0.refl _ | apply Drawn0.step)⟩
 rw [if_neg c3] at H
 have c3b0 := dF c3
 clear c3
 obtain rfl := Option.some.inj H
 go_enter Try.func69, Try.ntmps69
 go_wp2
 go_ret
 exact ⟨by first | rfl | (simp; done) | (simp [*]; done), by repeat (first | exact Drawn0.refl _ | apply Drawn0.step)⟩

/-! ### spec_RangeJoin: function 25 -/
attribute [local go_sem] Go.Proofs.YthbkakcchgnhpaaSet.isSome_setCell
def spec_RangeJoin.j0 : Nat → Bool → Int → Int → Int → Int → Option (Int × Int)
 | 0, _, _, _, _, _ => none
 | k + 1, x12, x112000, x112001, x113000, x113001 => if x12 = true then ((spec_l8None.f).bind fun bt116 => (some (bt116.1, bt116.2))) else ((spec_l8None.f).bind fun bt118 => (if (x112000 == bt118.1 && (x112001 == bt118.2)) = true then (some (x113000, x113001)) else ((spec_l8None.f).bind fun bt120 => (if (x113000 == bt120.1 && (x113001 == bt120.2)) = true then (some (x112000, x112001)) else ((spec_l8Min.f x112000 x113000).bind fun t122 => ((spec_l8Max.f x112001 x113001).bind fun t123 => (some (t122, t123))))))))
def spec_RangeJoin.f (k : Nat) (a0_0 : Int) (a0_1 : Int) (a1_0 : Int) (a1_1 : Int) : Option (Int × Int) := (spec_RangeOk.f a0_0 a0_1).bind fun t114 => (if t114 = true then ((spec_RangeOk.f a1_0 a1_1).bind fun t115 => (spec_RangeJoin.j0 k (!t115) a0_0 a0_1 a1_0 a1_1)) else (spec_RangeJoin.j0 k true a0_0 a0_1 a1_0 a1_1))
theorem spec_RangeJoin.mono_l : ∀ k, (∀ y0 y1 y2 y3 y4, LeO (spec_RangeJoin.j0 k y0 y1 y2 y3 y4) (spec_RangeJoin.j0 (k + 1) y0 y1 y2 y3 y4))
 | 0 => fun _ _ _ _ _ r h => by simp [spec_RangeJoin.j0] at h
 | k + 1 => by
  have ih0 := spec_RangeJoin.mono_l k
  ·intro y0 y1 y2 y3 y4
   unfold spec_RangeJoin.j0
   repeat' first | (with_reducible first | apply ih0 | apply LeO.refl | apply LeO.none | refine LeO.ite ?_ ?_ | refine LeO.bind ?_ (fun _ => ?_)) | apply ih0 | apply LeO.none | refine LeO.ite ?_ ?_ | refine LeO.bind ?_ (fun _ => ?_)
theorem spec_RangeJoin.mono : ∀ a0 a1 a2 a3 k, LeO (spec_RangeJoin.f k a0 a1 a2 a3) (spec_RangeJoin.f (k + 1) a0 a1 a2 a3) := by
 intro a0 a1 a2 a3 k
 have ih0 := spec_RangeJoin.mono_l k
 unfold spec_RangeJoin.f
 repeat' first | (with_reducible first | apply ih0 | apply LeO.refl | apply LeO.none | refine LeO.ite ?_ ?_ | refine LeO.bind ?_ (fun _ => ?_)) | apply ih0 | apply LeO.none | refine LeO.ite ?_ ?_ | refine LeO.bind ?_ (fun _ => ?_)
def spec_RangeJoin.T7 : Bool × List (List Nat × List Nat) := (true, [([], []), ([0], [0]), ([], []), ([2], [2]), ([1, 3], [1, 3]), ([], []), ([5], [5]), ([], []), ([7], [7]), ([6, 8, 4], [6, 8]), ([4, 9], [4, 9]), ([10, 9, 0, 1, 2, 3, 4, 5, 6, 7, 8, 9, 10], [10])])
def spec_RangeJoin.B7 : List Nat := [0, 1, 0, 4, 15, 0, 32, 0, 128, 511, 1023, 2047]
theorem spec_RangeJoin.tab7 : rtab .any (opsOf Try.f25 7) = spec_RangeJoin.T7 := by kernel_rfl
theorem spec_RangeJoin.bits7 : waitsOk spec_RangeJoin.T7.2 spec_RangeJoin.B7 = true := by kernel_rfl
set_option maxHeartbeats 8000000 in
set_option maxRecDepth 100000 in
theorem spec_RangeJoin.calls (k : Nat) (a0_0 : Int) (a0_1 : Int) (a1_0 : Int) (a1_1 : Int) (r1 : Int) (r2 : Int) (w : World) (h : spec_RangeJoin.f k a0_0 a0_1 a1_0 a1_1 = some (r1, r2)) :
  Calls Try.prog 25 #[.agg #[.int .i64 a0_0, .int .i64 a0_1], .agg #[.int .i64 a1_0, .int .i64 a1_1]] w fun e w' => e = .returned (.agg #[.int .i64 r1, .int .i64 r2]) ∧ Below w.heap.size w w' := by
 have hu24 := Try.underlying24
 have HB := am (Below.refl w.heap.size w)
 have H : ((spec_RangeOk.f a0_0 a0_1).bind fun t114 => (if t114 = true then ((spec_RangeOk.f a1_0 a1_1).bind fun t115 => (spec_RangeJoin.j0 k (!t115) a0_0 a0_1 a1_0 a1_1)) else (spec_RangeJoin.j0 k true a0_0 a0_1 a1_0 a1_1))) = some (r1, r2) := h
 clear h
 have HC3 := am H
 clear H
 go_enter Try.func25, Try.ntmps25
 go_upto_region 1 with (first | ((with_reducible refine gate_dst (N := 2) rfl ?_); refine bx 2 #[.int .i64 a0_0, .int .i64 a0_1] 24 ?_; intro gb111 hg w4 hbox hb; have BK111 := am (hbox); have GW111 := am (bs hg (YA HB)); have GE111 := GW111; replace HB := am (below_step (YA HB) hb); clear hb hbox hg) | ((with_reducible refine gate_dst (N := 3) rfl ?_); refine bx 3 #[.int .i64 a1_0, .int .i64 a1_1] 24 ?_; intro gb112 hg w5 hbox hb; have BK112 := am (hbox); have GW112 := am (bs hg (YA HB)); have GE112 := GW112; obtain ⟨NB111_112,NB112_111⟩ := ne_ hg BK111; obtain ⟨BK111, HB⟩ := bk1 BK111 HB hb; clear hb hbox hg) | ((with_reducible refine gate_dst (N := 4) rfl ?_); refine bx 4 #[.int .i64 0, .int .i64 0] 24 ?_; intro gb113 hg w6 hbox hb; have BK113 := am (hbox); have GW113 := am (bs hg (YA HB)); have GE113 := GW113; obtain ⟨NB111_113,NB113_111⟩ := ne_ hg BK111; obtain ⟨NB112_113,NB113_112⟩ := ne_ hg BK112; obtain ⟨BK111, BK112, HB⟩ := bk2 BK111 BK112 HB hb; clear hb hbox hg))
 (try simp only [Act.put, List.setIfInBounds_toArray, List.set_cons_zero, List.set_cons_succ])
 go_cut [12] (fun v12 wc => ∃ (kq : Nat) (x12_2 : Bool), v12 = .bool x12_2 ∧ Aside0 (spec_RangeJoin.j0 kq x12_2 a0_0 a0_1 a1_0 a1_1 = some (r1, r2)) ∧ Aside0 (kq ≤ k) ∧ Bx2 wc gb111 a0_0 a0_1 24 ∧ Bx2 wc gb112 a1_0 a1_1 24 ∧ Bx2 wc gb113 0 0 24 ∧ Aside0 (Below w.heap.size w wc))
 case first =>
  have H := HC3.out
  clear HC3
  obtain ⟨t114, A7, H⟩ := bd H
  try dsimp only at H
  by_cases c8 : t114 = true
  rotate_left
  ·replace c8 := Bool.eq_false_iff.mpr c8
   subst c8
   rw [if_neg ff] at H
   have H' := am H
   clear H
   obtain ⟨hnb17,hnc17⟩ := nn NB111_112
   obtain ⟨hnb18,hnc18⟩ := nn NB111_113
   obtain ⟨hcz19_0,hcz19_1,hfz19_0,hfz19_1⟩ := cB2 BK111
   go_wp2_with (first | ((with_reducible refine gate_callee (f := 24) rfl ?_); refine gL 6 Try.func24 (spec_RangeOk.calls _ _ _ _ A7.out) fun w20 hb => ?_; obtain ⟨BK111, BK112, BK113, HB⟩ := bk3 BK111 BK112 BK113 HB hb; (try clear hb)))
   go_meet
   case rel => exact ⟨_, (true), ey, H', le0, ⟨Z BK111⟩, ⟨Z BK112⟩, ⟨Z BK113⟩, ⟨YA HB⟩⟩
  subst c8
  rw [if_pos rfl] at H
  obtain ⟨t115, A9, H⟩ := bd H
  try dsimp only at H
  have H' := am H
  clear H
  obtain ⟨hnb10,hnc10⟩ := nn NB111_112
  obtain ⟨hnb11,hnc11⟩ := nn NB111_113
  obtain ⟨hcz12_0,hcz12_1,hfz12_0,hfz12_1⟩ := cB2 BK111
  go_wp2_with (first | ((with_reducible refine gate_callee (f := 24) rfl ?_); refine gL 6 Try.func24 (spec_RangeOk.calls _ _ _ _ A7.out) fun w13 hb => ?_; obtain ⟨BK111, BK112, BK113, HB⟩ := bk3 BK111 BK112 BK113 HB hb; (try clear hb); obtain ⟨hnb14,hnc14⟩ := nn NB112_113; obtain ⟨hcz15_0,hcz15_1,hfz15_0,hfz15_1⟩ := cB2 BK112) | (go_at_call 24; (with_reducible refine (spec_RangeOk.calls _ _ _ _ A9.out).mono ?_); rintro e w16 ⟨rfl, hb⟩; obtain ⟨BK111, BK112, BK113, HB⟩ := bk3 BK111 BK112 BK113 HB hb; (try clear hb)))
  go_meet
  case rel => exact ⟨_, (!t115), ey, H', le0, ⟨Z BK111⟩, ⟨Z BK112⟩, ⟨Z BK113⟩, ⟨YA HB⟩⟩
 case rest =>
  clear HC3
  obtain ⟨kq, x12_2, rfl, HA, HJ2, BK111, BK112, BK113, HB⟩ := hcut
  cases kq with
  | zero => exact absurd HA.out (by simp [spec_RangeJoin.j0])
  | succ kj2 =>
   have H := HA.out
   clear HA
   simp only [spec_RangeJoin.j0] at H
   by_cases c21 : x12_2 = true
   ·subst c21
    rw [if_pos rfl] at H
    obtain ⟨⟨t116, t117⟩, A22, H⟩ := bd H
    try dsimp only at H
    simp only [Option.some.injEq, Prod.mk.injEq] at H
    obtain ⟨rfl, rfl⟩ := H
    go_wp2_with (first | ((with_reducible refine gate_callee (f := 38) rfl ?_); refine gL 13 Try.func38 (spec_l8None.calls _ _ _ A22.out) fun w23 hb => ?_; obtain ⟨BK111, BK112, BK113, HB⟩ := bk3 BK111 BK112 BK113 HB hb; (try clear hb); obtain ⟨hnb24,hnc24⟩ := nn NB113_111; obtain ⟨hnb25,hnc25⟩ := nn NB113_112; obtain ⟨hcz26_0,hcz26_1,hfz26_0,hfz26_1⟩ := cB2 BK113))
    refine bodyPost_ret (results_cell_row rfl _ _ gb113 24 #[.int .i64 t116, .int .i64 t117] (0, 0) _ rfl (by refine pf ?_; refine blk_put (cs := #[.int .i64 t116, .int .i64 0]) ?_ 1 _ rfl; refine pf ?_; refine blk_put (cs := #[.int .i64 0, .int .i64 0]) ?_ 0 _ rfl; exact Z BK113) Try.underlying24 rfl (by kernel_rfl)) rfl ?_
    exact ⟨ez, YA HB⟩
   replace c21 := Bool.eq_false_iff.mpr c21
   subst c21
   rw [if_neg ff] at H
   obtain ⟨⟨t118, t119⟩, A27, H⟩ := bd H
   try dsimp only at H
   by_cases c28 : (a0_0 == t118 && (a0_1 == t119)) = true
   ·rw [if_pos c28] at H
    have c28b0 : (a0_0 == t118 && (a0_1 == t119)) = true := c28
    (try (have c28b1 : decide (a0_0 = t118 && (a0_1 == t119)) = true := by simpa using c28))
    (try (have c28b2 : (a0_0 == t118 && (a0_1 == t119)) = true := by simpa using c28))
    clear c28
    simp only [Option.some.injEq, Prod.mk.injEq] at H
    obtain ⟨rfl, rfl⟩ := H
    try go_wp2
    obtain ⟨BK111, BK112, BK113, HB⟩ := dk3 BK111 BK112 BK113 HB
    refine start_ (n := 3) (S := fun w' => w'.cell? ⟨gb111, 0, none⟩ = some (.int .i64 a0_0) ∧ w'.cell? ⟨gb111, 1, none⟩ = some (.int .i64 a0_1)) (ds := []) (lb 3 0) (by kernel_rfl) rfl rfl ⟨bc BK111 0, bc BK111 1⟩ (fun hHeld => ?_)
    generalize wc.drew = w29 at BK111 BK112 BK113 HB hHeld ⊢
    refine take_ (i := 0) (N := some 14) (v := ?_) (a' := ?_) (lb 3 1) rfl rfl (by kernel_rfl) (fun _ _ _ h => h) (Or.inl ⟨by rfl, ?_⟩) hHeld ?_ ?_
    rotate_left
    ·rintro w' ⟨s0, s1⟩
     go_simp
     with_reducible rfl
    rotate_left
    ·exact pz
    refine one_ (i := 1) (N := some 15) (lb 3 3) rfl rfl (by kernel_rfl) (by decide) (fun K hK => ?_)
    refine gq Try.func38 (spec_l8None.calls _ _ _ A27.out) fun w30 hb => ?_
    obtain ⟨BK111, BK112, BK113, HB⟩ := bk3 BK111 BK112 BK113 HB hb
    clear hb
    refine kk hK ⟨bc BK111 0, bc BK111 1⟩ fun hHeld => ?_
    clear hK K
    refine pure_ (i := 2) (N := some 16) (v := ?_) (a' := ?_) (lb 3 7) rfl rfl (by kernel_rfl) (fun _ _ _ h => h) (Or.inl ⟨by rfl, ?_⟩) ?_ ?_
    rotate_left
    ·exact gz
    rotate_left
    ·exact pz
    refine done_ (by kernel_rfl) ?_
    obtain ⟨hnb31,hnc31⟩ := nn NB112_111
    obtain ⟨hnb32,hnc32⟩ := nn NB112_113
    obtain ⟨hcz33_0,hcz33_1,hfz33_0,hfz33_1⟩ := cB2 BK112
    obtain ⟨hnb34,hnc34⟩ := nn NB113_111
    obtain ⟨hcz35_0,hcz35_1,hfz35_0,hfz35_1⟩ := cB2 BK113
    try go_wp2
    refine bodyPost_ret (results_cell_row rfl _ _ gb113 24 #[.int .i64 a1_0, .int .i64 a1_1] (0, 0) _ rfl (by refine pf ?_; refine blk_put (cs := #[.int .i64 a1_0, .int .i64 0]) ?_ 1 _ rfl; refine pf ?_; refine blk_put (cs := #[.int .i64 0, .int .i64 0]) ?_ 0 _ rfl; exact Z BK113) Try.underlying24 rfl (by kernel_rfl)) rfl ?_
    exact ⟨ez, YA HB⟩
   rw [if_neg c28] at H
   have c28b0 : (a0_0 == t118 && (a0_1 == t119)) = false := by simpa using c28
   (try (have c28b1 : decide (a0_0 = t118 && (a0_1 == t119)) = false := by simpa using c28))
   (try (have c28b2 : (a0_0 == t118 && (a0_1 == t119)) = false := by simpa using c28))
   (try (have c28b3 : ¬ (a0_0 = t118 && (a0_1 == t119)) := by simpa using c28))
   clear c28
   obtain ⟨⟨t120, t121⟩, A36, H⟩ := bd H
   try dsimp only at H
   by_cases c37 : (a1_0 == t120 && (a1_1 == t121)) = true
   ·rw [if_pos c37] at H
    have c37b0 : (a1_0 == t120 && (a1_1 == t121)) = true := c37
    (try (have c37b1 : decide (a1_0 = t120 && (a1_1 == t121)) = true := by simpa using c37))
    (try (have c37b2 : (a1_0 == t120 && (a1_1 == t121)) = true := by simpa using c37))
    clear c37
    simp only [Option.some.injEq, Prod.mk.injEq] at H
    obtain ⟨rfl, rfl⟩ := H
    try go_wp2
    obtain ⟨BK111, BK112, BK113, HB⟩ := dk3 BK111 BK112 BK113 HB
    refine start_ (n := 3) (S := fun w' => w'.cell? ⟨gb111, 0, none⟩ = some (.int .i64 a0_0) ∧ w'.cell? ⟨gb111, 1, none⟩ = some (.int .i64 a0_1)) (ds := []) (lb 3 0) (by kernel_rfl) rfl rfl ⟨bc BK111 0, bc BK111 1⟩ (fun hHeld => ?_)
    generalize wc.drew = w38 at BK111 BK112 BK113 HB hHeld ⊢
    refine take_ (i := 0) (N := some 14) (v := ?_) (a' := ?_) (lb 3 1) rfl rfl (by kernel_rfl) (fun _ _ _ h => h) (Or.inl ⟨by rfl, ?_⟩) hHeld ?_ ?_
    rotate_left
    ·rintro w' ⟨s0, s1⟩
     go_simp
     with_reducible rfl
    rotate_left
    ·exact pz
    refine one_ (i := 1) (N := some 15) (lb 3 3) rfl rfl (by kernel_rfl) (by decide) (fun K hK => ?_)
    refine gq Try.func38 (spec_l8None.calls _ _ _ A27.out) fun w39 hb => ?_
    obtain ⟨BK111, BK112, BK113, HB⟩ := bk3 BK111 BK112 BK113 HB hb
    clear hb
    refine kk hK ⟨bc BK111 0, bc BK111 1⟩ fun hHeld => ?_
    clear hK K
    refine pure_ (i := 2) (N := some 16) (v := ?_) (a' := ?_) (lb 3 7) rfl rfl (by kernel_rfl) (fun _ _ _ h => h) (Or.inl ⟨by rfl, ?_⟩) ?_ ?_
    rotate_left
    ·exact gz
    rotate_left
    ·exact pz
    refine done_ (by kernel_rfl) ?_
    try go_wp2
    obtain ⟨BK111, BK112, BK113, HB⟩ := dk3 BK111 BK112 BK113 HB
    refine start_ (n := 3) (S := fun w' => w'.cell? ⟨gb112, 0, none⟩ = some (.int .i64 a1_0) ∧ w'.cell? ⟨gb112, 1, none⟩ = some (.int .i64 a1_1)) (ds := []) (lb 3 0) (by kernel_rfl) rfl rfl ⟨bc BK112 0, bc BK112 1⟩ (fun hHeld => ?_)
    generalize w39.drew = w40 at BK111 BK112 BK113 HB hHeld ⊢
    refine take_ (i := 0) (N := some 18) (v := ?_) (a' := ?_) (lb 3 1) rfl rfl (by kernel_rfl) (fun _ _ _ h => h) (Or.inl ⟨by rfl, ?_⟩) hHeld ?_ ?_
    rotate_left
    ·rintro w' ⟨s0, s1⟩
     go_simp
     with_reducible rfl
    rotate_left
    ·exact pz
    refine one_ (i := 1) (N := some 19) (lb 3 3) rfl rfl (by kernel_rfl) (by decide) (fun K hK => ?_)
    refine gq Try.func38 (spec_l8None.calls _ _ _ A36.out) fun w41 hb => ?_
    obtain ⟨BK111, BK112, BK113, HB⟩ := bk3 BK111 BK112 BK113 HB hb
    clear hb
    refine kk hK ⟨bc BK112 0, bc BK112 1⟩ fun hHeld => ?_
    clear hK K
    refine pure_ (i := 2) (N := some 20) (v := ?_) (a' := ?_) (lb 3 7) rfl rfl (by kernel_rfl) (fun _ _ _ h => h) (Or.inl ⟨by rfl, ?_⟩) ?_ ?_
    rotate_left
    ·exact gz
    rotate_left
    ·exact pz
    refine done_ (by kernel_rfl) ?_
    obtain ⟨hnb42,hnc42⟩ := nn NB111_112
    obtain ⟨hnb43,hnc43⟩ := nn NB111_113
    obtain ⟨hcz44_0,hcz44_1,hfz44_0,hfz44_1⟩ := cB2 BK111
    obtain ⟨hnb45,hnc45⟩ := nn NB113_112
    obtain ⟨hcz46_0,hcz46_1,hfz46_0,hfz46_1⟩ := cB2 BK113
    try go_wp2
    refine bodyPost_ret (results_cell_row rfl _ _ gb113 24 #[.int .i64 a0_0, .int .i64 a0_1] (0, 0) _ rfl (by refine pf ?_; refine blk_put (cs := #[.int .i64 a0_0, .int .i64 0]) ?_ 1 _ rfl; refine pf ?_; refine blk_put (cs := #[.int .i64 0, .int .i64 0]) ?_ 0 _ rfl; exact Z BK113) Try.underlying24 rfl (by kernel_rfl)) rfl ?_
    exact ⟨ez, YA HB⟩
   rw [if_neg c37] at H
   have c37b0 : (a1_0 == t120 && (a1_1 == t121)) = false := by simpa using c37
   (try (have c37b1 : decide (a1_0 = t120 && (a1_1 == t121)) = false := by simpa using c37))
   (try (have c37b2 : (a1_0 == t120 && (a1_1 == t121)) = false := by simpa using c37))
   (try (have c37b3 : ¬ (a1_0 = t120 && (a1_1 == t121)) := by simpa using c37))
   clear c37
   obtain ⟨t122, A47, H⟩ := bd H
   try dsimp only at H
   obtain ⟨t123, A48, H⟩ := bd H
   try dsimp only at H
   simp only [Option.some.injEq, Prod.mk.injEq] at H
   obtain ⟨rfl, rfl⟩ := H
   try go_wp2
   obtain ⟨BK111, BK112, BK113, HB⟩ := dk3 BK111 BK112 BK113 HB
   refine start_ (n := 3) (S := fun w' => w'.cell? ⟨gb111, 0, none⟩ = some (.int .i64 a0_0) ∧ w'.cell? ⟨gb111, 1, none⟩ = some (.int .i64 a0_1)) (ds := []) (lb 3 0) (by kernel_rfl) rfl rfl ⟨bc BK111 0, bc BK111 1⟩ (fun hHeld => ?_)
   generalize wc.drew = w49 at BK111 BK112 BK113 HB hHeld ⊢
   refine take_ (i := 0) (N := some 14) (v := ?_) (a' := ?_) (lb 3 1) rfl rfl (by kernel_rfl) (fun _ _ _ h => h) (Or.inl ⟨by rfl, ?_⟩) hHeld ?_ ?_
   rotate_left
   ·rintro w' ⟨s0, s1⟩
    go_simp
    with_reducible rfl
   rotate_left
   ·exact pz
   refine one_ (i := 1) (N := some 15) (lb 3 3) rfl rfl (by kernel_rfl) (by decide) (fun K hK => ?_)
   refine gq Try.func38 (spec_l8None.calls _ _ _ A27.out) fun w50 hb => ?_
   obtain ⟨BK111, BK112, BK113, HB⟩ := bk3 BK111 BK112 BK113 HB hb
   clear hb
   refine kk hK ⟨bc BK111 0, bc BK111 1⟩ fun hHeld => ?_
   clear hK K
   refine pure_ (i := 2) (N := some 16) (v := ?_) (a' := ?_) (lb 3 7) rfl rfl (by kernel_rfl) (fun _ _ _ h => h) (Or.inl ⟨by rfl, ?_⟩) ?_ ?_
   rotate_left
   ·exact gz
   rotate_left
   ·exact pz
   refine done_ (by kernel_rfl) ?_
   try go_wp2
   obtain ⟨BK111, BK112, BK113, HB⟩ := dk3 BK111 BK112 BK113 HB
   refine start_ (n := 3) (S := fun w' => w'.cell? ⟨gb112, 0, none⟩ = some (.int .i64 a1_0) ∧ w'.cell? ⟨gb112, 1, none⟩ = some (.int .i64 a1_1)) (ds := []) (lb 3 0) (by kernel_rfl) rfl rfl ⟨bc BK112 0, bc BK112 1⟩ (fun hHeld => ?_)
   generalize w50.drew = w51 at BK111 BK112 BK113 HB hHeld ⊢
   refine take_ (i := 0) (N := some 18) (v := ?_) (a' := ?_) (lb 3 1) rfl rfl (by kernel_rfl) (fun _ _ _ h => h) (Or.inl ⟨by rfl, ?_⟩) hHeld ?_ ?_
   rotate_left
   ·rintro w' ⟨s0, s1⟩
    go_simp
    with_reducible rfl
   rotate_left
   ·exact pz
   refine one_ (i := 1) (N := some 19) (lb 3 3) rfl rfl (by kernel_rfl) (by decide) (fun K hK => ?_)
   refine gq Try.func38 (spec_l8None.calls _ _ _ A36.out) fun w52 hb => ?_
   obtain ⟨BK111, BK112, BK113, HB⟩ := bk3 BK111 BK112 BK113 HB hb
   clear hb
   refine kk hK ⟨bc BK112 0, bc BK112 1⟩ fun hHeld => ?_
   clear hK K
   refine pure_ (i := 2) (N := some 20) (v := ?_) (a' := ?_) (lb 3 7) rfl rfl (by kernel_rfl) (fun _ _ _ h => h) (Or.inl ⟨by rfl, ?_⟩) ?_ ?_
   rotate_left
   ·exact gz
   rotate_left
   ·exact pz
   refine done_ (by kernel_rfl) ?_
   try go_wp2
   obtain ⟨BK111, BK112, BK113, HB⟩ := dk3 BK111 BK112 BK113 HB
   refine start_ (n := 12) (S := fun w' => w'.cell? ⟨gb111, 0, none⟩ = some (.int .i64 a0_0) ∧ w'.cell? ⟨gb111, 1, none⟩ = some (.int .i64 a0_1) ∧ w'.cell? ⟨gb112, 0, none⟩ = some (.int .i64 a1_0) ∧ w'.cell? ⟨gb112, 1, none⟩ = some (.int .i64 a1_1)) (ds := []) (lb 12 0) (by kernel_rfl) rfl rfl ⟨bc BK111 0, bc BK111 1, bc BK112 0, bc BK112 1⟩ (fun hHeld => ?_); refine with_tabW spec_RangeJoin.tab7 spec_RangeJoin.bits7 (fun HT_ HW_ => ?_)
   generalize w52.drew = w53 at BK111 BK112 BK113 HB hHeld ⊢
   refine pk 0 22 1 ?_
   refine pk 2 24 5 ?_
   refine pk 5 27 37 ?_
   refine pk 7 29 165 ?_
   refine tk 1 23 167 hHeld ?_
   refine tk 3 25 175 hHeld ?_
   refine tk 6 28 239 hHeld ?_
   refine tk 8 30 495 hHeld ?_
   refine on 4 (some 26) 511 fun K hK => ?_
   refine goes_ Try.func68 (by kernel_rfl) rfl #[.int .i64 a0_0, .int .i64 a1_0] (by rfl) rfl rfl mz ?_
   with_reducible refine (spec_l8Min.calls _ _ _ _ A47.out).mono ?_
   rintro e w' ⟨rfl, ⟨nd, rfl⟩⟩
   refine ⟨_, rfl, ?_⟩
   refine kk hK ⟨bc BK111 0, bc BK111 1, bc BK112 0, bc BK112 1⟩ fun hHeld => ?_
   clear hK K
   refine on 9 (some 31) 1023 fun K hK => ?_
   refine goes_ Try.func69 (by kernel_rfl) rfl #[.int .i64 a0_1, .int .i64 a1_1] (by rfl) rfl rfl mz ?_
   with_reducible refine (spec_l8Max.calls _ _ _ _ A48.out).mono ?_
   rintro e w' ⟨rfl, ⟨nd, rfl⟩⟩
   refine ⟨_, rfl, ?_⟩
   refine kk hK ⟨bc BK111 0, bc BK111 1, bc BK112 0, bc BK112 1⟩ fun hHeld => ?_
   clear hK K
   refine pk 10 32 2047 ?_
   refine on 11 none 4095 fun K hK => ?_
   have hs54 : w53.cell? ⟨gb113, 0, none⟩ = some (.int .i64 0) := bc BK113 0
   have hfs54 := blk_frozen BK113.out 0
   have hns54_0 := NB111_113.out
   have hns54_1 := NB112_113.out
   have hms54_0 := NB113_111.out
   have hms54_1 := NB113_112.out
   have hs55 : w53.cell? ⟨gb113, 1, none⟩ = some (.int .i64 0) := bc BK113 1
   have hfs55 := blk_frozen BK113.out 1
   have hns55_0 := NB111_113.out
   have hns55_1 := NB112_113.out
   have hms55_0 := NB113_111.out
   have hms55_1 := NB113_112.out
   refine skip_ (w1 := ?_) (by rfl) rfl ?_ ?_
   rotate_left
   ·go_simp
    rfl
   refine hK.out _ _ ⟨((cell_far (p := ⟨gb113, _, none⟩) NB111_113.out _).trans (((cell_far (p := ⟨gb113, _, none⟩) NB111_113.out _).trans (hHeld.1)))), ((cell_far (p := ⟨gb113, _, none⟩) NB111_113.out _).trans (((cell_far (p := ⟨gb113, _, none⟩) NB111_113.out _).trans (hHeld.2.1)))), ((cell_far (p := ⟨gb113, _, none⟩) NB112_113.out _).trans (((cell_far (p := ⟨gb113, _, none⟩) NB112_113.out _).trans (hHeld.2.2.1)))), ((cell_far (p := ⟨gb113, _, none⟩) NB112_113.out _).trans (((cell_far (p := ⟨gb113, _, none⟩) NB112_113.out _).trans (hHeld.2.2.2))))⟩ (fun hHeld => ?_)
   clear hK K
   refine done_ (done_of HT_.out (by kernel_rfl)) ?_
   try go_wp2
   refine bodyPost_ret (results_cell_row rfl _ _ gb113 24 #[.int .i64 t122, .int .i64 t123] (0, 0) _ rfl (by refine pf ?_; refine blk_put (cs := #[.int .i64 t122, .int .i64 0]) ?_ 1 _ rfl; refine pf ?_; refine blk_put (cs := #[.int .i64 0, .int .i64 0]) ?_ 0 _ rfl; exact Z BK113) Try.underlying24 rfl (by kernel_rfl)) rfl ?_
   exact ⟨ez, YA HB⟩

/-! ### spec_l8Cut: function 44 -/
attribute [local go_sem] Go.Proofs.YthbkakcchgnhpaaSet.isSome_setCell
def spec_l8Cut.f (a0 : Int) (a1 : Int) : Option (Int × Int) := (spec_l8Max.f a0 (-2147483648)).bind fun t125 => ((spec_l8Min.f a1 2147483647).bind fun t126 => (if t125 > t126 then ((spec_l8None.f).bind fun bt127 => (some (bt127.1, bt127.2))) else (some (t125, t126))))
set_option maxHeartbeats 8000000 in
set_option maxRecDepth 100000 in
theorem spec_l8Cut.calls (a0 : Int) (a1 : Int) (r1 : Int) (r2 : Int) (w : World) (h : spec_l8Cut.f a0 a1 = some (r1, r2)) :
  Calls Try.prog 44 #[.int .i64 a0, .int .i64 a1] w fun e w' => e = .returned (.agg #[.int .i64 r1, .int .i64 r2]) ∧ Below w.heap.size w w' := by
 have hu24 := Try.underlying24
 have HB := am (Below.refl w.heap.size w)
 have H : ((spec_l8Max.f a0 (-2147483648)).bind fun t125 => ((spec_l8Min.f a1 2147483647).bind fun t126 => (if t125 > t126 then ((spec_l8None.f).bind fun bt127 => (some (bt127.1, bt127.2))) else (some (t125, t126))))) = some (r1, r2) := h
 clear h
 obtain ⟨t125, A3, H⟩ := bd H
 try dsimp only at H
 obtain ⟨t126, A4, H⟩ := bd H
 try dsimp only at H
 by_cases c5 : t125 > t126
 rotate_left
 ·rw [if_neg c5] at H
  have c5b0 := dF c5
  clear c5
  simp only [Option.some.injEq, Prod.mk.injEq] at H
  obtain ⟨rfl, rfl⟩ := H
  go_enter Try.func44, Try.ntmps44
  go_wp2_with (first | ((with_reducible refine gate_dst (N := 4) rfl ?_); refine bx 4 #[.int .i64 0, .int .i64 0] 24 ?_; intro gb124 hg w10 hbox hb; have BK124 := am (hbox); have GW124 := am (bs hg (YA HB)); have GE124 := GW124; replace HB := am (below_step (YA HB) hb); clear hb hbox hg) | ((with_reducible refine gate_callee (f := 69) rfl ?_); refine goesL_ (some 8) rfl rfl Try.func69 (by kernel_rfl) rfl #[.int .i64 a0, .int .i64 (-2147483648)] rfl mz ?_; (with_reducible refine (spec_l8Max.calls _ _ _ _ A3.out).mono ?_); rintro e w' ⟨rfl, ⟨nd, rfl⟩⟩; refine ⟨_, rfl, ?_⟩; (try (rw [drewN_self w10]; generalize hq_ : World.drewN w10 _ = w10; replace BK124 : Bx2 w10 gb124 0 0 24 := ⟨by rw [← hq_]; exact (Z BK124)⟩; replace HB : Aside0 (Below w.heap.size w w10) := ⟨by rw [← hq_]; exact (YA HB)⟩; clear hq_))) | ((with_reducible refine gate_callee (f := 68) rfl ?_); refine goesL_ (some 10) rfl rfl Try.func68 (by kernel_rfl) rfl #[.int .i64 a1, .int .i64 2147483647] rfl mz ?_; (with_reducible refine (spec_l8Min.calls _ _ _ _ A4.out).mono ?_); rintro e w' ⟨rfl, ⟨nd, rfl⟩⟩; refine ⟨_, rfl, ?_⟩; (try (rw [drewN_self w10]; generalize hq_ : World.drewN w10 _ = w10; replace BK124 : Bx2 w10 gb124 0 0 24 := ⟨by rw [← hq_]; exact (Z BK124)⟩; replace HB : Aside0 (Below w.heap.size w w10) := ⟨by rw [← hq_]; exact (YA HB)⟩; clear hq_)); obtain ⟨hcz11_0,hcz11_1,hfz11_0,hfz11_1⟩ := cB2 BK124))
  refine bodyPost_ret (results_cell_row rfl _ _ gb124 24 #[.int .i64 t125, .int .i64 t126] (0, 0) _ rfl (by refine pf ?_; refine blk_put (cs := #[.int .i64 t125, .int .i64 0]) ?_ 1 _ rfl; refine pf ?_; refine blk_put (cs := #[.int .i64 0, .int .i64 0]) ?_ 0 _ rfl; exact Z BK124) Try.underlying24 rfl (by kernel_rfl)) rfl ?_
  exact ⟨ez, YA HB⟩
 rw [if_pos c5] at H
 have c5b0 := dT c5
 clear c5
 obtain ⟨⟨t127, t128⟩, A6, H⟩ := bd H
 try dsimp only at H
 simp only [Option.some.injEq, Prod.mk.injEq] at H
 obtain ⟨rfl, rfl⟩ := H
 go_enter Try.func44, Try.ntmps44
 go_wp2_with (first | ((with_reducible refine gate_dst (N := 4) rfl ?_); refine bx 4 #[.int .i64 0, .int .i64 0] 24 ?_; intro gb124 hg w7 hbox hb; have BK124 := am (hbox); have GW124 := am (bs hg (YA HB)); have GE124 := GW124; replace HB := am (below_step (YA HB) hb); clear hb hbox hg) | ((with_reducible refine gate_callee (f := 69) rfl ?_); refine goesL_ (some 8) rfl rfl Try.func69 (by kernel_rfl) rfl #[.int .i64 a0, .int .i64 (-2147483648)] rfl mz ?_; (with_reducible refine (spec_l8Max.calls _ _ _ _ A3.out).mono ?_); rintro e w' ⟨rfl, ⟨nd, rfl⟩⟩; refine ⟨_, rfl, ?_⟩; (try (rw [drewN_self w7]; generalize hq_ : World.drewN w7 _ = w7; replace BK124 : Bx2 w7 gb124 0 0 24 := ⟨by rw [← hq_]; exact (Z BK124)⟩; replace HB : Aside0 (Below w.heap.size w w7) := ⟨by rw [← hq_]; exact (YA HB)⟩; clear hq_))) | ((with_reducible refine gate_callee (f := 68) rfl ?_); refine goesL_ (some 10) rfl rfl Try.func68 (by kernel_rfl) rfl #[.int .i64 a1, .int .i64 2147483647] rfl mz ?_; (with_reducible refine (spec_l8Min.calls _ _ _ _ A4.out).mono ?_); rintro e w' ⟨rfl, ⟨nd, rfl⟩⟩; refine ⟨_, rfl, ?_⟩; (try (rw [drewN_self w7]; generalize hq_ : World.drewN w7 _ = w7; replace BK124 : Bx2 w7 gb124 0 0 24 := ⟨by rw [← hq_]; exact (Z BK124)⟩; replace HB : Aside0 (Below w.heap.size w w7) := ⟨by rw [← hq_]; exact (YA HB)⟩; clear hq_))) | ((with_reducible refine gate_callee (f := 38) rfl ?_); refine gL 14 Try.func38 (spec_l8None.calls _ _ _ A6.out) fun w8 hb => ?_; obtain ⟨BK124, HB⟩ := bk1 BK124 HB hb; (try clear hb); obtain ⟨hcz9_0,hcz9_1,hfz9_0,hfz9_1⟩ := cB2 BK124))
 refine bodyPost_ret (results_cell_row rfl _ _ gb124 24 #[.int .i64 t127, .int .i64 t128] (0, 0) _ rfl (by refine pf ?_; refine blk_put (cs := #[.int .i64 t127, .int .i64 0]) ?_ 1 _ rfl; refine pf ?_; refine blk_put (cs := #[.int .i64 0, .int .i64 0]) ?_ 0 _ rfl; exact Z BK124) Try.underlying24 rfl (by kernel_rfl)) rfl ?_
 exact ⟨ez, YA HB⟩

end Go.Proofs.Ythbkakcchgnhpaa.PFnRangeFaults
