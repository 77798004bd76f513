/- Written by this session's own driver (wip/dprint.py): the functions that the law FnRangeMore reaches, as Lean functions, each with its contract. -/
import Derived.Test.YthbkakcchgnhpaaPFnRangeMorex0
import Derived.Test.YthbkakcchgnhpaaPFnRangeMorex1
import Derived.Test.YthbkakcchgnhpaaPFnRangeMorex2
import Derived.Test.YthbkakcchgnhpaaSv
namespace Go.Proofs.Ythbkakcchgnhpaa.PFnRangeMore
open Go.RowKit Go.Proofs.YthbkakcchgnhpaaV.PrintWords Go.Proofs.YthbkakcchgnhpaaV.PrintLast Go.Proofs.YthbkakcchgnhpaaV.PrintMore Go.Proofs.YthbkakcchgnhpaaSv
attribute [local go_sem] max2_int min2_int max_two min_two max_three min_three max_four min_four   -- for this text's walks alone
set_option linter.unusedVariables false
set_option linter.unusedSimpArgs false

attribute [local go_sem high] eqA24
/-! ### spec_l8Min: function 68 -/
attribute [local go_sem] Go.Proofs.YthbkakcchgnhpaaSet.isSome_setCell
def spec_l8Min.f (a0 : Int) (a1 : Int) : Option (Int) := if a0 < a1 then (some a0) else (some a1)
set_option maxHeartbeats 8000000 in
set_option maxRecDepth 100000 in
theorem spec_l8Min.calls (a0 : Int) (a1 : Int) (r : Int) (w : World) (h : spec_l8Min.f a0 a1 = some r) :
  Calls Try.prog 68 #[.int .i64 a0, .int .i64 a1] w fun e w' => e = .returned (.int .i64 r) ∧ Drawn0 w w' := by
 have H : (if a0 < a1 then (some a0) else (some a1)) = some r := h
 clear h
 by_cases c1 : a0 < a1
 ·rw [if_pos c1] at H
  have d1 := dT c1
  clear c1
  obtain rfl := Option.some.inj H
  go_enter Try.func68, Try.ntmps68
  go_wp2
  go_ret
  exact ⟨by first | rfl | (simp; done) | (simp [*]; done), by repeat (first | exact Drawn0.refl _ | apply Drawn0.step)⟩
 rw [if_neg c1] at H
 have d1 := dF c1
 clear c1
 obtain rfl := Option.some.inj H
 go_enter Try.func68, Try.ntmps68
 go_wp2
 go_ret
 exact ⟨by first | rfl | (simp; done) | (simp [*]; done), by repeat (first | exact Drawn0.refl _ | apply Drawn0.step)⟩

/-! ### spec_l8Max: function 69 -/
attribute [local go_sem] Go.Proofs.YthbkakcchgnhpaaSet.isSome_setCell
def spec_l8Max.f (a0 : Int) (a1 : Int) : Option (Int) := if a0 > a1 then (some a0) else (some a1)
set_option maxHeartbeats 8000000 in
set_option maxRecDepth 100000 in
theorem spec_l8Max.calls (a0 : Int) (a1 : Int) (r : Int) (w : World) (h : spec_l8Max.f a0 a1 = some r) :
  Calls Try.prog 69 #[.int .i64 a0, .int .i64 a1] w fun e w' => e = .returned (.int .i64 r) ∧ Drawn0 w w' := by
 have H : (if a0 > a1 then (some a0) else (some a1)) = some r := h
 clear h
 by_cases c1 : a0 > a1
 ·rw [if_pos c1] at H
  have d1 := dT c1
  clear c1
  obtain rfl := Option.some.inj H
  go_enter Try.func69, Try.ntmps69
  go_wp2
  go_ret
  exact ⟨by first | rfl | (simp; done) | (simp [*]; done), by repeat (first | exact Drawn0.refl _ | apply Drawn0.step)⟩
 rw [if_neg c1] at H
 have d1 := dF c1
 clear c1
 obtain rfl := Option.some.inj H
 go_enter Try.func69, Try.ntmps69
 go_wp2
 go_ret
 exact ⟨by first | rfl | (simp; done) | (simp [*]; done), by repeat (first | exact Drawn0.refl _ | apply Drawn0.step)⟩

/-! ### spec_RangeJoin: function 25 -/
attribute [local go_sem] Go.Proofs.YthbkakcchgnhpaaSet.isSome_setCell
def spec_RangeJoin.j0 : Nat → Bool → Int → Int → Int → Int → Option (Int × Int)
 | 0, _, _, _, _, _ => none
 | k + 1, x1, x2, x3, x4, x5 => if x1 = true then ((spec_l8None.f).bind fun u1 => (some (u1.1, u1.2))) else ((spec_l8None.f).bind fun u2 => (if (x2 == u2.1 && (x3 == u2.2)) = true then (some (x4, x5)) else ((spec_l8None.f).bind fun u3 => (if (x4 == u3.1 && (x5 == u3.2)) = true then (some (x2, x3)) else ((spec_l8Min.f x2 x4).bind fun t1 => ((spec_l8Max.f x3 x5).bind fun t2 => (some (t1, t2))))))))
def spec_RangeJoin.f (k : Nat) (a0_0 : Int) (a0_1 : Int) (a1_0 : Int) (a1_1 : Int) : Option (Int × Int) := (spec_RangeOk.f a0_0 a0_1).bind fun t1 => (if t1 = true then ((spec_RangeOk.f a1_0 a1_1).bind fun t2 => (spec_RangeJoin.j0 k (!t2) a0_0 a0_1 a1_0 a1_1)) else (spec_RangeJoin.j0 k true a0_0 a0_1 a1_0 a1_1))
theorem spec_RangeJoin.mono_l : ∀ k, (∀ y0 y1 y2 y3 y4, LeO (spec_RangeJoin.j0 k y0 y1 y2 y3 y4) (spec_RangeJoin.j0 (k + 1) y0 y1 y2 y3 y4))
 | 0 => fun _ _ _ _ _ r h => by simp [spec_RangeJoin.j0] at h
 | k + 1 => by
  have ih0 := spec_RangeJoin.mono_l k
  ·intro y0 y1 y2 y3 y4
   unfold spec_RangeJoin.j0
   repeat' first | (with_reducible first | apply ih0 | apply LeO.refl | apply LeO.none | refine LeO.ite ?_ ?_ | refine LeO.bind ?_ (fun _ => ?_)) | apply ih0 | apply LeO.none | refine LeO.ite ?_ ?_ | refine LeO.bind ?_ (fun _ => ?_)
theorem spec_RangeJoin.mono : ∀ a0 a1 a2 a3 k, LeO (spec_RangeJoin.f k a0 a1 a2 a3) (spec_RangeJoin.f (k + 1) a0 a1 a2 a3) := by
 intro a0 a1 a2 a3 k
 have ih0 := spec_RangeJoin.mono_l k
 unfold spec_RangeJoin.f
 repeat' first | (with_reducible first | apply ih0 | apply LeO.refl | apply LeO.none | refine LeO.ite ?_ ?_ | refine LeO.bind ?_ (fun _ => ?_)) | apply ih0 | apply LeO.none | refine LeO.ite ?_ ?_ | refine LeO.bind ?_ (fun _ => ?_)
def spec_RangeJoin.T7 : Bool × List (List Nat × List Nat) := (true, [([], []), ([0], [0]), ([], []), ([2], [2]), ([1, 3], [1, 3]), ([], []), ([5], [5]), ([], []), ([7], [7]), ([6, 8, 4], [6, 8]), ([4, 9], [4, 9]), ([10, 9, 0, 1, 2, 3, 4, 5, 6, 7, 8, 9, 10], [10])])
def spec_RangeJoin.B7 : List Nat := [0, 1, 0, 4, 15, 0, 32, 0, 128, 511, 1023, 2047]
theorem spec_RangeJoin.tab7 : rtab .any (opsOf Try.f25 7) = spec_RangeJoin.T7 := by kernel_rfl
theorem spec_RangeJoin.bits7 : waitsOk spec_RangeJoin.T7.2 spec_RangeJoin.B7 = true := by kernel_rfl
set_option maxHeartbeats 8000000 in
set_option maxRecDepth 100000 in
theorem spec_RangeJoin.calls (k : Nat) (a0_0 : Int) (a0_1 : Int) (a1_0 : Int) (a1_1 : Int) (r1 : Int) (r2 : Int) (w : World) (h : spec_RangeJoin.f k a0_0 a0_1 a1_0 a1_1 = some (r1, r2)) :
  Calls Try.prog 25 #[.agg #[.int .i64 a0_0, .int .i64 a0_1], .agg #[.int .i64 a1_0, .int .i64 a1_1]] w fun e w' => e = .returned (.agg #[.int .i64 r1, .int .i64 r2]) ∧ Below w.heap.size w w' := by
 have hu24 := Try.underlying24
 have HB := am (Below.refl w.heap.size w)
 have H : ((spec_RangeOk.f a0_0 a0_1).bind fun t1 => (if t1 = true then ((spec_RangeOk.f a1_0 a1_1).bind fun t2 => (spec_RangeJoin.j0 k (!t2) a0_0 a0_1 a1_0 a1_1)) else (spec_RangeJoin.j0 k true a0_0 a0_1 a1_0 a1_1))) = some (r1, r2) := h
 clear h
 have C1 := am H
 clear H
 go_enter Try.func25, Try.ntmps25
 go_upto_region 1 with (first | ((with_reducible refine gate_dst (N := 2) rfl ?_); refine bxn 2 #[.int .i64 a0_0, .int .i64 a0_1] 24 HB fun g1 w2 K1 G1 hg hb => ?_; replace HB := am (below_step (YA HB) hb); clear hb hg) | ((with_reducible refine gate_dst (N := 3) rfl ?_); refine bxn 3 #[.int .i64 a1_0, .int .i64 a1_1] 24 HB fun g2 w3 K2 G2 hg hb => ?_; obtain ⟨N1,N2⟩ := ne_ hg K1; obtain ⟨K1, HB⟩ := bk1 K1 HB hb; clear hb hg) | ((with_reducible refine gate_dst (N := 4) rfl ?_); refine bxn 4 #[.int .i64 0, .int .i64 0] 24 HB fun g3 w4 K3 G3 hg hb => ?_; obtain ⟨N3,N4⟩ := ne_ hg K1; obtain ⟨N5,N6⟩ := ne_ hg K2; obtain ⟨K1, K2, HB⟩ := bk2 K1 K2 HB hb; clear hb hg))
 (try simp only [Act.put, List.setIfInBounds_toArray, List.set_cons_zero, List.set_cons_succ])
 go_cut [12] (fun v1 wc => ∃ (kq : Nat) (x1 : Bool), v1 = .bool x1 ∧ Aside0 (spec_RangeJoin.j0 kq x1 a0_0 a0_1 a1_0 a1_1 = some (r1, r2)) ∧ Aside0 (kq ≤ k) ∧ Bx2 wc g1 a0_0 a0_1 24 ∧ Bx2 wc g2 a1_0 a1_1 24 ∧ Bx2 wc g3 0 0 24 ∧ Aside0 (Below w.heap.size w wc))
 case first =>
  have H := C1.out
  clear C1
  obtain ⟨t1, A1, H⟩ := bd H
  try dsimp only at H
  by_cases c1 : t1 = true
  rotate_left
  ·replace c1 := Bool.eq_false_iff.mpr c1
   subst c1
   rw [if_neg ff] at H
   have H' := am H
   clear H
   have z_ := ns2 N1 N3
   have z_ := cB2 K1
   go_wp2_with (first | ((with_reducible refine gate_callee (f := 24) rfl ?_); refine gL 6 Try.func24 (spec_RangeOk.calls _ _ _ _ A1.out) fun w5 hb => ?_; obtain ⟨K1, K2, K3, HB⟩ := bk3 K1 K2 K3 HB hb; (try clear hb)))
   go_meet
   case rel => exact ⟨_, (true), ey, H', le0, ⟨Z K1⟩, ⟨Z K2⟩, ⟨Z K3⟩, ⟨YA HB⟩⟩
  subst c1
  rw [if_pos rfl] at H
  obtain ⟨t2, A2, H⟩ := bd H
  try dsimp only at H
  have H' := am H
  clear H
  have z_ := ns2 N1 N3
  have z_ := cB2 K1
  go_wp2_with (first | ((with_reducible refine gate_callee (f := 24) rfl ?_); refine gL 6 Try.func24 (spec_RangeOk.calls _ _ _ _ A1.out) fun w5 hb => ?_; obtain ⟨K1, K2, K3, HB⟩ := bk3 K1 K2 K3 HB hb; (try clear hb); have z_ := ns1 N5; have z_ := cB2 K2) | (go_at_call 24; (with_reducible refine (spec_RangeOk.calls _ _ _ _ A2.out).mono ?_); rintro e w6 ⟨rfl, hb⟩; obtain ⟨K1, K2, K3, HB⟩ := bk3 K1 K2 K3 HB hb; (try clear hb)))
  go_meet
  case rel => exact ⟨_, (!t2), ey, H', le0, ⟨Z K1⟩, ⟨Z K2⟩, ⟨Z K3⟩, ⟨YA HB⟩⟩
 case rest =>
  clear C1
  obtain ⟨kq, x1, rfl, HA, J1, K1, K2, K3, HB⟩ := hcut
  cases kq with
  | zero => exact absurd HA.out (by simp [spec_RangeJoin.j0])
  | succ k1 =>
   have H := HA.out
   clear HA
   simp only [spec_RangeJoin.j0] at H
   by_cases c1 : x1 = true
   ·subst c1
    rw [if_pos rfl] at H
    obtain ⟨⟨t3, t4⟩, A1, H⟩ := bd H
    try dsimp only at H
    simp only [Option.some.injEq, Prod.mk.injEq] at H
    obtain ⟨rfl, rfl⟩ := H
    go_wp2_with (first | ((with_reducible refine gate_callee (f := 38) rfl ?_); refine gL 13 Try.func38 (spec_l8None.calls _ _ _ A1.out) fun w5 hb => ?_; obtain ⟨K1, K2, K3, HB⟩ := bk3 K1 K2 K3 HB hb; (try clear hb); have z_ := ns2 N4 N6; have z_ := cB2 K3))
    refine bodyPost_ret (results_cell_row rfl _ _ g3 24 #[.int .i64 t3, .int .i64 t4] (0, 0) _ rfl (by refine pf ?_; refine blk_put (cs := #[.int .i64 t3, .int .i64 0]) ?_ 1 _ rfl; refine pf ?_; refine blk_put (cs := #[.int .i64 0, .int .i64 0]) ?_ 0 _ rfl; exact Z K3) Try.underlying24 rfl (by kernel_rfl)) rfl ?_
    exact ⟨ez, YA HB⟩
   replace c1 := Bool.eq_false_iff.mpr c1
   subst c1
   rw [if_neg ff] at H
   obtain ⟨⟨t3, t4⟩, A1, H⟩ := bd H
   try dsimp only at H
   by_cases c2 : (a0_0 == t3 && (a0_1 == t4)) = true
   ·rw [if_pos c2] at H
    have d1 : (a0_0 == t3 && (a0_1 == t4)) = true := c2
    (try (have d2 : decide (a0_0 = t3 && (a0_1 == t4)) = true := by simpa using c2))
    (try (have d3 : (a0_0 == t3 && (a0_1 == t4)) = true := by simpa using c2))
    clear c2
    simp only [Option.some.injEq, Prod.mk.injEq] at H
    obtain ⟨rfl, rfl⟩ := H
    try go_wp2
    obtain ⟨K1, K2, K3, HB⟩ := dk3 K1 K2 K3 HB
    refine start_ (n := 3) (S := fun w' => w'.cell? ⟨g1, 0, none⟩ = some (.int .i64 a0_0) ∧ w'.cell? ⟨g1, 1, none⟩ = some (.int .i64 a0_1)) (ds := []) (lb 3 0) (by kernel_rfl) rfl rfl ⟨bc K1 0, bc K1 1⟩ (fun hHeld => ?_)
    generalize wc.drew = w5 at K1 K2 K3 HB hHeld ⊢
    refine take_ (i := 0) (N := some 14) (v := ?_) (a' := ?_) (lb 3 1) rfl rfl (by kernel_rfl) (fun _ _ _ h => h) (Or.inl ⟨by rfl, ?_⟩) hHeld ?_ ?_
    rotate_left
    ·rintro w' ⟨s0, s1⟩
     go_simp
     with_reducible rfl
    rotate_left
    ·exact pz
    refine one_ (i := 1) (N := some 15) (lb 3 3) rfl rfl (by kernel_rfl) (by decide) (fun K hK => ?_)
    refine gq Try.func38 (spec_l8None.calls _ _ _ A1.out) fun w6 hb => ?_
    obtain ⟨K1, K2, K3, HB⟩ := bk3 K1 K2 K3 HB hb
    clear hb
    refine kk hK ⟨bc K1 0, bc K1 1⟩ fun hHeld => ?_
    clear hK K
    refine pure_ (i := 2) (N := some 16) (v := ?_) (a' := ?_) (lb 3 7) rfl rfl (by kernel_rfl) (fun _ _ _ h => h) (Or.inl ⟨by rfl, ?_⟩) ?_ ?_
    rotate_left
    ·exact gz
    rotate_left
    ·exact pz
    refine done_ (by kernel_rfl) ?_
    have z_ := ns3 N2 N5 N4
    have z_ := cB2 K2
    have z_ := cB2 K3
    try go_wp2
    refine bodyPost_ret (results_cell_row rfl _ _ g3 24 #[.int .i64 a1_0, .int .i64 a1_1] (0, 0) _ rfl (by refine pf ?_; refine blk_put (cs := #[.int .i64 a1_0, .int .i64 0]) ?_ 1 _ rfl; refine pf ?_; refine blk_put (cs := #[.int .i64 0, .int .i64 0]) ?_ 0 _ rfl; exact Z K3) Try.underlying24 rfl (by kernel_rfl)) rfl ?_
    exact ⟨ez, YA HB⟩
   rw [if_neg c2] at H
   have d1 : (a0_0 == t3 && (a0_1 == t4)) = false := by simpa using c2
   (try (have d2 : decide (a0_0 = t3 && (a0_1 == t4)) = false := by simpa using c2))
   (try (have d3 : (a0_0 == t3 && (a0_1 == t4)) = false := by simpa using c2))
   (try (have d4 : ¬ (a0_0 = t3 && (a0_1 == t4)) := by simpa using c2))
   clear c2
   obtain ⟨⟨t5, t6⟩, A2, H⟩ := bd H
   try dsimp only at H
   by_cases c3 : (a1_0 == t5 && (a1_1 == t6)) = true
   ·rw [if_pos c3] at H
    have d5 : (a1_0 == t5 && (a1_1 == t6)) = true := c3
    (try (have d6 : decide (a1_0 = t5 && (a1_1 == t6)) = true := by simpa using c3))
    (try (have d7 : (a1_0 == t5 && (a1_1 == t6)) = true := by simpa using c3))
    clear c3
    simp only [Option.some.injEq, Prod.mk.injEq] at H
    obtain ⟨rfl, rfl⟩ := H
    try go_wp2
    obtain ⟨K1, K2, K3, HB⟩ := dk3 K1 K2 K3 HB
    refine start_ (n := 3) (S := fun w' => w'.cell? ⟨g1, 0, none⟩ = some (.int .i64 a0_0) ∧ w'.cell? ⟨g1, 1, none⟩ = some (.int .i64 a0_1)) (ds := []) (lb 3 0) (by kernel_rfl) rfl rfl ⟨bc K1 0, bc K1 1⟩ (fun hHeld => ?_)
    generalize wc.drew = w5 at K1 K2 K3 HB hHeld ⊢
    refine take_ (i := 0) (N := some 14) (v := ?_) (a' := ?_) (lb 3 1) rfl rfl (by kernel_rfl) (fun _ _ _ h => h) (Or.inl ⟨by rfl, ?_⟩) hHeld ?_ ?_
    rotate_left
    ·rintro w' ⟨s0, s1⟩
     go_simp
     with_reducible rfl
    rotate_left
    ·exact pz
    refine one_ (i := 1) (N := some 15) (lb 3 3) rfl rfl (by kernel_rfl) (by decide) (fun K hK => ?_)
    refine gq Try.func38 (spec_l8None.calls _ _ _ A1.out) fun w6 hb => ?_
    obtain ⟨K1, K2, K3, HB⟩ := bk3 K1 K2 K3 HB hb
    clear hb
    refine kk hK ⟨bc K1 0, bc K1 1⟩ fun hHeld => ?_
    clear hK K
    refine pure_ (i := 2) (N := some 16) (v := ?_) (a' := ?_) (lb 3 7) rfl rfl (by kernel_rfl) (fun _ _ _ h => h) (Or.inl ⟨by rfl, ?_⟩) ?_ ?_
    rotate_left
    ·exact gz
    rotate_left
    ·exact pz
    refine done_ (by kernel_rfl) ?_
    try go_wp2
    obtain ⟨K1, K2, K3, HB⟩ := dk3 K1 K2 K3 HB
    refine start_ (n := 3) (S := fun w' => w'.cell? ⟨g2, 0, none⟩ = some (.int .i64 a1_0) ∧ w'.cell? ⟨g2, 1, none⟩ = some (.int .i64 a1_1)) (ds := []) (lb 3 0) (by kernel_rfl) rfl rfl ⟨bc K2 0, bc K2 1⟩ (fun hHeld => ?_)
    generalize w6.drew = w7 at K1 K2 K3 HB hHeld ⊢
    refine take_ (i := 0) (N := some 18) (v := ?_) (a' := ?_) (lb 3 1) rfl rfl (by kernel_rfl) (fun _ _ _ h => h) (Or.inl ⟨by rfl, ?_⟩) hHeld ?_ ?_
    rotate_left
    ·rintro w' ⟨s0, s1⟩
     go_simp
     with_reducible rfl
    rotate_left
    ·exact pz
    refine one_ (i := 1) (N := some 19) (lb 3 3) rfl rfl (by kernel_rfl) (by decide) (fun K hK => ?_)
    refine gq Try.func38 (spec_l8None.calls _ _ _ A2.out) fun w8 hb => ?_
    obtain ⟨K1, K2, K3, HB⟩ := bk3 K1 K2 K3 HB hb
    clear hb
    refine kk hK ⟨bc K2 0, bc K2 1⟩ fun hHeld => ?_
    clear hK K
    refine pure_ (i := 2) (N := some 20) (v := ?_) (a' := ?_) (lb 3 7) rfl rfl (by kernel_rfl) (fun _ _ _ h => h) (Or.inl ⟨by rfl, ?_⟩) ?_ ?_
    rotate_left
    ·exact gz
    rotate_left
    ·exact pz
    refine done_ (by kernel_rfl) ?_
    have z_ := ns3 N1 N3 N6
    have z_ := cB2 K1
    have z_ := cB2 K3
    try go_wp2
    refine bodyPost_ret (results_cell_row rfl _ _ g3 24 #[.int .i64 a0_0, .int .i64 a0_1] (0, 0) _ rfl (by refine pf ?_; refine blk_put (cs := #[.int .i64 a0_0, .int .i64 0]) ?_ 1 _ rfl; refine pf ?_; refine blk_put (cs := #[.int .i64 0, .int .i64 0]) ?_ 0 _ rfl; exact Z K3) Try.underlying24 rfl (by kernel_rfl)) rfl ?_
    exact ⟨ez, YA HB⟩
   rw [if_neg c3] at H
   have d5 : (a1_0 == t5 && (a1_1 == t6)) = false := by simpa using c3
   (try (have d6 : decide (a1_0 = t5 && (a1_1 == t6)) = false := by simpa using c3))
   (try (have d7 : (a1_0 == t5 && (a1_1 == t6)) = false := by simpa using c3))
   (try (have d8 : ¬ (a1_0 = t5 && (a1_1 == t6)) := by simpa using c3))
   clear c3
   obtain ⟨t7, A3, H⟩ := bd H
   try dsimp only at H
   obtain ⟨t8, A4, H⟩ := bd H
   try dsimp only at H
   simp only [Option.some.injEq, Prod.mk.injEq] at H
   obtain ⟨rfl, rfl⟩ := H
   try go_wp2
   obtain ⟨K1, K2, K3, HB⟩ := dk3 K1 K2 K3 HB
   refine start_ (n := 3) (S := fun w' => w'.cell? ⟨g1, 0, none⟩ = some (.int .i64 a0_0) ∧ w'.cell? ⟨g1, 1, none⟩ = some (.int .i64 a0_1)) (ds := []) (lb 3 0) (by kernel_rfl) rfl rfl ⟨bc K1 0, bc K1 1⟩ (fun hHeld => ?_)
   generalize wc.drew = w5 at K1 K2 K3 HB hHeld ⊢
   refine take_ (i := 0) (N := some 14) (v := ?_) (a' := ?_) (lb 3 1) rfl rfl (by kernel_rfl) (fun _ _ _ h => h) (Or.inl ⟨by rfl, ?_⟩) hHeld ?_ ?_
   rotate_left
   ·rintro w' ⟨s0, s1⟩
    go_simp
    with_reducible rfl
   rotate_left
   ·exact pz
   refine one_ (i := 1) (N := some 15) (lb 3 3) rfl rfl (by kernel_rfl) (by decide) (fun K hK => ?_)
   refine gq Try.func38 (spec_l8None.calls _ _ _ A1.out) fun w6 hb => ?_
   obtain ⟨K1, K2, K3, HB⟩ := bk3 K1 K2 K3 HB hb
   clear hb
   refine kk hK ⟨bc K1 0, bc K1 1⟩ fun hHeld => ?_
   clear hK K
   refine pure_ (i := 2) (N := some 16) (v := ?_) (a' := ?_) (lb 3 7) rfl rfl (by kernel_rfl) (fun _ _ _ h => h) (Or.inl ⟨by rfl, ?_⟩) ?_ ?_
   rotate_left
   ·exact gz
   rotate_left
   ·exact pz
   refine done_ (by kernel_rfl) ?_
   try go_wp2
   obtain ⟨K1, K2, K3, HB⟩ := dk3 K1 K2 K3 HB
   refine start_ (n := 3) (S := fun w' => w'.cell? ⟨g2, 0, none⟩ = some (.int .i64 a1_0) ∧ w'.cell? ⟨g2, 1, none⟩ = some (.int .i64 a1_1)) (ds := []) (lb 3 0) (by kernel_rfl) rfl rfl ⟨bc K2 0, bc K2 1⟩ (fun hHeld => ?_)
   generalize w6.drew = w7 at K1 K2 K3 HB hHeld ⊢
   refine take_ (i := 0) (N := some 18) (v := ?_) (a' := ?_) (lb 3 1) rfl rfl (by kernel_rfl) (fun _ _ _ h => h) (Or.inl ⟨by rfl, ?_⟩) hHeld ?_ ?_
   rotate_left
   ·rintro w' ⟨s0, s1⟩
    go_simp
    with_reducible rfl
   rotate_left
   ·exact pz
   refine one_ (i := 1) (N := some 19) (lb 3 3) rfl rfl (by kernel_rfl) (by decide) (fun K hK => ?_)
   refine gq Try.func38 (spec_l8None.calls _ _ _ A2.out) fun w8 hb => ?_
   obtain ⟨K1, K2, K3, HB⟩ := bk3 K1 K2 K3 HB hb
   clear hb
   refine kk hK ⟨bc K2 0, bc K2 1⟩ fun hHeld => ?_
   clear hK K
   refine pure_ (i := 2) (N := some 20) (v := ?_) (a' := ?_) (lb 3 7) rfl rfl (by kernel_rfl) (fun _ _ _ h => h) (Or.inl ⟨by rfl, ?_⟩) ?_ ?_
   rotate_left
   ·exact gz
   rotate_left
   ·exact pz
   refine done_ (by kernel_rfl) ?_
   try go_wp2
   obtain ⟨K1, K2, K3, HB⟩ := dk3 K1 K2 K3 HB
   refine start_ (n := 12) (S := fun w' => w'.cell? ⟨g1, 0, none⟩ = some (.int .i64 a0_0) ∧ w'.cell? ⟨g1, 1, none⟩ = some (.int .i64 a0_1) ∧ w'.cell? ⟨g2, 0, none⟩ = some (.int .i64 a1_0) ∧ w'.cell? ⟨g2, 1, none⟩ = some (.int .i64 a1_1)) (ds := []) (lb 12 0) (by kernel_rfl) rfl rfl ⟨bc K1 0, bc K1 1, bc K2 0, bc K2 1⟩ (fun hHeld => ?_); refine with_tabW spec_RangeJoin.tab7 spec_RangeJoin.bits7 (fun HT_ HW_ => ?_)
   generalize w8.drew = w9 at K1 K2 K3 HB hHeld ⊢
   refine pk 0 22 1 ?_
   refine pk 2 24 5 ?_
   refine pk 5 27 37 ?_
   refine pk 7 29 165 ?_
   refine tk 1 23 167 hHeld ?_
   refine tk 3 25 175 hHeld ?_
   refine tk 6 28 239 hHeld ?_
   refine tk 8 30 495 hHeld ?_
   refine on 4 (some 26) 511 fun K hK => ?_
   refine goes_ Try.func68 (by kernel_rfl) rfl #[.int .i64 a0_0, .int .i64 a1_0] (by rfl) rfl rfl mz ?_
   with_reducible refine (spec_l8Min.calls _ _ _ _ A3.out).mono ?_
   rintro e w' ⟨rfl, ⟨nd, rfl⟩⟩
   refine ⟨_, rfl, ?_⟩
   refine kk hK ⟨bc K1 0, bc K1 1, bc K2 0, bc K2 1⟩ fun hHeld => ?_
   clear hK K
   refine on 9 (some 31) 1023 fun K hK => ?_
   refine goes_ Try.func69 (by kernel_rfl) rfl #[.int .i64 a0_1, .int .i64 a1_1] (by rfl) rfl rfl mz ?_
   with_reducible refine (spec_l8Max.calls _ _ _ _ A4.out).mono ?_
   rintro e w' ⟨rfl, ⟨nd, rfl⟩⟩
   refine ⟨_, rfl, ?_⟩
   refine kk hK ⟨bc K1 0, bc K1 1, bc K2 0, bc K2 1⟩ fun hHeld => ?_
   clear hK K
   refine pk 10 32 2047 ?_
   refine on 11 none 4095 fun K hK => ?_
   have s2 : w9.cell? ⟨g3, 0, none⟩ = some (.int .i64 0) := bc K3 0
   have hfs54 := blk_frozen K3.out 0
   have z_ := ns4 N3 N5 N4 N6
   have s3 : w9.cell? ⟨g3, 1, none⟩ = some (.int .i64 0) := bc K3 1
   have hfs55 := blk_frozen K3.out 1
   have z_ := ns4 N3 N5 N4 N6
   refine skip_ (w1 := ?_) (by rfl) rfl ?_ ?_
   rotate_left
   ·go_simp
    rfl
   refine hK.out _ _ ⟨((cell_far (p := ⟨g3, _, none⟩) N3.out _).trans (((cell_far (p := ⟨g3, _, none⟩) N3.out _).trans (hHeld.1)))), ((cell_far (p := ⟨g3, _, none⟩) N3.out _).trans (((cell_far (p := ⟨g3, _, none⟩) N3.out _).trans (hHeld.2.1)))), ((cell_far (p := ⟨g3, _, none⟩) N5.out _).trans (((cell_far (p := ⟨g3, _, none⟩) N5.out _).trans (hHeld.2.2.1)))), ((cell_far (p := ⟨g3, _, none⟩) N5.out _).trans (((cell_far (p := ⟨g3, _, none⟩) N5.out _).trans (hHeld.2.2.2))))⟩ (fun hHeld => ?_)
   clear hK K
   refine done_ (done_of HT_.out (by kernel_rfl)) ?_
   try go_wp2
   refine bodyPost_ret (results_cell_row rfl _ _ g3 24 #[.int .i64 t7, .int .i64 t8] (0, 0) _ rfl (by refine pf ?_; refine blk_put (cs := #[.int .i64 t7, .int .i64 0]) ?_ 1 _ rfl; refine pf ?_; refine blk_put (cs := #[.int .i64 0, .int .i64 0]) ?_ 0 _ rfl; exact Z K3) Try.underlying24 rfl (by kernel_rfl)) rfl ?_
   exact ⟨ez, YA HB⟩

/-! ### spec_l8Cut: function 44 -/
attribute [local go_sem] Go.Proofs.YthbkakcchgnhpaaSet.isSome_setCell
def spec_l8Cut.f (a0 : Int) (a1 : Int) : Option (Int × Int) := (spec_l8Max.f a0 (-2147483648)).bind fun t1 => ((spec_l8Min.f a1 2147483647).bind fun t2 => (if t1 > t2 then ((spec_l8None.f).bind fun u1 => (some (u1.1, u1.2))) else (some (t1, t2))))
set_option maxHeartbeats 8000000 in
set_option maxRecDepth 100000 in
theorem spec_l8Cut.calls (a0 : Int) (a1 : Int) (r1 : Int) (r2 : Int) (w : World) (h : spec_l8Cut.f a0 a1 = some (r1, r2)) :
  Calls Try.prog 44 #[.int .i64 a0, .int .i64 a1] w fun e w' => e = .returned (.agg #[.int .i64 r1, .int .i64 r2]) ∧ Below w.heap.size w w' := by
 have hu24 := Try.underlying24
 have HB := am (Below.refl w.heap.size w)
 have H : ((spec_l8Max.f a0 (-2147483648)).bind fun t1 => ((spec_l8Min.f a1 2147483647).bind fun t2 => (if t1 > t2 then ((spec_l8None.f).bind fun u1 => (some (u1.1, u1.2))) else (some (t1, t2))))) = some (r1, r2) := h
 clear h
 obtain ⟨t1, A1, H⟩ := bd H
 try dsimp only at H
 obtain ⟨t2, A2, H⟩ := bd H
 try dsimp only at H
 by_cases c1 : t1 > t2
 rotate_left
 ·rw [if_neg c1] at H
  have d1 := dF c1
  clear c1
  simp only [Option.some.injEq, Prod.mk.injEq] at H
  obtain ⟨rfl, rfl⟩ := H
  go_enter Try.func44, Try.ntmps44
  go_wp2_with (first | ((with_reducible refine gate_dst (N := 4) rfl ?_); refine bxn 4 #[.int .i64 0, .int .i64 0] 24 HB fun g1 w1 K1 G1 hg hb => ?_; replace HB := am (below_step (YA HB) hb); clear hb hg) | ((with_reducible refine gate_callee (f := 69) rfl ?_); refine goesL_ (some 8) rfl rfl Try.func69 (by kernel_rfl) rfl #[.int .i64 a0, .int .i64 (-2147483648)] rfl mz ?_; (with_reducible refine (spec_l8Max.calls _ _ _ _ A1.out).mono ?_); rintro e w' ⟨rfl, ⟨nd, rfl⟩⟩; refine ⟨_, rfl, ?_⟩; (try (rw [drewN_self w1]; generalize hq_ : World.drewN w1 _ = w1; replace K1 : Bx2 w1 g1 0 0 24 := ⟨by rw [← hq_]; exact (Z K1)⟩; replace HB : Aside0 (Below w.heap.size w w1) := ⟨by rw [← hq_]; exact (YA HB)⟩; clear hq_))) | ((with_reducible refine gate_callee (f := 68) rfl ?_); refine goesL_ (some 10) rfl rfl Try.func68 (by kernel_rfl) rfl #[.int .i64 a1, .int .i64 2147483647] rfl mz ?_; (with_reducible refine (spec_l8Min.calls _ _ _ _ A2.out).mono ?_); rintro e w' ⟨rfl, ⟨nd, rfl⟩⟩; refine ⟨_, rfl, ?_⟩; (try (rw [drewN_self w1]; generalize hq_ : World.drewN w1 _ = w1; replace K1 : Bx2 w1 g1 0 0 24 := ⟨by rw [← hq_]; exact (Z K1)⟩; replace HB : Aside0 (Below w.heap.size w w1) := ⟨by rw [← hq_]; exact (YA HB)⟩; clear hq_)); have z_ := cB2 K1))
  refine bodyPost_ret (results_cell_row rfl _ _ g1 24 #[.int .i64 t1, .int .i64 t2] (0, 0) _ rfl (by refine pf ?_; refine blk_put (cs := #[.int .i64 t1, .int .i64 0]) ?_ 1 _ rfl; refine pf ?_; refine blk_put (cs := #[.int .i64 0, .int .i64 0]) ?_ 0 _ rfl; exact Z K1) Try.underlying24 rfl (by kernel_rfl)) rfl ?_
  exact ⟨ez, YA HB⟩
 rw [if_pos c1] at H
 have d1 := dT c1
 clear c1
 obtain ⟨⟨t3, t4⟩, A3, H⟩ := bd H
 try dsimp only at H
 simp only [Option.some.injEq, Prod.mk.injEq] at H
 obtain ⟨rfl, rfl⟩ := H
 go_enter Try.func44, Try.ntmps44
 go_wp2_with (first | ((with_reducible refine gate_dst (N := 4) rfl ?_); refine bxn 4 #[.int .i64 0, .int .i64 0] 24 HB fun g1 w1 K1 G1 hg hb => ?_; replace HB := am (below_step (YA HB) hb); clear hb hg) | ((with_reducible refine gate_callee (f := 69) rfl ?_); refine goesL_ (some 8) rfl rfl Try.func69 (by kernel_rfl) rfl #[.int .i64 a0, .int .i64 (-2147483648)] rfl mz ?_; (with_reducible refine (spec_l8Max.calls _ _ _ _ A1.out).mono ?_); rintro e w' ⟨rfl, ⟨nd, rfl⟩⟩; refine ⟨_, rfl, ?_⟩; (try (rw [drewN_self w1]; generalize hq_ : World.drewN w1 _ = w1; replace K1 : Bx2 w1 g1 0 0 24 := ⟨by rw [← hq_]; exact (Z K1)⟩; replace HB : Aside0 (Below w.heap.size w w1) := ⟨by rw [← hq_]; exact (YA HB)⟩; clear hq_))) | ((with_reducible refine gate_callee (f := 68) rfl ?_); refine goesL_ (some 10) rfl rfl Try.func68 (by kernel_rfl) rfl #[.int .i64 a1, .int .i64 2147483647] rfl mz ?_; (with_reducible refine (spec_l8Min.calls _ _ _ _ A2.out).mono ?_); rintro e w' ⟨rfl, ⟨nd, rfl⟩⟩; refine ⟨_, rfl, ?_⟩; (try (rw [drewN_self w1]; generalize hq_ : World.drewN w1 _ = w1; replace K1 : Bx2 w1 g1 0 0 24 := ⟨by rw [← hq_]; exact (Z K1)⟩; replace HB : Aside0 (Below w.heap.size w w1) := ⟨by rw [← hq_]; exact (YA HB)⟩; clear hq_))) | ((with_reducible refine gate_callee (f := 38) rfl ?_); refine gL 14 Try.func38 (spec_l8None.calls _ _ _ A3.out) fun w2 hb => ?_; obtain ⟨K1, HB⟩ := bk1 K1 HB hb; (try clear hb); have z_ := cB2 K1))
 refine bodyPost_ret (results_cell_row rfl _ _ g1 24 #[.int .i64 t3, .int .i64 t4] (0, 0) _ rfl (by refine pf ?_; refine blk_put (cs := #[.int .i64 t3, .int .i64 0]) ?_ 1 _ rfl; refine pf ?_; refine blk_put (cs := #[.int .i64 0, .int .i64 0]) ?_ 0 _ rfl; exact Z K1) Try.underlying24 rfl (by kernel_rfl)) rfl ?_
 exact ⟨ez, YA HB⟩

end Go.Proofs.Ythbkakcchgnhpaa.PFnRangeMore
