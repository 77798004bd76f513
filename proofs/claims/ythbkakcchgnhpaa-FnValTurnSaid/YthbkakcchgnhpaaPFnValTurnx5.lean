/- Written by this session's own driver (wip/dprint.py): the functions that the law FnValTurn reaches, as Lean functions, each with its contract. -/
import Derived.Test.YthbkakcchgnhpaaPFnValTurnx0
import Derived.Test.YthbkakcchgnhpaaPFnValTurnx4
import Derived.Test.YthbkakcchgnhpaaSv
namespace Go.Proofs.Ythbkakcchgnhpaa.PFnValTurn
open Go.RowKit Go.Proofs.YthbkakcchgnhpaaV.PrintWords Go.Proofs.YthbkakcchgnhpaaV.PrintLast Go.Proofs.YthbkakcchgnhpaaV.PrintMore Go.Proofs.YthbkakcchgnhpaaSv
set_option linter.unusedVariables false
set_option linter.unusedSimpArgs false
section
attribute [local go_sem] max2_int min2_int max_two min_two max_three min_three max_four min_four
attribute [local go_sem] Go.Proofs.YthbkakcchgnhpaaSet.isSome_setCell
def spec_NumWrap.f (a0 : Int) : Option (Int) := (spec_l1Mod.f a0 4294967296).bind fun t1 => (if t1 > 2147483647 then (some (wrap64 (t1 - 4294967296))) else (some t1))
set_option maxHeartbeats 8000000 in
set_option maxRecDepth 100000 in
theorem spec_NumWrap.calls (a0 : Int) (r : Int) (w : World) (h : spec_NumWrap.f a0 = some r) :
  Calls Try.prog 64 #[.int .i64 a0] w fun e w' => e = .returned (.int .i64 r) ∧ Drawn0 w w' := by
 have H : ((spec_l1Mod.f a0 4294967296).bind fun t1 => (if t1 > 2147483647 then (some (wrap64 (t1 - 4294967296))) else (some t1))) = some r := h
 clear h
 obtain ⟨t1, A1, H⟩ := bd H
 try dsimp only at H
 by_cases c1 : t1 > 2147483647
 ·rw [if_pos c1] at H
  have d1 := dT c1
  clear c1
  obtain rfl := Option.some.inj H
  go_enter Try.func64, Try.ntmps64
  go_wp2_with (first | ((with_reducible refine gate_callee (f := 100) rfl ?_); refine goesL_ (some 5) rfl rfl Try.func100 (by kernel_rfl) rfl #[.int .i64 a0, .int .i64 4294967296] rfl mz ?_; (with_reducible refine (spec_l1Mod.calls _ _ _ _ A1.out).mono ?_); rintro e w' ⟨rfl, ⟨nd, rfl⟩⟩; refine ⟨_, rfl, ?_⟩))
  go_ret
  exact ⟨by first | rfl | (simp; done) | (simp [*]; done), qs1⟩
 rw [if_neg c1] at H
 have d1 := dF c1
 clear c1
 obtain rfl := Option.some.inj H
 go_enter Try.func64, Try.ntmps64
 go_wp2_with (first | ((with_reducible refine gate_callee (f := 100) rfl ?_); refine goesL_ (some 5) rfl rfl Try.func100 (by kernel_rfl) rfl #[.int .i64 a0, .int .i64 4294967296] rfl mz ?_; (with_reducible refine (spec_l1Mod.calls _ _ _ _ A1.out).mono ?_); rintro e w' ⟨rfl, ⟨nd, rfl⟩⟩; refine ⟨_, rfl, ?_⟩))
 go_ret
 exact ⟨by first | rfl | (simp; done) | (simp [*]; done), qs1⟩

def spec_l1Power.l0 : Nat → Int → Int → Int → Option (Int)
 | 0, _, _, _ => none
 | k + 1, x1, x2, x3 => if x3 < x1 then (spec_l1Power.l0 k x1 (wrap64 (2 * x2)) (wrap64 (x3 + 1))) else (some x2)
def spec_l1Power.f (k : Nat) (a0 : Int) : Option (Int) := spec_l1Power.l0 k a0 1 0
theorem spec_l1Power.mono_l : ∀ k, (∀ y0 y1 y2, LeO (spec_l1Power.l0 k y0 y1 y2) (spec_l1Power.l0 (k + 1) y0 y1 y2))
 | 0 => fun _ _ _ r h => by simp [spec_l1Power.l0] at h
 | k + 1 => by
  have ih0 := spec_l1Power.mono_l k
  ·intro y0 y1 y2
   unfold spec_l1Power.l0
   repeat' first | (with_reducible first | apply ih0 | apply LeO.refl | apply LeO.none | refine LeO.ite ?_ ?_ | refine LeO.bind ?_ (fun _ => ?_)) | apply ih0 | apply LeO.none | refine LeO.ite ?_ ?_ | refine LeO.bind ?_ (fun _ => ?_)
theorem spec_l1Power.mono : ∀ a0 k, LeO (spec_l1Power.f k a0) (spec_l1Power.f (k + 1) a0) := by
 intro a0 k
 have ih0 := spec_l1Power.mono_l k
 unfold spec_l1Power.f
 repeat' first | (with_reducible first | apply ih0 | apply LeO.refl | apply LeO.none | refine LeO.ite ?_ ?_ | refine LeO.bind ?_ (fun _ => ?_)) | apply ih0 | apply LeO.none | refine LeO.ite ?_ ?_ | refine LeO.bind ?_ (fun _ => ?_)
set_option maxHeartbeats 8000000 in
set_option maxRecDepth 100000 in
theorem spec_l1Power.calls (k : Nat) (a0 : Int) (r : Int) (w : World) (h : spec_l1Power.f k a0 = some r) :
  Calls Try.prog 98 #[.int .i64 a0] w fun e w' => e = .returned (.int .i64 r) ∧ Drawn0 w w' := by
 have H : (spec_l1Power.l0 k a0 1 0) = some r := h
 clear h
 have H' := am H
 clear H
 go_enter Try.func98, Try.ntmps98
 go_wp2
 go_loopg [3, 4] k (fun kq v1 v2 w' => ∃ (x1 : Int) (x2 : Int), v1 = .int .i64 x1 ∧ v2 = .int .i64 x2 ∧ Aside0 (spec_l1Power.l0 kq a0 x1 x2 = some r) ∧ Aside0 (kq ≤ k) ∧ Drawn0 w w')
 case atStart => exact ⟨(1), (0), ey, ey, H', ⟨Nat.le_refl _⟩, qs1⟩
 case round =>
  clear H'
  obtain ⟨x1, x2, rfl, rfl, HA, HK1, ⟨m1, rfl⟩⟩ := hrel
  cases gk with
  | zero => exact absurd HA.out (by simp [spec_l1Power.l0])
  | succ k1 => ?_
  have H := HA.out
  clear HA
  simp only [spec_l1Power.l0] at H
  by_cases c1 : x2 < a0
  rotate_left
  ·rw [if_neg c1] at H
   have d1 := dF c1
   clear c1
   obtain rfl := Option.some.inj H
   go_wp2
   go_ret
   exact ⟨by first | rfl | (simp; done) | (simp [*]; done), qs1⟩
  rw [if_pos c1] at H
  have d1 := dT c1
  clear c1
  have H' := am H
  clear H
  go_wp2
  go_roundg k1
  case measure => have := HK1.out; omega
  case rel => exact ⟨(wrap64 (2 * x1)), (wrap64 (x2 + 1)), ey, ey, H', ⟨by have := HK1.out; omega⟩, qs1⟩

def spec_l1Rd_num.l0 : Nat → Int → Int → List Int → Int → Option (Int × Int)
 | 0, _, _, _, _ => none
 | k + 1, x1, x2, x3, x4 => if x2 < 4 then ((spec_l1Rd_pick.f k x3 x4 256).bind fun u1 => (spec_l1Rd_num.l0 k (wrap64 ((wrap64 (x1 * 256)) + u1.1)) (wrap64 (x2 + 1)) x3 u1.2)) else ((spec_NumWrap.f x1).bind fun t1 => (some (t1, x4)))
def spec_l1Rd_num.f (k : Nat) (s0_0 : List Int) (s0_1 : Int) : Option (Int × Int) := (spec_l1Rd_pick.f k s0_0 s0_1 10).bind fun u1 => (if u1.1 < 4 then ((spec_l1Rd_pick.f k s0_0 u1.2 21).bind fun u2 => (some (wrap64 (u2.1 - 10), u2.2))) else (if u1.1 = 4 then ((spec_l1Rd_pick.f k s0_0 u1.2 3).bind fun u3 => (some (wrap64 (2147483647 - u3.1), u3.2))) else (if u1.1 = 5 then ((spec_l1Rd_pick.f k s0_0 u1.2 3).bind fun u4 => (some (wrap64 ((-2147483648) + u4.1), u4.2))) else (if u1.1 = 6 then ((spec_l1Rd_pick.f k s0_0 u1.2 31).bind fun u5 => ((spec_l1Power.f k u5.1).bind fun t1 => ((spec_l1Rd_pick.f k s0_0 u5.2 3).bind fun u6 => (some (wrap64 ((wrap64 (t1 + u6.1)) - 1), u6.2))))) else (if u1.1 = 7 then ((spec_l1Rd_pick.f k s0_0 u1.2 31).bind fun u7 => ((spec_l1Power.f k u7.1).bind fun t2 => ((spec_l1Rd_pick.f k s0_0 u7.2 3).bind fun u8 => (some (wrap64 ((wrap64 ((wrap64 (-t2)) + u8.1)) - 1), u8.2))))) else (spec_l1Rd_num.l0 k 0 0 s0_0 u1.2))))))
theorem spec_l1Rd_num.mono_l : ∀ k, (∀ y0 y1 y2 y3, LeO (spec_l1Rd_num.l0 k y0 y1 y2 y3) (spec_l1Rd_num.l0 (k + 1) y0 y1 y2 y3))
 | 0 => fun _ _ _ _ r h => by simp [spec_l1Rd_num.l0] at h
 | k + 1 => by
  have ih0 := spec_l1Rd_num.mono_l k
  ·intro y0 y1 y2 y3
   unfold spec_l1Rd_num.l0
   repeat' first | (with_reducible first | apply ih0 | apply spec_l1Power.mono | apply spec_l1Rd_pick.mono | apply LeO.refl | apply LeO.none | refine LeO.ite ?_ ?_ | refine LeO.bind ?_ (fun _ => ?_)) | apply ih0 | apply spec_l1Power.mono | apply spec_l1Rd_pick.mono | apply LeO.none | refine LeO.ite ?_ ?_ | refine LeO.bind ?_ (fun _ => ?_)
theorem spec_l1Rd_num.mono : ∀ a0 a1 k, LeO (spec_l1Rd_num.f k a0 a1) (spec_l1Rd_num.f (k + 1) a0 a1) := by
 intro a0 a1 k
 have ih0 := spec_l1Rd_num.mono_l k
 unfold spec_l1Rd_num.f
 repeat' first | (with_reducible first | apply ih0 | apply spec_l1Power.mono | apply spec_l1Rd_pick.mono | apply LeO.refl | apply LeO.none | refine LeO.ite ?_ ?_ | refine LeO.bind ?_ (fun _ => ?_)) | apply ih0 | apply spec_l1Power.mono | apply spec_l1Rd_pick.mono | apply LeO.none | refine LeO.ite ?_ ?_ | refine LeO.bind ?_ (fun _ => ?_)
set_option maxHeartbeats 8000000 in
set_option maxRecDepth 100000 in
theorem spec_l1Rd_num.calls (k : Nat) (g : Nat) (s0_0 : List Int) (s0_1 : Int) (r1 : Int) (r2 : Int) (w1 w : World) (hI : IsS99 w1 w g s0_0 s0_1) (hB : Below w1.heap.size w1 w) (h : spec_l1Rd_num.f k s0_0 s0_1 = some (r1, r2)) :
  Calls Try.prog 58 #[.pointer (some ⟨g, 0, none⟩)] w fun e w' => e = .returned (.int .i64 r1) ∧ IsS99 w1 w' g s0_0 r2 ∧ Below w1.heap.size w1 w' ∧ KeepBut w w' g none := by
 have I1 := am hI
 have HK := am (KeepBut.refl w g none)
 have HL := am hB.size
 clear hI
 have HW0 := am hB.size
 have HB := am hB
 clear hB
 have H : ((spec_l1Rd_pick.f k s0_0 s0_1 10).bind fun u1 => (if u1.1 < 4 then ((spec_l1Rd_pick.f k s0_0 u1.2 21).bind fun u2 => (some (wrap64 (u2.1 - 10), u2.2))) else (if u1.1 = 4 then ((spec_l1Rd_pick.f k s0_0 u1.2 3).bind fun u3 => (some (wrap64 (2147483647 - u3.1), u3.2))) else (if u1.1 = 5 then ((spec_l1Rd_pick.f k s0_0 u1.2 3).bind fun u4 => (some (wrap64 ((-2147483648) + u4.1), u4.2))) else (if u1.1 = 6 then ((spec_l1Rd_pick.f k s0_0 u1.2 31).bind fun u5 => ((spec_l1Power.f k u5.1).bind fun t1 => ((spec_l1Rd_pick.f k s0_0 u5.2 3).bind fun u6 => (some (wrap64 ((wrap64 (t1 + u6.1)) - 1), u6.2))))) else (if u1.1 = 7 then ((spec_l1Rd_pick.f k s0_0 u1.2 31).bind fun u7 => ((spec_l1Power.f k u7.1).bind fun t2 => ((spec_l1Rd_pick.f k s0_0 u7.2 3).bind fun u8 => (some (wrap64 ((wrap64 ((wrap64 (-t2)) + u8.1)) - 1), u8.2))))) else (spec_l1Rd_num.l0 k 0 0 s0_0 u1.2))))))) = some (r1, r2) := h
 clear h
 obtain ⟨⟨t3, t4⟩, A1, H⟩ := bd H
 try dsimp only at H
 by_cases c1 : t3 < 4
 ·rw [if_pos c1] at H
  have d1 := dT c1
  clear c1
  obtain ⟨⟨t5, t6⟩, A2, H⟩ := bd H
  try dsimp only at H
  obtain ⟨rfl, rfl⟩ := sj2 H
  go_enter Try.func58, Try.ntmps58
  go_wp2_with (first | ((with_reducible refine gate_callee (f := 57) rfl ?_); refine goesL_ (some 7) rfl rfl Try.func57 (by kernel_rfl) rfl #[.pointer (some ⟨g, 0, none⟩), .int .i64 10] rfl mz ?_; (with_reducible refine (spec_l1Rd_pick.calls k g s0_0 s0_1 10 t3 t4 w1 _ ?side1 ?side2 A1.out).mono ?_); (case side1 => exact qs2); (case side2 => exact qs7); rintro e w2 ⟨rfl, hi, hb, hk⟩; refine ⟨_, rfl, ?_⟩; replace HK := am (KeepBut.trans (qs3) hk (.inl rfl)); replace HB := am (hb); replace I1 := am (hi); (try clear hb)) | ((with_reducible refine gate_callee (f := 57) rfl ?_); refine goesL_ (some 11) rfl rfl Try.func57 (by kernel_rfl) rfl #[.pointer (some ⟨g, 0, none⟩), .int .i64 21] rfl mz ?_; (with_reducible refine (spec_l1Rd_pick.calls k g s0_0 t4 21 t5 t6 w1 _ ?side1 ?side2 A2.out).mono ?_); (case side1 => exact qs2); (case side2 => exact qs7); rintro e w3 ⟨rfl, hi, hb, hk⟩; refine ⟨_, rfl, ?_⟩; replace HK := am (KeepBut.trans (qs3) hk (.inl rfl)); replace HB := am (hb); replace I1 := am (hi); (try clear hb)))
  go_ret
  exact ⟨ez, qs2, qs7, qs3⟩
 rw [if_neg c1] at H
 have d1 := dF c1
 clear c1
 by_cases c2 : t3 = 4
 ·rw [if_pos c2] at H
  have d2 := eT c2
  have d3 := nF c2
  clear c2
  obtain ⟨⟨t5, t6⟩, A2, H⟩ := bd H
  try dsimp only at H
  obtain ⟨rfl, rfl⟩ := sj2 H
  go_enter Try.func58, Try.ntmps58
  go_wp2_with (first | ((with_reducible refine gate_callee (f := 57) rfl ?_); refine goesL_ (some 7) rfl rfl Try.func57 (by kernel_rfl) rfl #[.pointer (some ⟨g, 0, none⟩), .int .i64 10] rfl mz ?_; (with_reducible refine (spec_l1Rd_pick.calls k g s0_0 s0_1 10 t3 t4 w1 _ ?side1 ?side2 A1.out).mono ?_); (case side1 => exact qs2); (case side2 => exact qs7); rintro e w2 ⟨rfl, hi, hb, hk⟩; refine ⟨_, rfl, ?_⟩; replace HK := am (KeepBut.trans (qs3) hk (.inl rfl)); replace HB := am (hb); replace I1 := am (hi); (try clear hb)) | ((with_reducible refine gate_callee (f := 57) rfl ?_); refine goesL_ (some 16) rfl rfl Try.func57 (by kernel_rfl) rfl #[.pointer (some ⟨g, 0, none⟩), .int .i64 3] rfl mz ?_; (with_reducible refine (spec_l1Rd_pick.calls k g s0_0 t4 3 t5 t6 w1 _ ?side1 ?side2 A2.out).mono ?_); (case side1 => exact qs2); (case side2 => exact qs7); rintro e w3 ⟨rfl, hi, hb, hk⟩; refine ⟨_, rfl, ?_⟩; replace HK := am (KeepBut.trans (qs3) hk (.inl rfl)); replace HB := am (hb); replace I1 := am (hi); (try clear hb)))
  go_ret
  exact ⟨ez, qs2, qs7, qs3⟩
 rw [if_neg c2] at H
 have d2 := eF c2
 have d3 := nT c2
 by_cases c3 : t3 = 5
 ·rw [if_pos c3] at H
  have d4 := eT c3
  have d5 := nF c3
  clear c3
  obtain ⟨⟨t5, t6⟩, A2, H⟩ := bd H
  try dsimp only at H
  obtain ⟨rfl, rfl⟩ := sj2 H
  go_enter Try.func58, Try.ntmps58
  go_wp2_with (first | ((with_reducible refine gate_callee (f := 57) rfl ?_); refine goesL_ (some 7) rfl rfl Try.func57 (by kernel_rfl) rfl #[.pointer (some ⟨g, 0, none⟩), .int .i64 10] rfl mz ?_; (with_reducible refine (spec_l1Rd_pick.calls k g s0_0 s0_1 10 t3 t4 w1 _ ?side1 ?side2 A1.out).mono ?_); (case side1 => exact qs2); (case side2 => exact qs7); rintro e w2 ⟨rfl, hi, hb, hk⟩; refine ⟨_, rfl, ?_⟩; replace HK := am (KeepBut.trans (qs3) hk (.inl rfl)); replace HB := am (hb); replace I1 := am (hi); (try clear hb)) | ((with_reducible refine gate_callee (f := 57) rfl ?_); refine goesL_ (some 21) rfl rfl Try.func57 (by kernel_rfl) rfl #[.pointer (some ⟨g, 0, none⟩), .int .i64 3] rfl mz ?_; (with_reducible refine (spec_l1Rd_pick.calls k g s0_0 t4 3 t5 t6 w1 _ ?side1 ?side2 A2.out).mono ?_); (case side1 => exact qs2); (case side2 => exact qs7); rintro e w3 ⟨rfl, hi, hb, hk⟩; refine ⟨_, rfl, ?_⟩; replace HK := am (KeepBut.trans (qs3) hk (.inl rfl)); replace HB := am (hb); replace I1 := am (hi); (try clear hb)))
  go_ret
  exact ⟨ez, qs2, qs7, qs3⟩
 rw [if_neg c3] at H
 have d4 := eF c3
 have d5 := nT c3
 by_cases c4 : t3 = 6
 ·rw [if_pos c4] at H
  have d6 := eT c4
  have d7 := nF c4
  clear c4
  obtain ⟨⟨t5, t6⟩, A2, H⟩ := bd H
  try dsimp only at H
  obtain ⟨t1, A3, H⟩ := bd H
  try dsimp only at H
  obtain ⟨⟨t7, t8⟩, A4, H⟩ := bd H
  try dsimp only at H
  obtain ⟨rfl, rfl⟩ := sj2 H
  go_enter Try.func58, Try.ntmps58
  go_wp2_with (first | ((with_reducible refine gate_callee (f := 57) rfl ?_); refine goesL_ (some 7) rfl rfl Try.func57 (by kernel_rfl) rfl #[.pointer (some ⟨g, 0, none⟩), .int .i64 10] rfl mz ?_; (with_reducible refine (spec_l1Rd_pick.calls k g s0_0 s0_1 10 t3 t4 w1 _ ?side1 ?side2 A1.out).mono ?_); (case side1 => exact qs2); (case side2 => exact qs7); rintro e w2 ⟨rfl, hi, hb, hk⟩; refine ⟨_, rfl, ?_⟩; replace HK := am (KeepBut.trans (qs3) hk (.inl rfl)); replace HB := am (hb); replace I1 := am (hi); (try clear hb)) | ((with_reducible refine gate_callee (f := 57) rfl ?_); refine goesL_ (some 26) rfl rfl Try.func57 (by kernel_rfl) rfl #[.pointer (some ⟨g, 0, none⟩), .int .i64 31] rfl mz ?_; (with_reducible refine (spec_l1Rd_pick.calls k g s0_0 t4 31 t5 t6 w1 _ ?side1 ?side2 A2.out).mono ?_); (case side1 => exact qs2); (case side2 => exact qs7); rintro e w3 ⟨rfl, hi, hb, hk⟩; refine ⟨_, rfl, ?_⟩; replace HK := am (KeepBut.trans (qs3) hk (.inl rfl)); replace HB := am (hb); replace I1 := am (hi); (try clear hb)) | ((with_reducible refine gate_callee (f := 98) rfl ?_); refine goesL_ (some 27) rfl rfl Try.func98 (by kernel_rfl) rfl #[.int .i64 t5] rfl mz ?_; (with_reducible refine (spec_l1Power.calls _ _ _ _ A3.out).mono ?_); rintro e w' ⟨rfl, ⟨nd, rfl⟩⟩; refine ⟨_, rfl, ?_⟩) | ((with_reducible refine gate_callee (f := 57) rfl ?_); refine goesL_ (some 29) rfl rfl Try.func57 (by kernel_rfl) rfl #[.pointer (some ⟨g, 0, none⟩), .int .i64 3] rfl mz ?_; (with_reducible refine (spec_l1Rd_pick.calls k g s0_0 t6 3 t7 t8 w1 _ ?side1 ?side2 A4.out).mono ?_); (case side1 => exact qs2); (case side2 => exact qs7); rintro e w4 ⟨rfl, hi, hb, hk⟩; refine ⟨_, rfl, ?_⟩; replace HK := am (KeepBut.trans (qs3) hk (.inl rfl)); replace HB := am (hb); replace I1 := am (hi); (try clear hb)))
  go_ret
  exact ⟨ez, qs2, qs7, qs3⟩
 rw [if_neg c4] at H
 have d6 := eF c4
 have d7 := nT c4
 by_cases c5 : t3 = 7
 ·rw [if_pos c5] at H
  have d8 := eT c5
  have d9 := nF c5
  clear c5
  obtain ⟨⟨t5, t6⟩, A2, H⟩ := bd H
  try dsimp only at H
  obtain ⟨t2, A3, H⟩ := bd H
  try dsimp only at H
  obtain ⟨⟨t7, t8⟩, A4, H⟩ := bd H
  try dsimp only at H
  obtain ⟨rfl, rfl⟩ := sj2 H
  go_enter Try.func58, Try.ntmps58
  go_wp2_with (first | ((with_reducible refine gate_callee (f := 57) rfl ?_); refine goesL_ (some 7) rfl rfl Try.func57 (by kernel_rfl) rfl #[.pointer (some ⟨g, 0, none⟩), .int .i64 10] rfl mz ?_; (with_reducible refine (spec_l1Rd_pick.calls k g s0_0 s0_1 10 t3 t4 w1 _ ?side1 ?side2 A1.out).mono ?_); (case side1 => exact qs2); (case side2 => exact qs7); rintro e w2 ⟨rfl, hi, hb, hk⟩; refine ⟨_, rfl, ?_⟩; replace HK := am (KeepBut.trans (qs3) hk (.inl rfl)); replace HB := am (hb); replace I1 := am (hi); (try clear hb)) | ((with_reducible refine gate_callee (f := 57) rfl ?_); refine goesL_ (some 35) rfl rfl Try.func57 (by kernel_rfl) rfl #[.pointer (some ⟨g, 0, none⟩), .int .i64 31] rfl mz ?_; (with_reducible refine (spec_l1Rd_pick.calls k g s0_0 t4 31 t5 t6 w1 _ ?side1 ?side2 A2.out).mono ?_); (case side1 => exact qs2); (case side2 => exact qs7); rintro e w3 ⟨rfl, hi, hb, hk⟩; refine ⟨_, rfl, ?_⟩; replace HK := am (KeepBut.trans (qs3) hk (.inl rfl)); replace HB := am (hb); replace I1 := am (hi); (try clear hb)) | ((with_reducible refine gate_callee (f := 98) rfl ?_); refine goesL_ (some 36) rfl rfl Try.func98 (by kernel_rfl) rfl #[.int .i64 t5] rfl mz ?_; (with_reducible refine (spec_l1Power.calls _ _ _ _ A3.out).mono ?_); rintro e w' ⟨rfl, ⟨nd, rfl⟩⟩; refine ⟨_, rfl, ?_⟩) | ((with_reducible refine gate_callee (f := 57) rfl ?_); refine goesL_ (some 39) rfl rfl Try.func57 (by kernel_rfl) rfl #[.pointer (some ⟨g, 0, none⟩), .int .i64 3] rfl mz ?_; (with_reducible refine (spec_l1Rd_pick.calls k g s0_0 t6 3 t7 t8 w1 _ ?side1 ?side2 A4.out).mono ?_); (case side1 => exact qs2); (case side2 => exact qs7); rintro e w4 ⟨rfl, hi, hb, hk⟩; refine ⟨_, rfl, ?_⟩; replace HK := am (KeepBut.trans (qs3) hk (.inl rfl)); replace HB := am (hb); replace I1 := am (hi); (try clear hb)))
  go_ret
  exact ⟨ez, qs2, qs7, qs3⟩
 rw [if_neg c5] at H
 have d8 := eF c5
 have d9 := nT c5
 have H' := am H
 clear H
 go_enter Try.func58, Try.ntmps58
 go_wp2_with (first | ((with_reducible refine gate_callee (f := 57) rfl ?_); refine goesL_ (some 7) rfl rfl Try.func57 (by kernel_rfl) rfl #[.pointer (some ⟨g, 0, none⟩), .int .i64 10] rfl mz ?_; (with_reducible refine (spec_l1Rd_pick.calls k g s0_0 s0_1 10 t3 t4 w1 _ ?side1 ?side2 A1.out).mono ?_); (case side1 => exact qs2); (case side2 => exact qs7); rintro e w2 ⟨rfl, hi, hb, hk⟩; refine ⟨_, rfl, ?_⟩; replace HK := am (KeepBut.trans (qs3) hk (.inl rfl)); replace HB := am (hb); replace I1 := am (hi); (try clear hb)))
 go_loopg [4, 5] k (fun kq v1 v2 w' => ∃ (x1 : Int) (x2 : Int) (x3 : Int), v1 = .int .i64 x1 ∧ v2 = .int .i64 x2 ∧ Aside0 (spec_l1Rd_num.l0 kq x1 x2 s0_0 x3 = some (r1, r2)) ∧ Aside0 (kq ≤ k) ∧ Aside0 (IsS99 w1 w' g s0_0 x3) ∧ Aside0 (KeepBut w w' g none) ∧ Aside0 (Below w1.heap.size w1 w'))
 case atStart => exact ⟨(0), (0), (t4), ey, ey, H', ⟨Nat.le_refl _⟩, ⟨qs2⟩, ⟨qs3⟩, ⟨qs7⟩⟩
 case round =>
  clear H'
  (try clear d1);(try clear c2);(try clear d2);(try clear d3);(try clear c3);(try clear d4);(try clear d5);(try clear c4);(try clear d6);(try clear d7);(try clear c5);(try clear d8);(try clear d9)
  obtain ⟨x1, x2, x3, rfl, rfl, HA, HK1, I1, HK, HB⟩ := hrel
  cases gk with
  | zero => exact absurd HA.out (by simp [spec_l1Rd_num.l0])
  | succ k1 => ?_
  have H := HA.out
  clear HA
  simp only [spec_l1Rd_num.l0] at H
  by_cases c6 : x2 < 4
  rotate_left
  ·rw [if_neg c6] at H
   have d10 := dF c6
   clear c6
   obtain ⟨t5, A2, H⟩ := bd H
   try dsimp only at H
   obtain ⟨rfl, rfl⟩ := sj2 H
   go_wp2_with (first | ((with_reducible refine gate_callee (f := 64) rfl ?_); refine goesL_ (some 52) rfl rfl Try.func64 (by kernel_rfl) rfl #[.int .i64 x1] rfl mz ?_; (with_reducible refine (spec_NumWrap.calls _ _ _ A2.out).mono ?_); rintro e w' ⟨rfl, ⟨nd, rfl⟩⟩; refine ⟨_, rfl, ?_⟩))
   go_ret
   exact ⟨ez, qs2, qs7, qs3⟩
  rw [if_pos c6] at H
  have d10 := dT c6
  clear c6
  obtain ⟨⟨t5, t6⟩, A2, H⟩ := bd H
  try dsimp only at H
  have H' := am H
  clear H
  go_wp2_with (first | ((with_reducible refine gate_callee (f := 57) rfl ?_); refine goesL_ (some 49) rfl rfl Try.func57 (by kernel_rfl) rfl #[.pointer (some ⟨g, 0, none⟩), .int .i64 256] rfl mz ?_; (with_reducible refine (spec_l1Rd_pick.calls k1 g s0_0 x3 256 t5 t6 w1 _ ?side1 ?side2 A2.out).mono ?_); (case side1 => exact qs2); (case side2 => exact qs7); rintro e w3 ⟨rfl, hi, hb, hk⟩; refine ⟨_, rfl, ?_⟩; replace HK := am (KeepBut.trans (qs3) hk (.inl rfl)); replace HB := am (hb); replace I1 := am (hi); (try clear hb)))
  go_roundg k1
  case measure => have := HK1.out; omega
  case rel => exact ⟨(wrap64 ((wrap64 (x1 * 256)) + t5)), (wrap64 (x2 + 1)), (t6), ey, ey, H', ⟨by have := HK1.out; omega⟩, ⟨qs2⟩, ⟨qs3⟩, ⟨qs7⟩⟩

def spec_l8Range.f (k : Nat) (s0_0 : List Int) (s0_1 : Int) : Option (Int × Int × Int) := (spec_l1Rd_pick.f k s0_0 s0_1 12).bind fun u1 => (if u1.1 = 0 then ((spec_l8None.f).bind fun u2 => (some (u2.1, u2.2, u1.2))) else ((spec_l1Rd_num.f k s0_0 u1.2).bind fun u3 => (if u1.1 < 3 then (some (u3.1, u3.1, u3.2)) else (if u1.1 < 7 then ((spec_l1Rd_pick.f k s0_0 u3.2 40).bind fun u4 => ((spec_l8Cut.f u3.1 (wrap64 (u3.1 + u4.1))).bind fun u5 => (some (u5.1, u5.2, u4.2)))) else (if u1.1 = 7 then (some ((-2147483648), 2147483647, u3.2)) else ((spec_l1Rd_num.f k s0_0 u3.2).bind fun u6 => ((spec_l8Min.f u3.1 u6.1).bind fun t1 => ((spec_l8Max.f u3.1 u6.1).bind fun t2 => ((spec_l8Cut.f t1 t2).bind fun u7 => (some (u7.1, u7.2, u6.2)))))))))))
theorem spec_l8Range.mono : ∀ a0 a1 k, LeO (spec_l8Range.f k a0 a1) (spec_l8Range.f (k + 1) a0 a1) := by
 intro a0 a1 k
 unfold spec_l8Range.f
 repeat' first | (with_reducible first | apply spec_l1Rd_num.mono | apply spec_l1Rd_pick.mono | apply LeO.refl | apply LeO.none | refine LeO.ite ?_ ?_ | refine LeO.bind ?_ (fun _ => ?_)) | apply spec_l1Rd_num.mono | apply spec_l1Rd_pick.mono | apply LeO.none | refine LeO.ite ?_ ?_ | refine LeO.bind ?_ (fun _ => ?_)
set_option maxHeartbeats 8000000 in
set_option maxRecDepth 100000 in
theorem spec_l8Range.calls (k : Nat) (g : Nat) (s0_0 : List Int) (s0_1 : Int) (r1 : Int) (r2 : Int) (r3 : Int) (w1 w : World) (hI : IsS99 w1 w g s0_0 s0_1) (hB : Below w1.heap.size w1 w) (h : spec_l8Range.f k s0_0 s0_1 = some (r1, r2, r3)) :
  Calls Try.prog 101 #[.pointer (some ⟨g, 0, none⟩)] w fun e w' => e = .returned (.agg #[.int .i64 r1, .int .i64 r2]) ∧ IsS99 w1 w' g s0_0 r3 ∧ Below w1.heap.size w1 w' ∧ KeepBut w w' g none := by
 have hu24 := Try.underlying24
 have I1 := am hI
 have HK := am (KeepBut.refl w g none)
 have HL := am hB.size
 clear hI
 have HW0 := am hB.size
 have HB := am hB
 clear hB
 have H : ((spec_l1Rd_pick.f k s0_0 s0_1 12).bind fun u1 => (if u1.1 = 0 then ((spec_l8None.f).bind fun u2 => (some (u2.1, u2.2, u1.2))) else ((spec_l1Rd_num.f k s0_0 u1.2).bind fun u3 => (if u1.1 < 3 then (some (u3.1, u3.1, u3.2)) else (if u1.1 < 7 then ((spec_l1Rd_pick.f k s0_0 u3.2 40).bind fun u4 => ((spec_l8Cut.f u3.1 (wrap64 (u3.1 + u4.1))).bind fun u5 => (some (u5.1, u5.2, u4.2)))) else (if u1.1 = 7 then (some ((-2147483648), 2147483647, u3.2)) else ((spec_l1Rd_num.f k s0_0 u3.2).bind fun u6 => ((spec_l8Min.f u3.1 u6.1).bind fun t1 => ((spec_l8Max.f u3.1 u6.1).bind fun t2 => ((spec_l8Cut.f t1 t2).bind fun u7 => (some (u7.1, u7.2, u6.2)))))))))))) = some (r1, r2, r3) := h
 clear h
 obtain ⟨⟨t3, t4⟩, A1, H⟩ := bd H
 try dsimp only at H
 by_cases c1 : t3 = 0
 ·rw [if_pos c1] at H
  have d1 := eT c1
  have d2 := nF c1
  clear c1
  obtain ⟨⟨t5, t6⟩, A2, H⟩ := bd H
  try dsimp only at H
  obtain ⟨rfl, rfl, rfl⟩ := sj3 H
  go_enter Try.func101, Try.ntmps101
  go_wp2_with (first | ((with_reducible refine gate_dst (N := 2) rfl ?_); refine bx 2 #[.int .i64 0, .int .i64 0] 24 ?_; intro g1 hg w2 hbox hb; have K1 := am (hbox); have G1 := am ((by rw [hg]; exact (keep_size (w := w) (g := g) (row := none) (qs3)) : w.heap.size ≤ g1)); have G2 := am ((Nat.le_trans HW0.out (by rw [hg]; exact (keep_size (w := w) (g := g) (row := none) (qs3)) : w.heap.size ≤ g1) : w1.heap.size ≤ g1)); have N1 := am ((by rw [hg]; exact Nat.ne_of_lt (IsS99.lt (show IsS99 w1 _ g s0_0 s0_1 from qs2)) : g ≠ g1)); have N2 := am ((by rw [hg]; exact Nat.ne_of_gt (IsS99.lt (show IsS99 w1 _ g s0_0 s0_1 from qs2)) : g1 ≠ g)); replace HK := am (KeepBut.trans (qs3) (KeepBut.of_below hb g none) (.inl rfl)); replace HB := am (below_step (qs7) hb); replace I1 := am (IsS99.below (qs2) hb); clear hb hbox hg) | ((with_reducible refine gate_callee (f := 57) rfl ?_); refine goesL_ (some 7) rfl rfl Try.func57 (by kernel_rfl) rfl #[.pointer (some ⟨g, 0, none⟩), .int .i64 12] rfl mz ?_; (with_reducible refine (spec_l1Rd_pick.calls k g s0_0 s0_1 12 t3 t4 w1 _ ?side1 ?side2 A1.out).mono ?_); (case side1 => exact qs4); (case side2 => exact qs6); rintro e w3 ⟨rfl, hi, hb, hk⟩; refine ⟨_, rfl, ?_⟩; replace K1 := am (KeepBut.blk hk (g' := g1) (o := b2 0 0 24) (Z K1) N2.out (by simp)); replace HK := am (KeepBut.trans (qs5) hk (.inl rfl)); replace HB := am (hb); replace I1 := am (hi); (try clear hb)) | ((with_reducible refine gate_callee (f := 38) rfl ?_); refine gL 10 Try.func38 (spec_l8None.calls _ _ _ A2.out) fun w4 hb => ?_; replace K1 := bb K1 hb; replace HK := am (KeepBut.trans (qs5) (KeepBut.of_below hb g none) (.inl rfl)); replace HB := am (below_step (qs6) hb); replace I1 := am (IsS99.below (qs4) hb); (try clear hb); have := ns1 N2; have := cB2 K1))
  refine bodyPost_ret (results_cell_row rfl _ _ g1 24 #[.int .i64 t5, .int .i64 t6] (0, 0) _ rfl (by refine pf ?_; refine bp (ia2 t5 0) ?_ 1; refine pf ?_; refine bp (ia2 0 0) ?_ 0; exact Z K1) Try.underlying24 rfl (by kernel_rfl)) rfl ?_
  exact ⟨ez, qs4, qs6, qs5⟩
 rw [if_neg c1] at H
 have d1 := eF c1
 have d2 := nT c1
 obtain ⟨⟨t5, t6⟩, A2, H⟩ := bd H
 try dsimp only at H
 by_cases c2 : t3 < 3
 ·rw [if_pos c2] at H
  have d3 := dT c2
  clear c2
  obtain ⟨rfl, rfl, rfl⟩ := sj3 H
  go_enter Try.func101, Try.ntmps101
  go_wp2_with (first | ((with_reducible refine gate_dst (N := 2) rfl ?_); refine bx 2 #[.int .i64 0, .int .i64 0] 24 ?_; intro g1 hg w2 hbox hb; have K1 := am (hbox); have G1 := am ((by rw [hg]; exact (keep_size (w := w) (g := g) (row := none) (qs3)) : w.heap.size ≤ g1)); have G2 := am ((Nat.le_trans HW0.out (by rw [hg]; exact (keep_size (w := w) (g := g) (row := none) (qs3)) : w.heap.size ≤ g1) : w1.heap.size ≤ g1)); have N1 := am ((by rw [hg]; exact Nat.ne_of_lt (IsS99.lt (show IsS99 w1 _ g s0_0 s0_1 from qs2)) : g ≠ g1)); have N2 := am ((by rw [hg]; exact Nat.ne_of_gt (IsS99.lt (show IsS99 w1 _ g s0_0 s0_1 from qs2)) : g1 ≠ g)); replace HK := am (KeepBut.trans (qs3) (KeepBut.of_below hb g none) (.inl rfl)); replace HB := am (below_step (qs7) hb); replace I1 := am (IsS99.below (qs2) hb); clear hb hbox hg) | ((with_reducible refine gate_callee (f := 57) rfl ?_); refine goesL_ (some 7) rfl rfl Try.func57 (by kernel_rfl) rfl #[.pointer (some ⟨g, 0, none⟩), .int .i64 12] rfl mz ?_; (with_reducible refine (spec_l1Rd_pick.calls k g s0_0 s0_1 12 t3 t4 w1 _ ?side1 ?side2 A1.out).mono ?_); (case side1 => exact qs4); (case side2 => exact qs6); rintro e w3 ⟨rfl, hi, hb, hk⟩; refine ⟨_, rfl, ?_⟩; replace K1 := am (KeepBut.blk hk (g' := g1) (o := b2 0 0 24) (Z K1) N2.out (by simp)); replace HK := am (KeepBut.trans (qs5) hk (.inl rfl)); replace HB := am (hb); replace I1 := am (hi); (try clear hb)) | ((with_reducible refine gate_callee (f := 58) rfl ?_); refine goesL_ (some 12) rfl rfl Try.func58 (by kernel_rfl) rfl #[.pointer (some ⟨g, 0, none⟩)] rfl mz ?_; (with_reducible refine (spec_l1Rd_num.calls k g s0_0 t4 t5 t6 w1 _ ?side1 ?side2 A2.out).mono ?_); (case side1 => exact qs4); (case side2 => exact qs6); rintro e w4 ⟨rfl, hi, hb, hk⟩; refine ⟨_, rfl, ?_⟩; replace K1 := am (KeepBut.blk hk (g' := g1) (o := b2 0 0 24) (Z K1) N2.out (by simp)); replace HK := am (KeepBut.trans (qs5) hk (.inl rfl)); replace HB := am (hb); replace I1 := am (hi); (try clear hb); have := ns1 N2; have := cB2 K1))
  refine bodyPost_ret (results_cell_row rfl _ _ g1 24 #[.int .i64 t5, .int .i64 t5] (0, 0) _ rfl (by refine pf ?_; refine bp (ia2 t5 0) ?_ 1; refine pf ?_; refine bp (ia2 0 0) ?_ 0; exact Z K1) Try.underlying24 rfl (by kernel_rfl)) rfl ?_
  exact ⟨ez, qs4, qs6, qs5⟩
 rw [if_neg c2] at H
 have d3 := dF c2
 clear c2
 by_cases c3 : t3 < 7
 ·rw [if_pos c3] at H
  have d4 := dT c3
  clear c3
  obtain ⟨⟨t7, t8⟩, A3, H⟩ := bd H
  try dsimp only at H
  obtain ⟨⟨t9, t10⟩, A4, H⟩ := bd H
  try dsimp only at H
  obtain ⟨rfl, rfl, rfl⟩ := sj3 H
  go_enter Try.func101, Try.ntmps101
  go_wp2_with (first | ((with_reducible refine gate_dst (N := 2) rfl ?_); refine bx 2 #[.int .i64 0, .int .i64 0] 24 ?_; intro g1 hg w2 hbox hb; have K1 := am (hbox); have G1 := am ((by rw [hg]; exact (keep_size (w := w) (g := g) (row := none) (qs3)) : w.heap.size ≤ g1)); have G2 := am ((Nat.le_trans HW0.out (by rw [hg]; exact (keep_size (w := w) (g := g) (row := none) (qs3)) : w.heap.size ≤ g1) : w1.heap.size ≤ g1)); have N1 := am ((by rw [hg]; exact Nat.ne_of_lt (IsS99.lt (show IsS99 w1 _ g s0_0 s0_1 from qs2)) : g ≠ g1)); have N2 := am ((by rw [hg]; exact Nat.ne_of_gt (IsS99.lt (show IsS99 w1 _ g s0_0 s0_1 from qs2)) : g1 ≠ g)); replace HK := am (KeepBut.trans (qs3) (KeepBut.of_below hb g none) (.inl rfl)); replace HB := am (below_step (qs7) hb); replace I1 := am (IsS99.below (qs2) hb); clear hb hbox hg) | ((with_reducible refine gate_callee (f := 57) rfl ?_); refine goesL_ (some 7) rfl rfl Try.func57 (by kernel_rfl) rfl #[.pointer (some ⟨g, 0, none⟩), .int .i64 12] rfl mz ?_; (with_reducible refine (spec_l1Rd_pick.calls k g s0_0 s0_1 12 t3 t4 w1 _ ?side1 ?side2 A1.out).mono ?_); (case side1 => exact qs4); (case side2 => exact qs6); rintro e w3 ⟨rfl, hi, hb, hk⟩; refine ⟨_, rfl, ?_⟩; replace K1 := am (KeepBut.blk hk (g' := g1) (o := b2 0 0 24) (Z K1) N2.out (by simp)); replace HK := am (KeepBut.trans (qs5) hk (.inl rfl)); replace HB := am (hb); replace I1 := am (hi); (try clear hb)) | ((with_reducible refine gate_callee (f := 58) rfl ?_); refine goesL_ (some 12) rfl rfl Try.func58 (by kernel_rfl) rfl #[.pointer (some ⟨g, 0, none⟩)] rfl mz ?_; (with_reducible refine (spec_l1Rd_num.calls k g s0_0 t4 t5 t6 w1 _ ?side1 ?side2 A2.out).mono ?_); (case side1 => exact qs4); (case side2 => exact qs6); rintro e w4 ⟨rfl, hi, hb, hk⟩; refine ⟨_, rfl, ?_⟩; replace K1 := am (KeepBut.blk hk (g' := g1) (o := b2 0 0 24) (Z K1) N2.out (by simp)); replace HK := am (KeepBut.trans (qs5) hk (.inl rfl)); replace HB := am (hb); replace I1 := am (hi); (try clear hb)) | ((with_reducible refine gate_callee (f := 57) rfl ?_); refine goesL_ (some 23) rfl rfl Try.func57 (by kernel_rfl) rfl #[.pointer (some ⟨g, 0, none⟩), .int .i64 40] rfl mz ?_; (with_reducible refine (spec_l1Rd_pick.calls k g s0_0 t6 40 t7 t8 w1 _ ?side1 ?side2 A3.out).mono ?_); (case side1 => exact qs4); (case side2 => exact qs6); rintro e w5 ⟨rfl, hi, hb, hk⟩; refine ⟨_, rfl, ?_⟩; replace K1 := am (KeepBut.blk hk (g' := g1) (o := b2 0 0 24) (Z K1) N2.out (by simp)); replace HK := am (KeepBut.trans (qs5) hk (.inl rfl)); replace HB := am (hb); replace I1 := am (hi); (try clear hb)) | ((with_reducible refine gate_callee (f := 44) rfl ?_); refine gL 25 Try.func44 (spec_l8Cut.calls _ _ _ _ _ A4.out) fun w6 hb => ?_; replace K1 := bb K1 hb; replace HK := am (KeepBut.trans (qs5) (KeepBut.of_below hb g none) (.inl rfl)); replace HB := am (below_step (qs6) hb); replace I1 := am (IsS99.below (qs4) hb); (try clear hb); have := ns1 N2; have := cB2 K1))
  refine bodyPost_ret (results_cell_row rfl _ _ g1 24 #[.int .i64 t9, .int .i64 t10] (0, 0) _ rfl (by refine pf ?_; refine bp (ia2 t9 0) ?_ 1; refine pf ?_; refine bp (ia2 0 0) ?_ 0; exact Z K1) Try.underlying24 rfl (by kernel_rfl)) rfl ?_
  exact ⟨ez, qs4, qs6, qs5⟩
 rw [if_neg c3] at H
 have d4 := dF c3
 clear c3
 by_cases c4 : t3 = 7
 ·rw [if_pos c4] at H
  have d5 := eT c4
  have d6 := nF c4
  clear c4
  obtain ⟨rfl, rfl, rfl⟩ := sj3 H
  go_enter Try.func101, Try.ntmps101
  go_wp2_with (first | ((with_reducible refine gate_dst (N := 2) rfl ?_); refine bx 2 #[.int .i64 0, .int .i64 0] 24 ?_; intro g1 hg w2 hbox hb; have K1 := am (hbox); have G1 := am ((by rw [hg]; exact (keep_size (w := w) (g := g) (row := none) (qs3)) : w.heap.size ≤ g1)); have G2 := am ((Nat.le_trans HW0.out (by rw [hg]; exact (keep_size (w := w) (g := g) (row := none) (qs3)) : w.heap.size ≤ g1) : w1.heap.size ≤ g1)); have N1 := am ((by rw [hg]; exact Nat.ne_of_lt (IsS99.lt (show IsS99 w1 _ g s0_0 s0_1 from qs2)) : g ≠ g1)); have N2 := am ((by rw [hg]; exact Nat.ne_of_gt (IsS99.lt (show IsS99 w1 _ g s0_0 s0_1 from qs2)) : g1 ≠ g)); replace HK := am (KeepBut.trans (qs3) (KeepBut.of_below hb g none) (.inl rfl)); replace HB := am (below_step (qs7) hb); replace I1 := am (IsS99.below (qs2) hb); clear hb hbox hg) | ((with_reducible refine gate_callee (f := 57) rfl ?_); refine goesL_ (some 7) rfl rfl Try.func57 (by kernel_rfl) rfl #[.pointer (some ⟨g, 0, none⟩), .int .i64 12] rfl mz ?_; (with_reducible refine (spec_l1Rd_pick.calls k g s0_0 s0_1 12 t3 t4 w1 _ ?side1 ?side2 A1.out).mono ?_); (case side1 => exact qs4); (case side2 => exact qs6); rintro e w3 ⟨rfl, hi, hb, hk⟩; refine ⟨_, rfl, ?_⟩; replace K1 := am (KeepBut.blk hk (g' := g1) (o := b2 0 0 24) (Z K1) N2.out (by simp)); replace HK := am (KeepBut.trans (qs5) hk (.inl rfl)); replace HB := am (hb); replace I1 := am (hi); (try clear hb)) | ((with_reducible refine gate_callee (f := 58) rfl ?_); refine goesL_ (some 12) rfl rfl Try.func58 (by kernel_rfl) rfl #[.pointer (some ⟨g, 0, none⟩)] rfl mz ?_; (with_reducible refine (spec_l1Rd_num.calls k g s0_0 t4 t5 t6 w1 _ ?side1 ?side2 A2.out).mono ?_); (case side1 => exact qs4); (case side2 => exact qs6); rintro e w4 ⟨rfl, hi, hb, hk⟩; refine ⟨_, rfl, ?_⟩; replace K1 := am (KeepBut.blk hk (g' := g1) (o := b2 0 0 24) (Z K1) N2.out (by simp)); replace HK := am (KeepBut.trans (qs5) hk (.inl rfl)); replace HB := am (hb); replace I1 := am (hi); (try clear hb); have := ns1 N2; have := cB2 K1))
  refine bodyPost_ret (results_cell_row rfl _ _ g1 24 #[.int .i64 (-2147483648), .int .i64 2147483647] (0, 0) _ rfl (by refine pf ?_; refine bp (ia2 (-2147483648) 0) ?_ 1; refine pf ?_; refine bp (ia2 0 0) ?_ 0; exact Z K1) Try.underlying24 rfl (by kernel_rfl)) rfl ?_
  exact ⟨ez, qs4, qs6, qs5⟩
 rw [if_neg c4] at H
 have d5 := eF c4
 have d6 := nT c4
 obtain ⟨⟨t7, t8⟩, A3, H⟩ := bd H
 try dsimp only at H
 obtain ⟨t1, A4, H⟩ := bd H
 try dsimp only at H
 obtain ⟨t2, A5, H⟩ := bd H
 try dsimp only at H
 obtain ⟨⟨t9, t10⟩, A6, H⟩ := bd H
 try dsimp only at H
 obtain ⟨rfl, rfl, rfl⟩ := sj3 H
 go_enter Try.func101, Try.ntmps101
 go_wp2_with (first | ((with_reducible refine gate_dst (N := 2) rfl ?_); refine bx 2 #[.int .i64 0, .int .i64 0] 24 ?_; intro g1 hg w2 hbox hb; have K1 := am (hbox); have G1 := am ((by rw [hg]; exact (keep_size (w := w) (g := g) (row := none) (qs3)) : w.heap.size ≤ g1)); have G2 := am ((Nat.le_trans HW0.out (by rw [hg]; exact (keep_size (w := w) (g := g) (row := none) (qs3)) : w.heap.size ≤ g1) : w1.heap.size ≤ g1)); have N1 := am ((by rw [hg]; exact Nat.ne_of_lt (IsS99.lt (show IsS99 w1 _ g s0_0 s0_1 from qs2)) : g ≠ g1)); have N2 := am ((by rw [hg]; exact Nat.ne_of_gt (IsS99.lt (show IsS99 w1 _ g s0_0 s0_1 from qs2)) : g1 ≠ g)); replace HK := am (KeepBut.trans (qs3) (KeepBut.of_below hb g none) (.inl rfl)); replace HB := am (below_step (qs7) hb); replace I1 := am (IsS99.below (qs2) hb); clear hb hbox hg) | ((with_reducible refine gate_callee (f := 57) rfl ?_); refine goesL_ (some 7) rfl rfl Try.func57 (by kernel_rfl) rfl #[.pointer (some ⟨g, 0, none⟩), .int .i64 12] rfl mz ?_; (with_reducible refine (spec_l1Rd_pick.calls k g s0_0 s0_1 12 t3 t4 w1 _ ?side1 ?side2 A1.out).mono ?_); (case side1 => exact qs4); (case side2 => exact qs6); rintro e w3 ⟨rfl, hi, hb, hk⟩; refine ⟨_, rfl, ?_⟩; replace K1 := am (KeepBut.blk hk (g' := g1) (o := b2 0 0 24) (Z K1) N2.out (by simp)); replace HK := am (KeepBut.trans (qs5) hk (.inl rfl)); replace HB := am (hb); replace I1 := am (hi); (try clear hb)) | ((with_reducible refine gate_callee (f := 58) rfl ?_); refine goesL_ (some 12) rfl rfl Try.func58 (by kernel_rfl) rfl #[.pointer (some ⟨g, 0, none⟩)] rfl mz ?_; (with_reducible refine (spec_l1Rd_num.calls k g s0_0 t4 t5 t6 w1 _ ?side1 ?side2 A2.out).mono ?_); (case side1 => exact qs4); (case side2 => exact qs6); rintro e w4 ⟨rfl, hi, hb, hk⟩; refine ⟨_, rfl, ?_⟩; replace K1 := am (KeepBut.blk hk (g' := g1) (o := b2 0 0 24) (Z K1) N2.out (by simp)); replace HK := am (KeepBut.trans (qs5) hk (.inl rfl)); replace HB := am (hb); replace I1 := am (hi); (try clear hb)) | ((with_reducible refine gate_callee (f := 58) rfl ?_); refine goesL_ (some 30) rfl rfl Try.func58 (by kernel_rfl) rfl #[.pointer (some ⟨g, 0, none⟩)] rfl mz ?_; (with_reducible refine (spec_l1Rd_num.calls k g s0_0 t6 t7 t8 w1 _ ?side1 ?side2 A3.out).mono ?_); (case side1 => exact qs4); (case side2 => exact qs6); rintro e w5 ⟨rfl, hi, hb, hk⟩; refine ⟨_, rfl, ?_⟩; replace K1 := am (KeepBut.blk hk (g' := g1) (o := b2 0 0 24) (Z K1) N2.out (by simp)); replace HK := am (KeepBut.trans (qs5) hk (.inl rfl)); replace HB := am (hb); replace I1 := am (hi); (try clear hb)) | ((with_reducible refine gate_callee (f := 68) rfl ?_); refine goesL_ (some 33) rfl rfl Try.func68 (by kernel_rfl) rfl #[.int .i64 t5, .int .i64 t7] rfl mz ?_; (with_reducible refine (spec_l8Min.calls _ _ _ _ A4.out).mono ?_); rintro e w' ⟨rfl, ⟨nd, rfl⟩⟩; refine ⟨_, rfl, ?_⟩; (try (rw [drewN_self w5]; generalize hq_ : World.drewN w5 _ = w5; replace K1 : Bx2 w5 g1 0 0 24 := ⟨by rw [← hq_]; exact (Z K1)⟩; replace HK : Aside0 (KeepBut w w5 g none) := ⟨by rw [← hq_]; exact (qs5)⟩; replace HB : Aside0 (Below w1.heap.size w1 w5) := ⟨by rw [← hq_]; exact (qs6)⟩; replace I1 : Aside0 (IsS99 w1 w5 g s0_0 t8) := ⟨by rw [← hq_]; exact (qs4)⟩; clear hq_))) | ((with_reducible refine gate_callee (f := 69) rfl ?_); refine goesL_ (some 36) rfl rfl Try.func69 (by kernel_rfl) rfl #[.int .i64 t5, .int .i64 t7] rfl mz ?_; (with_reducible refine (spec_l8Max.calls _ _ _ _ A5.out).mono ?_); rintro e w' ⟨rfl, ⟨nd, rfl⟩⟩; refine ⟨_, rfl, ?_⟩; (try (rw [drewN_self w5]; generalize hq_ : World.drewN w5 _ = w5; replace K1 : Bx2 w5 g1 0 0 24 := ⟨by rw [← hq_]; exact (Z K1)⟩; replace HK : Aside0 (KeepBut w w5 g none) := ⟨by rw [← hq_]; exact (qs5)⟩; replace HB : Aside0 (Below w1.heap.size w1 w5) := ⟨by rw [← hq_]; exact (qs6)⟩; replace I1 : Aside0 (IsS99 w1 w5 g s0_0 t8) := ⟨by rw [← hq_]; exact (qs4)⟩; clear hq_))) | ((with_reducible refine gate_callee (f := 44) rfl ?_); refine gL 37 Try.func44 (spec_l8Cut.calls _ _ _ _ _ A6.out) fun w6 hb => ?_; replace K1 := bb K1 hb; replace HK := am (KeepBut.trans (qs5) (KeepBut.of_below hb g none) (.inl rfl)); replace HB := am (below_step (qs6) hb); replace I1 := am (IsS99.below (qs4) hb); (try clear hb); have := ns1 N2; have := cB2 K1))
 refine bodyPost_ret (results_cell_row rfl _ _ g1 24 #[.int .i64 t9, .int .i64 t10] (0, 0) _ rfl (by refine pf ?_; refine bp (ia2 t9 0) ?_ 1; refine pf ?_; refine bp (ia2 0 0) ?_ 0; exact Z K1) Try.underlying24 rfl (by kernel_rfl)) rfl ?_
 exact ⟨ez, qs4, qs6, qs5⟩

def spec_l9All.f  : Option (Int × Int) := some (1, 0)
set_option maxHeartbeats 8000000 in
set_option maxRecDepth 100000 in
theorem spec_l9All.calls  (r1 : Int) (r2 : Int) (w : World) (h : spec_l9All.f  = some (r1, r2)) :
  Calls Try.prog 104 #[] w fun e w' => e = .returned (.agg #[.int .i64 r1, .int .i64 r2]) ∧ Below w.heap.size w w' := by
 have hu86 := Try.underlying86
 have HB := am (Below.refl w.heap.size w)
 have H : (some (1, 0)) = some (r1, r2) := h
 clear h
 obtain ⟨rfl, rfl⟩ := sj2 H
 go_enter Try.func104, Try.ntmps104
 go_wp2_with (first | ((with_reducible refine gate_dst (N := 0) rfl ?_); refine bxn 0 #[.int .i64 0, .int .i64 0] 86 HB fun g1 w1 K1 G1 hg hb => ?_; replace HB := am (below_step (YA HB) hb); clear hb hg; have := cB2 K1))
 refine bodyPost_ret (results_cell_row rfl _ _ g1 86 #[.int .i64 1, .int .i64 0] (0, 0) _ rfl (by refine pf ?_; refine bp (ia2 1 0) ?_ 1; refine pf ?_; refine bp (ia2 0 0) ?_ 0; exact Z K1) Try.underlying86 rfl (by kernel_rfl)) rfl ?_
 exact ⟨ez, YA HB⟩

def spec_l9Rest.f (k : Nat) (s0_0 : List Int) (s0_1 : Int) : Option (Int × Int × Int) := (spec_l1Rd_pick.f k s0_0 s0_1 8).bind fun u1 => (if u1.1 < 2 then ((spec_l1Rd_num.f k s0_0 u1.2).bind fun u2 => (some (0, u2.1, u2.2))) else (if u1.1 = 2 then ((spec_l9All.f).bind fun u3 => (some (u3.1, u3.2, u1.2))) else ((spec_l1Rd_pick.f k s0_0 u1.2 24).bind fun u4 => (if u1.1 = 3 then ((some (([64, 4096, 65536, 65535, 32768, 60000] : List Int) : List Int)).bind fun y1 => ((spec_l1Rd_pick.f k s0_0 u4.2 6).bind fun u5 => (if 0 ≤ u5.1 then (if u5.1 < (y1.length : Int) then ((spec_l1Rd_pick.f k s0_0 u5.2 256).bind fun u6 => ((spec_l1Rd_pick.f k s0_0 u6.2 256).bind fun u7 => (if (rd y1 u5.1) = 0 then (none) else (some (rd y1 u5.1, Int.tmod (wrap64 ((wrap64 (u6.1 * 256)) + u7.1)) (rd y1 u5.1), u7.2))))) else (none)) else (none)))) else ((spec_l1Rd_pick.f k s0_0 u4.2 256).bind fun u8 => ((spec_l1Rd_pick.f k s0_0 u8.2 256).bind fun u9 => (if (wrap64 (1 + u4.1)) = 0 then (none) else (some (wrap64 (1 + u4.1), Int.tmod (wrap64 ((wrap64 (u8.1 * 256)) + u9.1)) (wrap64 (1 + u4.1)), u9.2)))))))))
theorem spec_l9Rest.mono : ∀ a0 a1 k, LeO (spec_l9Rest.f k a0 a1) (spec_l9Rest.f (k + 1) a0 a1) := by
 intro a0 a1 k
 unfold spec_l9Rest.f
 repeat' first | (with_reducible first | apply spec_l1Rd_num.mono | apply spec_l1Rd_pick.mono | apply LeO.refl | apply LeO.none | refine LeO.ite ?_ ?_ | refine LeO.bind ?_ (fun _ => ?_)) | apply spec_l1Rd_num.mono | apply spec_l1Rd_pick.mono | apply LeO.none | refine LeO.ite ?_ ?_ | refine LeO.bind ?_ (fun _ => ?_)
set_option maxHeartbeats 8000000 in
set_option maxRecDepth 100000 in
theorem spec_l9Rest.calls (k : Nat) (g : Nat) (s0_0 : List Int) (s0_1 : Int) (r1 : Int) (r2 : Int) (r3 : Int) (w1 w : World) (hI : IsS99 w1 w g s0_0 s0_1) (hB : Below w1.heap.size w1 w) (h : spec_l9Rest.f k s0_0 s0_1 = some (r1, r2, r3)) :
  Calls Try.prog 115 #[.pointer (some ⟨g, 0, none⟩)] w fun e w' => e = .returned (.agg #[.int .i64 r1, .int .i64 r2]) ∧ IsS99 w1 w' g s0_0 r3 ∧ Below w1.heap.size w1 w' ∧ KeepBut w w' g none := by
 have hu86 := Try.underlying86
 have I1 := am hI
 have HK := am (KeepBut.refl w g none)
 have HL := am hB.size
 clear hI
 have HW0 := am hB.size
 have HB := am hB
 clear hB
 have H : ((spec_l1Rd_pick.f k s0_0 s0_1 8).bind fun u1 => (if u1.1 < 2 then ((spec_l1Rd_num.f k s0_0 u1.2).bind fun u2 => (some (0, u2.1, u2.2))) else (if u1.1 = 2 then ((spec_l9All.f).bind fun u3 => (some (u3.1, u3.2, u1.2))) else ((spec_l1Rd_pick.f k s0_0 u1.2 24).bind fun u4 => (if u1.1 = 3 then ((some (([64, 4096, 65536, 65535, 32768, 60000] : List Int) : List Int)).bind fun y1 => ((spec_l1Rd_pick.f k s0_0 u4.2 6).bind fun u5 => (if 0 ≤ u5.1 then (if u5.1 < (y1.length : Int) then ((spec_l1Rd_pick.f k s0_0 u5.2 256).bind fun u6 => ((spec_l1Rd_pick.f k s0_0 u6.2 256).bind fun u7 => (if (rd y1 u5.1) = 0 then (none) else (some (rd y1 u5.1, Int.tmod (wrap64 ((wrap64 (u6.1 * 256)) + u7.1)) (rd y1 u5.1), u7.2))))) else (none)) else (none)))) else ((spec_l1Rd_pick.f k s0_0 u4.2 256).bind fun u8 => ((spec_l1Rd_pick.f k s0_0 u8.2 256).bind fun u9 => (if (wrap64 (1 + u4.1)) = 0 then (none) else (some (wrap64 (1 + u4.1), Int.tmod (wrap64 ((wrap64 (u8.1 * 256)) + u9.1)) (wrap64 (1 + u4.1)), u9.2)))))))))) = some (r1, r2, r3) := h
 clear h
 obtain ⟨⟨t1, t2⟩, A1, H⟩ := bd H
 try dsimp only at H
 by_cases c1 : t1 < 2
 ·rw [if_pos c1] at H
  have d1 := dT c1
  clear c1
  obtain ⟨⟨t3, t4⟩, A2, H⟩ := bd H
  try dsimp only at H
  obtain ⟨rfl, rfl, rfl⟩ := sj3 H
  go_enter Try.func115, Try.ntmps115
  go_wp2_with (first | ((with_reducible refine gate_dst (N := 2) rfl ?_); refine bx 2 #[.int .i64 0, .int .i64 0] 86 ?_; intro g1 hg w2 hbox hb; have K1 := am (hbox); have G1 := am ((by rw [hg]; exact (keep_size (w := w) (g := g) (row := none) (qs3)) : w.heap.size ≤ g1)); have G2 := am ((Nat.le_trans HW0.out (by rw [hg]; exact (keep_size (w := w) (g := g) (row := none) (qs3)) : w.heap.size ≤ g1) : w1.heap.size ≤ g1)); have N1 := am ((by rw [hg]; exact Nat.ne_of_lt (IsS99.lt (show IsS99 w1 _ g s0_0 s0_1 from qs2)) : g ≠ g1)); have N2 := am ((by rw [hg]; exact Nat.ne_of_gt (IsS99.lt (show IsS99 w1 _ g s0_0 s0_1 from qs2)) : g1 ≠ g)); replace HK := am (KeepBut.trans (qs3) (KeepBut.of_below hb g none) (.inl rfl)); replace HB := am (below_step (qs7) hb); replace I1 := am (IsS99.below (qs2) hb); clear hb hbox hg) | ((with_reducible refine gate_callee (f := 57) rfl ?_); refine goesL_ (some 6) rfl rfl Try.func57 (by kernel_rfl) rfl #[.pointer (some ⟨g, 0, none⟩), .int .i64 8] rfl mz ?_; (with_reducible refine (spec_l1Rd_pick.calls k g s0_0 s0_1 8 t1 t2 w1 _ ?side1 ?side2 A1.out).mono ?_); (case side1 => exact qs4); (case side2 => exact qs6); rintro e w3 ⟨rfl, hi, hb, hk⟩; refine ⟨_, rfl, ?_⟩; replace K1 := am (KeepBut.blk hk (g' := g1) (o := b2 0 0 86) (Z K1) N2.out (by simp)); replace HK := am (KeepBut.trans (qs5) hk (.inl rfl)); replace HB := am (hb); replace I1 := am (hi); (try clear hb)) | ((with_reducible refine gate_callee (f := 58) rfl ?_); refine goesL_ (some 10) rfl rfl Try.func58 (by kernel_rfl) rfl #[.pointer (some ⟨g, 0, none⟩)] rfl mz ?_; (with_reducible refine (spec_l1Rd_num.calls k g s0_0 t2 t3 t4 w1 _ ?side1 ?side2 A2.out).mono ?_); (case side1 => exact qs4); (case side2 => exact qs6); rintro e w4 ⟨rfl, hi, hb, hk⟩; refine ⟨_, rfl, ?_⟩; replace K1 := am (KeepBut.blk hk (g' := g1) (o := b2 0 0 86) (Z K1) N2.out (by simp)); replace HK := am (KeepBut.trans (qs5) hk (.inl rfl)); replace HB := am (hb); replace I1 := am (hi); (try clear hb); have := ns1 N2; have := cB2 K1))
  refine bodyPost_ret (results_cell_row rfl _ _ g1 86 #[.int .i64 0, .int .i64 t3] (0, 0) _ rfl (by refine pf ?_; refine bp (ia2 0 0) ?_ 1; refine pf ?_; refine bp (ia2 0 0) ?_ 0; exact Z K1) Try.underlying86 rfl (by kernel_rfl)) rfl ?_
  exact ⟨ez, qs4, qs6, qs5⟩
 rw [if_neg c1] at H
 have d1 := dF c1
 clear c1
 by_cases c2 : t1 = 2
 ·rw [if_pos c2] at H
  have d2 := eT c2
  have d3 := nF c2
  clear c2
  obtain ⟨⟨t3, t4⟩, A2, H⟩ := bd H
  try dsimp only at H
  obtain ⟨rfl, rfl, rfl⟩ := sj3 H
  go_enter Try.func115, Try.ntmps115
  go_wp2_with (first | ((with_reducible refine gate_dst (N := 2) rfl ?_); refine bx 2 #[.int .i64 0, .int .i64 0] 86 ?_; intro g1 hg w2 hbox hb; have K1 := am (hbox); have G1 := am ((by rw [hg]; exact (keep_size (w := w) (g := g) (row := none) (qs3)) : w.heap.size ≤ g1)); have G2 := am ((Nat.le_trans HW0.out (by rw [hg]; exact (keep_size (w := w) (g := g) (row := none) (qs3)) : w.heap.size ≤ g1) : w1.heap.size ≤ g1)); have N1 := am ((by rw [hg]; exact Nat.ne_of_lt (IsS99.lt (show IsS99 w1 _ g s0_0 s0_1 from qs2)) : g ≠ g1)); have N2 := am ((by rw [hg]; exact Nat.ne_of_gt (IsS99.lt (show IsS99 w1 _ g s0_0 s0_1 from qs2)) : g1 ≠ g)); replace HK := am (KeepBut.trans (qs3) (KeepBut.of_below hb g none) (.inl rfl)); replace HB := am (below_step (qs7) hb); replace I1 := am (IsS99.below (qs2) hb); clear hb hbox hg) | ((with_reducible refine gate_callee (f := 57) rfl ?_); refine goesL_ (some 6) rfl rfl Try.func57 (by kernel_rfl) rfl #[.pointer (some ⟨g, 0, none⟩), .int .i64 8] rfl mz ?_; (with_reducible refine (spec_l1Rd_pick.calls k g s0_0 s0_1 8 t1 t2 w1 _ ?side1 ?side2 A1.out).mono ?_); (case side1 => exact qs4); (case side2 => exact qs6); rintro e w3 ⟨rfl, hi, hb, hk⟩; refine ⟨_, rfl, ?_⟩; replace K1 := am (KeepBut.blk hk (g' := g1) (o := b2 0 0 86) (Z K1) N2.out (by simp)); replace HK := am (KeepBut.trans (qs5) hk (.inl rfl)); replace HB := am (hb); replace I1 := am (hi); (try clear hb)) | ((with_reducible refine gate_callee (f := 104) rfl ?_); refine gL 14 Try.func104 (spec_l9All.calls _ _ _ A2.out) fun w4 hb => ?_; replace K1 := bb K1 hb; replace HK := am (KeepBut.trans (qs5) (KeepBut.of_below hb g none) (.inl rfl)); replace HB := am (below_step (qs6) hb); replace I1 := am (IsS99.below (qs4) hb); (try clear hb); have := ns1 N2; have := cB2 K1))
  refine bodyPost_ret (results_cell_row rfl _ _ g1 86 #[.int .i64 t3, .int .i64 t4] (0, 0) _ rfl (by refine pf ?_; refine bp (ia2 t3 0) ?_ 1; refine pf ?_; refine bp (ia2 0 0) ?_ 0; exact Z K1) Try.underlying86 rfl (by kernel_rfl)) rfl ?_
  exact ⟨ez, qs4, qs6, qs5⟩
 rw [if_neg c2] at H
 have d2 := eF c2
 have d3 := nT c2
 obtain ⟨⟨t3, t4⟩, A2, H⟩ := bd H
 try dsimp only at H
 by_cases c3 : t1 = 3
 rotate_left
 ·rw [if_neg c3] at H
  have d4 := eF c3
  have d5 := nT c3
  obtain ⟨⟨t5, t6⟩, A3, H⟩ := bd H
  try dsimp only at H
  obtain ⟨⟨t7, t8⟩, A4, H⟩ := bd H
  try dsimp only at H
  by_cases c4 : (wrap64 (1 + t3)) = 0
  ·rw [if_pos c4] at H
   exact absurd H (by simp)
  rw [if_neg c4] at H
  have d6 := eF c4
  have d7 := nT c4
  obtain ⟨rfl, rfl, rfl⟩ := sj3 H
  go_enter Try.func115, Try.ntmps115
  go_wp2_with (first | ((with_reducible refine gate_dst (N := 2) rfl ?_); refine bx 2 #[.int .i64 0, .int .i64 0] 86 ?_; intro g1 hg w2 hbox hb; have K1 := am (hbox); have G1 := am ((by rw [hg]; exact (keep_size (w := w) (g := g) (row := none) (qs3)) : w.heap.size ≤ g1)); have G2 := am ((Nat.le_trans HW0.out (by rw [hg]; exact (keep_size (w := w) (g := g) (row := none) (qs3)) : w.heap.size ≤ g1) : w1.heap.size ≤ g1)); have N1 := am ((by rw [hg]; exact Nat.ne_of_lt (IsS99.lt (show IsS99 w1 _ g s0_0 s0_1 from qs2)) : g ≠ g1)); have N2 := am ((by rw [hg]; exact Nat.ne_of_gt (IsS99.lt (show IsS99 w1 _ g s0_0 s0_1 from qs2)) : g1 ≠ g)); replace HK := am (KeepBut.trans (qs3) (KeepBut.of_below hb g none) (.inl rfl)); replace HB := am (below_step (qs7) hb); replace I1 := am (IsS99.below (qs2) hb); clear hb hbox hg) | ((with_reducible refine gate_callee (f := 57) rfl ?_); refine goesL_ (some 6) rfl rfl Try.func57 (by kernel_rfl) rfl #[.pointer (some ⟨g, 0, none⟩), .int .i64 8] rfl mz ?_; (with_reducible refine (spec_l1Rd_pick.calls k g s0_0 s0_1 8 t1 t2 w1 _ ?side1 ?side2 A1.out).mono ?_); (case side1 => exact qs4); (case side2 => exact qs6); rintro e w3 ⟨rfl, hi, hb, hk⟩; refine ⟨_, rfl, ?_⟩; replace K1 := am (KeepBut.blk hk (g' := g1) (o := b2 0 0 86) (Z K1) N2.out (by simp)); replace HK := am (KeepBut.trans (qs5) hk (.inl rfl)); replace HB := am (hb); replace I1 := am (hi); (try clear hb)) | ((with_reducible refine gate_callee (f := 57) rfl ?_); refine goesL_ (some 16) rfl rfl Try.func57 (by kernel_rfl) rfl #[.pointer (some ⟨g, 0, none⟩), .int .i64 24] rfl mz ?_; (with_reducible refine (spec_l1Rd_pick.calls k g s0_0 t2 24 t3 t4 w1 _ ?side1 ?side2 A2.out).mono ?_); (case side1 => exact qs4); (case side2 => exact qs6); rintro e w4 ⟨rfl, hi, hb, hk⟩; refine ⟨_, rfl, ?_⟩; replace K1 := am (KeepBut.blk hk (g' := g1) (o := b2 0 0 86) (Z K1) N2.out (by simp)); replace HK := am (KeepBut.trans (qs5) hk (.inl rfl)); replace HB := am (hb); replace I1 := am (hi); (try clear hb)) | ((with_reducible refine gate_callee (f := 57) rfl ?_); refine goesL_ (some 27) rfl rfl Try.func57 (by kernel_rfl) rfl #[.pointer (some ⟨g, 0, none⟩), .int .i64 256] rfl mz ?_; (with_reducible refine (spec_l1Rd_pick.calls k g s0_0 t4 256 t5 t6 w1 _ ?side1 ?side2 A3.out).mono ?_); (case side1 => exact qs4); (case side2 => exact qs6); rintro e w5 ⟨rfl, hi, hb, hk⟩; refine ⟨_, rfl, ?_⟩; replace K1 := am (KeepBut.blk hk (g' := g1) (o := b2 0 0 86) (Z K1) N2.out (by simp)); replace HK := am (KeepBut.trans (qs5) hk (.inl rfl)); replace HB := am (hb); replace I1 := am (hi); (try clear hb)) | ((with_reducible refine gate_callee (f := 57) rfl ?_); refine goesL_ (some 30) rfl rfl Try.func57 (by kernel_rfl) rfl #[.pointer (some ⟨g, 0, none⟩), .int .i64 256] rfl mz ?_; (with_reducible refine (spec_l1Rd_pick.calls k g s0_0 t6 256 t7 t8 w1 _ ?side1 ?side2 A4.out).mono ?_); (case side1 => exact qs4); (case side2 => exact qs6); rintro e w6 ⟨rfl, hi, hb, hk⟩; refine ⟨_, rfl, ?_⟩; replace K1 := am (KeepBut.blk hk (g' := g1) (o := b2 0 0 86) (Z K1) N2.out (by simp)); replace HK := am (KeepBut.trans (qs5) hk (.inl rfl)); replace HB := am (hb); replace I1 := am (hi); (try clear hb); have := ns1 N2; have := cB2 K1))
  refine bodyPost_ret (results_cell_row rfl _ _ g1 86 #[.int .i64 (wrap64 (1 + t3)), .int .i64 (Int.tmod (wrap64 ((wrap64 (t5 * 256)) + t7)) (wrap64 (1 + t3)))] (0, 0) _ rfl (by refine pf ?_; refine bp (ia2 (wrap64 (1 + t3)) 0) ?_ 1; refine pf ?_; refine bp (ia2 0 0) ?_ 0; exact Z K1) Try.underlying86 rfl (by kernel_rfl)) rfl ?_
  exact ⟨ez, qs4, qs6, qs5⟩
 rw [if_pos c3] at H
 have d4 := eT c3
 have d5 := nF c3
 clear c3
 obtain ⟨y1, y2⟩ : ∃ y_ : List Int, y_ = (([64, 4096, 65536, 65535, 32768, 60000] : List Int)) := ⟨_, rfl⟩
 replace H : ((spec_l1Rd_pick.f k s0_0 t4 6).bind fun u5 => (if 0 ≤ u5.1 then (if u5.1 < (y1.length : Int) then ((spec_l1Rd_pick.f k s0_0 u5.2 256).bind fun u6 => ((spec_l1Rd_pick.f k s0_0 u6.2 256).bind fun u7 => (if (rd y1 u5.1) = 0 then (none) else (some (rd y1 u5.1, Int.tmod (wrap64 ((wrap64 (u6.1 * 256)) + u7.1)) (rd y1 u5.1), u7.2))))) else (none)) else (none))) = some (r1, r2, r3) := by first | (rw [y2]; with_reducible exact H) | (have H2_ := (Option.bind_some _ _).symm.trans H; rw [y2]; with_reducible exact H2_) | (have H2_ := (Option.bind_some _ _).symm.trans H; with_reducible exact H2_) | with_reducible exact H | (rw [y2]; exact H) | exact H
 have Y25 := am y2
 clear y2
 obtain ⟨⟨t5, t6⟩, A3, H⟩ := bd H
 try dsimp only at H
 by_cases c4 : 0 ≤ t5
 rotate_left
 ·rw [if_neg c4] at H
  exact absurd H (by simp)
 rw [if_pos c4] at H
 have d6 := dT c4
 clear c4
 by_cases c5 : t5 < (y1.length : Int)
 rotate_left
 ·rw [if_neg c5] at H
  exact absurd H (by simp)
 rw [if_pos c5] at H
 have d7 := dT c5
 clear c5
 obtain ⟨⟨t7, t8⟩, A4, H⟩ := bd H
 try dsimp only at H
 obtain ⟨⟨t9, t10⟩, A5, H⟩ := bd H
 try dsimp only at H
 by_cases c6 : (rd y1 t5) = 0
 ·rw [if_pos c6] at H
  exact absurd H (by simp)
 rw [if_neg c6] at H
 have d8 := eF c6
 have d9 := nT c6
 obtain ⟨rfl, rfl, rfl⟩ := sj3 H
 go_enter Try.func115, Try.ntmps115
 go_wp2_with (first | ((with_reducible refine gate_dst (N := 2) rfl ?_); refine bx 2 #[.int .i64 0, .int .i64 0] 86 ?_; intro g1 hg w2 hbox hb; have K1 := am (hbox); have G1 := am ((by rw [hg]; exact (keep_size (w := w) (g := g) (row := none) (qs3)) : w.heap.size ≤ g1)); have G2 := am ((Nat.le_trans HW0.out (by rw [hg]; exact (keep_size (w := w) (g := g) (row := none) (qs3)) : w.heap.size ≤ g1) : w1.heap.size ≤ g1)); have N1 := am ((by rw [hg]; exact Nat.ne_of_lt (IsS99.lt (show IsS99 w1 _ g s0_0 s0_1 from qs2)) : g ≠ g1)); have N2 := am ((by rw [hg]; exact Nat.ne_of_gt (IsS99.lt (show IsS99 w1 _ g s0_0 s0_1 from qs2)) : g1 ≠ g)); replace HK := am (KeepBut.trans (qs3) (KeepBut.of_below hb g none) (.inl rfl)); replace HB := am (below_step (qs7) hb); replace I1 := am (IsS99.below (qs2) hb); clear hb hbox hg) | ((with_reducible refine gate_callee (f := 57) rfl ?_); refine goesL_ (some 6) rfl rfl Try.func57 (by kernel_rfl) rfl #[.pointer (some ⟨g, 0, none⟩), .int .i64 8] rfl mz ?_; (with_reducible refine (spec_l1Rd_pick.calls k g s0_0 s0_1 8 t1 t2 w1 _ ?side1 ?side2 A1.out).mono ?_); (case side1 => exact qs4); (case side2 => exact qs6); rintro e w3 ⟨rfl, hi, hb, hk⟩; refine ⟨_, rfl, ?_⟩; replace K1 := am (KeepBut.blk hk (g' := g1) (o := b2 0 0 86) (Z K1) N2.out (by simp)); replace HK := am (KeepBut.trans (qs5) hk (.inl rfl)); replace HB := am (hb); replace I1 := am (hi); (try clear hb)) | ((with_reducible refine gate_callee (f := 57) rfl ?_); refine goesL_ (some 16) rfl rfl Try.func57 (by kernel_rfl) rfl #[.pointer (some ⟨g, 0, none⟩), .int .i64 24] rfl mz ?_; (with_reducible refine (spec_l1Rd_pick.calls k g s0_0 t2 24 t3 t4 w1 _ ?side1 ?side2 A2.out).mono ?_); (case side1 => exact qs4); (case side2 => exact qs6); rintro e w4 ⟨rfl, hi, hb, hk⟩; refine ⟨_, rfl, ?_⟩; replace K1 := am (KeepBut.blk hk (g' := g1) (o := b2 0 0 86) (Z K1) N2.out (by simp)); replace HK := am (KeepBut.trans (qs5) hk (.inl rfl)); replace HB := am (hb); replace I1 := am (hi); (try clear hb)) | ((with_reducible refine gate_dst (N := 20) rfl ?_); refine Kd.R_lit (Kd.int .i64) _ 3 ?hg (N := 20) ?hd (xs := ([64, 4096, 65536, 65535, 32768, 60000] : List Int)) (inner := [.int .i64 64, .int .i64 4096, .int .i64 65536, .int .i64 65535, .int .i64 32768, .int .i64 60000]) (ok := fun _ => True) (okp := fun _ => True) ?hr ?hp (fun _ hk => hk) trivial (Below.refl _ _) (Nat.le_refl _) (by simp) ?_; (case hd => rfl); (case hg => rfl); (case hr => first | (go_simp; done) | (go_simp; rfl)); (case hp => exact (Reps.one (show Kd.M (Kd.int .i64) _ _ _ 64 [.int .i64 64] from rfl) (Reps.one (show Kd.M (Kd.int .i64) _ _ _ 4096 [.int .i64 4096] from rfl) (Reps.one (show Kd.M (Kd.int .i64) _ _ _ 65536 [.int .i64 65536] from rfl) (Reps.one (show Kd.M (Kd.int .i64) _ _ _ 65535 [.int .i64 65535] from rfl) (Reps.one (show Kd.M (Kd.int .i64) _ _ _ 32768 [.int .i64 32768] from rfl) (Reps.one (show Kd.M (Kd.int .i64) _ _ _ 60000 [.int .i64 60000] from rfl) (Reps.none _ _)))))))); intro v1 w5 o1 hb hg_ hnew_; clear hg_ hnew_; (first | rw [← Y25.out] at o1 | (simp only [Int.reduceToNat] at o1; rw [← Y25.out] at o1)); have O1 := am (Kd.R_lower o1 (keep_size (w := w) (g := g) (row := none) (qs5))); replace K1 := bb K1 hb; replace HK := am (KeepBut.trans (qs5) (KeepBut.of_below hb g none) (.inl rfl)); replace HB := am (below_step (qs6) hb); replace I1 := am (IsS99.below (qs4) hb); clear hb o1) | ((with_reducible refine gate_callee (f := 57) rfl ?_); refine goesL_ (some 22) rfl rfl Try.func57 (by kernel_rfl) rfl #[.pointer (some ⟨g, 0, none⟩), .int .i64 6] rfl mz ?_; (with_reducible refine (spec_l1Rd_pick.calls k g s0_0 t4 6 t5 t6 w1 _ ?side1 ?side2 A3.out).mono ?_); (case side1 => exact qs4); (case side2 => exact qs6); rintro e w6 ⟨rfl, hi, hb, hk⟩; refine ⟨_, rfl, ?_⟩; replace K1 := am (KeepBut.blk hk (g' := g1) (o := b2 0 0 86) (Z K1) N2.out (by simp)); replace O1 := am (Kd.R_mono (Kd.R_keep (IsS99.apart (show IsS99 w1 _ g s0_0 t4 from qs4) (RZ O1) (by decide)) hk (fun _ h => h.2)) (fun _ h => h.1)); replace HK := am (KeepBut.trans (qs5) hk (.inl rfl)); replace HB := am (hb); replace I1 := am (hi); (try clear hb); obtain ⟨q1, f1, e1⟩ := Kd.R_slice O1.out; subst e1; have p582 : 0 ≤ (t5 : Int) := oz; have q582 : t5 < (y1.length : Int) := oz; obtain ⟨ad582, e582, hx582_0⟩ := Kd.at_int (Kd.R_reads' O1.out).2.2 t5 p582 q582; cases e582; replace p582 := eq_true p582; replace q582 := eq_true q582) | ((with_reducible refine gate_callee (f := 57) rfl ?_); refine goesL_ (some 27) rfl rfl Try.func57 (by kernel_rfl) rfl #[.pointer (some ⟨g, 0, none⟩), .int .i64 256] rfl mz ?_; (with_reducible refine (spec_l1Rd_pick.calls k g s0_0 t6 256 t7 t8 w1 _ ?side1 ?side2 A4.out).mono ?_); (case side1 => exact qs4); (case side2 => exact qs6); rintro e w7 ⟨rfl, hi, hb, hk⟩; refine ⟨_, rfl, ?_⟩; replace K1 := am (KeepBut.blk hk (g' := g1) (o := b2 0 0 86) (Z K1) N2.out (by simp)); replace O1 := am (Kd.R_mono (Kd.R_keep (IsS99.apart (show IsS99 w1 _ g s0_0 t6 from qs4) (RZ O1) (by decide)) hk (fun _ h => h.2)) (fun _ h => h.1)); replace HK := am (KeepBut.trans (qs5) hk (.inl rfl)); replace HB := am (hb); replace I1 := am (hi); (try clear hb)) | ((with_reducible refine gate_callee (f := 57) rfl ?_); refine goesL_ (some 30) rfl rfl Try.func57 (by kernel_rfl) rfl #[.pointer (some ⟨g, 0, none⟩), .int .i64 256] rfl mz ?_; (with_reducible refine (spec_l1Rd_pick.calls k g s0_0 t8 256 t9 t10 w1 _ ?side1 ?side2 A5.out).mono ?_); (case side1 => exact qs4); (case side2 => exact qs6); rintro e w8 ⟨rfl, hi, hb, hk⟩; refine ⟨_, rfl, ?_⟩; replace K1 := am (KeepBut.blk hk (g' := g1) (o := b2 0 0 86) (Z K1) N2.out (by simp)); replace O1 := am (Kd.R_mono (Kd.R_keep (IsS99.apart (show IsS99 w1 _ g s0_0 t8 from qs4) (RZ O1) (by decide)) hk (fun _ h => h.2)) (fun _ h => h.1)); replace HK := am (KeepBut.trans (qs5) hk (.inl rfl)); replace HB := am (hb); replace I1 := am (hi); (try clear hb); have := ns1 N2; have := cB2 K1))
 refine bodyPost_ret (results_cell_row rfl _ _ g1 86 #[.int .i64 (rd y1 t5), .int .i64 (Int.tmod (wrap64 ((wrap64 (t7 * 256)) + t9)) (rd y1 t5))] (0, 0) _ rfl (by refine pf ?_; refine bp (ia2 (rd y1 t5) 0) ?_ 1; refine pf ?_; refine bp (ia2 0 0) ?_ 0; exact Z K1) Try.underlying86 rfl (by kernel_rfl)) rfl ?_
 exact ⟨ez, qs4, qs6, qs5⟩
end
section
attribute [local go_sem] max2_int min2_int max_two min_two max_three min_three max_four min_four
attribute [local go_sem] Go.Proofs.YthbkakcchgnhpaaSet.isSome_setCell
def spec_l10Val.f (k : Nat) (s0_0 : List Int) (s0_1 : Int) : Option (Int × Int × Int × Int × Int) := (spec_l8Range.f k s0_0 s0_1).bind fun u1 => ((spec_l1Rd_pick.f k s0_0 u1.2.2 2).bind fun u2 => (if u2.1 = 0 then ((spec_l9All.f).bind fun u3 => ((spec_ValMake.f k u1.1 u1.2.1 u3.1 u3.2).bind fun u4 => (some (u4.1, u4.2.1, u4.2.2.1, u4.2.2.2, u2.2)))) else ((spec_l9Rest.f k s0_0 u2.2).bind fun u5 => ((spec_ValMake.f k u1.1 u1.2.1 u5.1 u5.2.1).bind fun u6 => (some (u6.1, u6.2.1, u6.2.2.1, u6.2.2.2, u5.2.2))))))
theorem spec_l10Val.mono : ∀ a0 a1 k, LeO (spec_l10Val.f k a0 a1) (spec_l10Val.f (k + 1) a0 a1) := by
 intro a0 a1 k
 unfold spec_l10Val.f
 repeat' first | (with_reducible first | apply spec_ValMake.mono | apply spec_l1Rd_pick.mono | apply spec_l8Range.mono | apply spec_l9Rest.mono | apply LeO.refl | apply LeO.none | refine LeO.ite ?_ ?_ | refine LeO.bind ?_ (fun _ => ?_)) | apply spec_ValMake.mono | apply spec_l1Rd_pick.mono | apply spec_l8Range.mono | apply spec_l9Rest.mono | apply LeO.none | refine LeO.ite ?_ ?_ | refine LeO.bind ?_ (fun _ => ?_)
set_option maxHeartbeats 8000000 in
set_option maxRecDepth 100000 in
theorem spec_l10Val.calls (k : Nat) (g : Nat) (s0_0 : List Int) (s0_1 : Int) (r1 : Int) (r2 : Int) (r3 : Int) (r4 : Int) (r5 : Int) (w2 w : World) (hI : IsS99 w2 w g s0_0 s0_1) (hB : Below w2.heap.size w2 w) (h : spec_l10Val.f k s0_0 s0_1 = some (r1, r2, r3, r4, r5)) :
  Calls Try.prog 118 #[.pointer (some ⟨g, 0, none⟩)] w fun e w' => e = .returned (.agg #[.int .i64 r1, .int .i64 r2, .int .i64 r3, .int .i64 r4]) ∧ IsS99 w2 w' g s0_0 r5 ∧ Below w2.heap.size w2 w' ∧ KeepBut w w' g none := by
 have hu50 := Try.underlying50
 have hu24 := Try.underlying24
 have I1 := am hI
 have HK := am (KeepBut.refl w g none)
 have HL := am hB.size
 clear hI
 have HW0 := am hB.size
 have HB := am hB
 clear hB
 have H : ((spec_l8Range.f k s0_0 s0_1).bind fun u1 => ((spec_l1Rd_pick.f k s0_0 u1.2.2 2).bind fun u2 => (if u2.1 = 0 then ((spec_l9All.f).bind fun u3 => ((spec_ValMake.f k u1.1 u1.2.1 u3.1 u3.2).bind fun u4 => (some (u4.1, u4.2.1, u4.2.2.1, u4.2.2.2, u2.2)))) else ((spec_l9Rest.f k s0_0 u2.2).bind fun u5 => ((spec_ValMake.f k u1.1 u1.2.1 u5.1 u5.2.1).bind fun u6 => (some (u6.1, u6.2.1, u6.2.2.1, u6.2.2.2, u5.2.2))))))) = some (r1, r2, r3, r4, r5) := h
 clear h
 obtain ⟨⟨t1, t2, t3⟩, A1, H⟩ := bd H
 try dsimp only at H
 obtain ⟨⟨t4, t5⟩, A2, H⟩ := bd H
 try dsimp only at H
 by_cases c1 : t4 = 0
 ·rw [if_pos c1] at H
  have d1 := eT c1
  have d2 := nF c1
  clear c1
  obtain ⟨⟨t6, t7⟩, A3, H⟩ := bd H
  try dsimp only at H
  obtain ⟨⟨t8, t9, t10, t11⟩, A4, H⟩ := bd H
  try dsimp only at H
  obtain ⟨rfl, rfl, rfl, rfl, rfl⟩ := sj5 H
  go_enter Try.func118, Try.ntmps118
  try go_wp2_with (first | ((with_reducible refine gate_dst (N := 2) rfl ?_); refine bx 2 #[.int .i64 0, .int .i64 0, .int .i64 0, .int .i64 0] 50 ?_; intro g1 hg w3 hbox hb; have K1 := am (hbox); have G1 := am ((by rw [hg]; exact (keep_size (w := w) (g := g) (row := none) (qs3)) : w.heap.size ≤ g1)); have G2 := am ((Nat.le_trans HW0.out (by rw [hg]; exact (keep_size (w := w) (g := g) (row := none) (qs3)) : w.heap.size ≤ g1) : w2.heap.size ≤ g1)); have N1 := am ((by rw [hg]; exact Nat.ne_of_lt (IsS99.lt (show IsS99 w2 _ g s0_0 s0_1 from qs2)) : g ≠ g1)); have N2 := am ((by rw [hg]; exact Nat.ne_of_gt (IsS99.lt (show IsS99 w2 _ g s0_0 s0_1 from qs2)) : g1 ≠ g)); replace HK := am (KeepBut.trans (qs3) (KeepBut.of_below hb g none) (.inl rfl)); replace HB := am (below_step (qs7) hb); replace I1 := am (IsS99.below (qs2) hb); clear hb hbox hg) | ((with_reducible refine gate_callee (f := 101) rfl ?_); refine goesL_ (some 5) rfl rfl Try.func101 (by kernel_rfl) rfl #[.pointer (some ⟨g, 0, none⟩)] rfl mz ?_; (with_reducible refine (spec_l8Range.calls k g s0_0 s0_1 t1 t2 t3 w2 _ ?side1 ?side2 A1.out).mono ?_); (case side1 => exact qs4); (case side2 => exact qs6); rintro e w4 ⟨rfl, hi, hb, hk⟩; refine ⟨_, rfl, ?_⟩; replace K1 := am (KeepBut.blk hk (g' := g1) (o := b4 0 0 0 0 50) (Z K1) N2.out (by simp)); replace HK := am (KeepBut.trans (qs5) hk (.inl rfl)); replace HB := am (hb); replace I1 := am (hi); (try clear hb)) | ((with_reducible refine gate_dst (N := 3) rfl ?_); refine bx 3 #[.int .i64 0, .int .i64 0] 24 ?_; intro g2 hg w5 hbox hb; have K2 := am (hbox); have G3 := am ((by rw [hg]; exact (keep_size (w := w) (g := g) (row := none) (qs5)) : w.heap.size ≤ g2)); have G4 := am ((Nat.le_trans HW0.out (by rw [hg]; exact (keep_size (w := w) (g := g) (row := none) (qs5)) : w.heap.size ≤ g2) : w2.heap.size ≤ g2)); obtain ⟨N3,N4⟩ := ne_ hg K1; have N5 := am ((by rw [hg]; exact Nat.ne_of_lt (IsS99.lt (show IsS99 w2 _ g s0_0 t3 from qs4)) : g ≠ g2)); have N6 := am ((by rw [hg]; exact Nat.ne_of_gt (IsS99.lt (show IsS99 w2 _ g s0_0 t3 from qs4)) : g2 ≠ g)); replace K1 := bb K1 hb; replace HK := am (KeepBut.trans (qs5) (KeepBut.of_below hb g none) (.inl rfl)); replace HB := am (below_step (qs6) hb); replace I1 := am (IsS99.below (qs4) hb); clear hb hbox hg; have := ns2 N4 N6; have := cB2 K2) | ((with_reducible refine gate_callee (f := 57) rfl ?_); refine goesL_ (some 7) rfl rfl Try.func57 (by kernel_rfl) rfl #[.pointer (some ⟨g, 0, none⟩), .int .i64 2] rfl mz ?_; (with_reducible refine (spec_l1Rd_pick.calls k g s0_0 t3 2 t4 t5 w2 _ ?side1 ?side2 A2.out).mono ?_); (case side1 => exact qs11); (case side2 => exact qs13); rintro e w6 ⟨rfl, hi, hb, hk⟩; refine ⟨_, rfl, ?_⟩; replace K1 := am (KeepBut.blk hk (g' := g1) (o := b4 0 0 0 0 50) (ft N3 K1) N2.out (by simp)); replace K2 := am (KeepBut.blk hk (g' := g2) (o := b2 t1 t2 24) (by refine pf ?_; refine bp (ia2 t1 0) ?_ 1; refine pf ?_; refine bp (ia2 0 0) ?_ 0; exact Z K2) N6.out (by simp)); replace HK := am (KeepBut.trans (qs12) hk (.inl rfl)); replace HB := am (hb); replace I1 := am (hi); (try clear hb)))
  replace K1 := am (blk_drew K1.out)
  replace K2 := am (blk_drew K2.out)
  replace I1 := am (IsS99.drew I1.out)
  replace HK := am (keep_drew HK.out)
  replace HB := am (below_drew1 HB.out)
  refine start_ (n := 4) (S := fun w' => ce2 w' g2 t1 t2) (ds := []) (lb 4 0) (by kernel_rfl) rfl rfl (cc2 K2) (fun hHeld => ?_)
  generalize w6.drew = w7 at K1 K2 I1 HK HB hHeld ⊢
  refine tq 0 9 1 hHeld ?_
  refine one_ (i := 1) (N := some 10) (lb 4 3) rfl rfl (by kernel_rfl) (by decide) (fun K hK => ?_)
  refine gq Try.func104 (spec_l9All.calls _ _ _ A3.out) fun w8 hb => ?_
  replace K1 := bb K1 hb
  replace K2 := bb K2 hb
  replace HK := am (KeepBut.trans (qs12) (KeepBut.of_below hb g none) (.inl rfl))
  replace HB := am (below_step (qs13) hb)
  replace I1 := am (IsS99.below (qs11) hb)
  (try clear hb)
  (try clear hb2)
  (try clear hk)
  (try clear hi)
  refine kk hK (cc2 K2) fun hHeld => ?_
  clear hK K
  refine one_ (i := 2) (N := some 11) (lb 4 7) rfl rfl (by kernel_rfl) (by decide) (fun K hK => ?_)
  refine gq Try.func73 (spec_ValMake.calls _ _ _ _ _ _ _ _ _ _ A4.out) fun w9 hb => ?_
  replace K1 := bb K1 hb
  replace K2 := bb K2 hb
  replace HK := am (KeepBut.trans (qs12) (KeepBut.of_below hb g none) (.inl rfl))
  replace HB := am (below_step (qs13) hb)
  replace I1 := am (IsS99.below (qs11) hb)
  (try clear hb)
  (try clear hb2)
  (try clear hk)
  (try clear hi)
  refine kk hK (cc2 K2) fun hHeld => ?_
  clear hK K
  refine one_ (i := 3) (N := none) (lb 4 15) rfl rfl (by kernel_rfl) (by decide) (fun K hK => ?_)
  have s2 : w9.cell? ⟨g1, 0, none⟩ = some (.int .i64 0) := bc K1 0
  have hfs17 := blk_frozen K1.out 0
  obtain ⟨z1,z2⟩ := nn N4
  have s3 : w9.cell? ⟨g1, 1, none⟩ = some (.int .i64 0) := bc K1 1
  have hfs18 := blk_frozen K1.out 1
  obtain ⟨z3,z4⟩ := nn N4
  have s4 : w9.cell? ⟨g1, 2, none⟩ = some (.int .i64 0) := bc K1 2
  have hfs19 := blk_frozen K1.out 2
  obtain ⟨z5,z6⟩ := nn N4
  have s5 : w9.cell? ⟨g1, 3, none⟩ = some (.int .i64 0) := bc K1 3
  have hfs20 := blk_frozen K1.out 3
  obtain ⟨z7,z8⟩ := nn N4
  refine skip_ (w1 := ?_) (by rfl) rfl ?_ ?_
  rotate_left
  ·go_simp
   rfl
  refine hK.out _ _ (cf2 N4 (cf2 N4 (cf2 N4 (cf2 N4 hHeld)))) (fun hHeld => ?_)
  clear hK K
  refine done_ (by kernel_rfl) ?_
  try go_wp2
  refine bodyPost_ret (results_cell_row rfl _ _ g1 50 #[.int .i64 t8, .int .i64 t9, .int .i64 t10, .int .i64 t11] (0, 0) _ rfl (by refine pf ?_; refine bp (ia4 t8 t9 t10 0) ?_ 3; refine pf ?_; refine bp (ia4 t8 t9 0 0) ?_ 2; refine pf ?_; refine bp (ia4 t8 0 0 0) ?_ 1; refine pf ?_; refine bp (ia4 0 0 0 0) ?_ 0; exact Z K1) Try.underlying50 rfl (by kernel_rfl)) rfl ?_
  exact ⟨ez, qs11, qs13, qs12⟩
 rw [if_neg c1] at H
 have d1 := eF c1
 have d2 := nT c1
 obtain ⟨⟨t6, t7, t8⟩, A3, H⟩ := bd H
 try dsimp only at H
 obtain ⟨⟨t9, t10, t11, t12⟩, A4, H⟩ := bd H
 try dsimp only at H
 obtain ⟨rfl, rfl, rfl, rfl, rfl⟩ := sj5 H
 go_enter Try.func118, Try.ntmps118
 try go_wp2_with (first | ((with_reducible refine gate_dst (N := 2) rfl ?_); refine bx 2 #[.int .i64 0, .int .i64 0, .int .i64 0, .int .i64 0] 50 ?_; intro g1 hg w3 hbox hb; have K1 := am (hbox); have G1 := am ((by rw [hg]; exact (keep_size (w := w) (g := g) (row := none) (qs3)) : w.heap.size ≤ g1)); have G2 := am ((Nat.le_trans HW0.out (by rw [hg]; exact (keep_size (w := w) (g := g) (row := none) (qs3)) : w.heap.size ≤ g1) : w2.heap.size ≤ g1)); have N1 := am ((by rw [hg]; exact Nat.ne_of_lt (IsS99.lt (show IsS99 w2 _ g s0_0 s0_1 from qs2)) : g ≠ g1)); have N2 := am ((by rw [hg]; exact Nat.ne_of_gt (IsS99.lt (show IsS99 w2 _ g s0_0 s0_1 from qs2)) : g1 ≠ g)); replace HK := am (KeepBut.trans (qs3) (KeepBut.of_below hb g none) (.inl rfl)); replace HB := am (below_step (qs7) hb); replace I1 := am (IsS99.below (qs2) hb); clear hb hbox hg) | ((with_reducible refine gate_callee (f := 101) rfl ?_); refine goesL_ (some 5) rfl rfl Try.func101 (by kernel_rfl) rfl #[.pointer (some ⟨g, 0, none⟩)] rfl mz ?_; (with_reducible refine (spec_l8Range.calls k g s0_0 s0_1 t1 t2 t3 w2 _ ?side1 ?side2 A1.out).mono ?_); (case side1 => exact qs4); (case side2 => exact qs6); rintro e w4 ⟨rfl, hi, hb, hk⟩; refine ⟨_, rfl, ?_⟩; replace K1 := am (KeepBut.blk hk (g' := g1) (o := b4 0 0 0 0 50) (Z K1) N2.out (by simp)); replace HK := am (KeepBut.trans (qs5) hk (.inl rfl)); replace HB := am (hb); replace I1 := am (hi); (try clear hb)) | ((with_reducible refine gate_dst (N := 3) rfl ?_); refine bx 3 #[.int .i64 0, .int .i64 0] 24 ?_; intro g2 hg w5 hbox hb; have K2 := am (hbox); have G3 := am ((by rw [hg]; exact (keep_size (w := w) (g := g) (row := none) (qs5)) : w.heap.size ≤ g2)); have G4 := am ((Nat.le_trans HW0.out (by rw [hg]; exact (keep_size (w := w) (g := g) (row := none) (qs5)) : w.heap.size ≤ g2) : w2.heap.size ≤ g2)); obtain ⟨N3,N4⟩ := ne_ hg K1; have N5 := am ((by rw [hg]; exact Nat.ne_of_lt (IsS99.lt (show IsS99 w2 _ g s0_0 t3 from qs4)) : g ≠ g2)); have N6 := am ((by rw [hg]; exact Nat.ne_of_gt (IsS99.lt (show IsS99 w2 _ g s0_0 t3 from qs4)) : g2 ≠ g)); replace K1 := bb K1 hb; replace HK := am (KeepBut.trans (qs5) (KeepBut.of_below hb g none) (.inl rfl)); replace HB := am (below_step (qs6) hb); replace I1 := am (IsS99.below (qs4) hb); clear hb hbox hg; have := ns2 N4 N6; have := cB2 K2) | ((with_reducible refine gate_callee (f := 57) rfl ?_); refine goesL_ (some 7) rfl rfl Try.func57 (by kernel_rfl) rfl #[.pointer (some ⟨g, 0, none⟩), .int .i64 2] rfl mz ?_; (with_reducible refine (spec_l1Rd_pick.calls k g s0_0 t3 2 t4 t5 w2 _ ?side1 ?side2 A2.out).mono ?_); (case side1 => exact qs11); (case side2 => exact qs13); rintro e w6 ⟨rfl, hi, hb, hk⟩; refine ⟨_, rfl, ?_⟩; replace K1 := am (KeepBut.blk hk (g' := g1) (o := b4 0 0 0 0 50) (ft N3 K1) N2.out (by simp)); replace K2 := am (KeepBut.blk hk (g' := g2) (o := b2 t1 t2 24) (by refine pf ?_; refine bp (ia2 t1 0) ?_ 1; refine pf ?_; refine bp (ia2 0 0) ?_ 0; exact Z K2) N6.out (by simp)); replace HK := am (KeepBut.trans (qs12) hk (.inl rfl)); replace HB := am (hb); replace I1 := am (hi); (try clear hb)))
 replace K1 := am (blk_drew K1.out)
 replace K2 := am (blk_drew K2.out)
 replace I1 := am (IsS99.drew I1.out)
 replace HK := am (keep_drew HK.out)
 replace HB := am (below_drew1 HB.out)
 refine start_ (n := 5) (S := fun w' => ce2 w' g2 t1 t2) (ds := []) (lb 5 0) (by kernel_rfl) rfl rfl (cc2 K2) (fun hHeld => ?_)
 generalize w6.drew = w7 at K1 K2 I1 HK HB hHeld ⊢
 refine pure_ (i := 1) (N := some 13) (v := ?_) (a' := ?_) (lb 5 2) rfl rfl (by kernel_rfl) (fun _ _ _ h => h) (Or.inl ⟨by rfl, ?_⟩) ?_ ?_
 rotate_left
 ·exact gz
 rotate_left
 ·exact pz
 refine tq 0 12 3 hHeld ?_
 refine one_ (i := 2) (N := some 14) (lb 5 7) rfl rfl (by kernel_rfl) (by decide) (fun K hK => ?_)
 refine goes_ Try.func115 (by kernel_rfl) rfl #[.pointer (some ⟨g, 0, none⟩)] (by rfl) rfl rfl mz ?_
 with_reducible refine (spec_l9Rest.calls k g s0_0 t5 t6 t7 t8 w2 _ ?side1 ?side2 A3.out).mono ?_
 (case side1 => exact qs11)
 (case side2 => exact qs13)
 rintro e w8 ⟨rfl, hi, hb, hk⟩
 refine ⟨_, rfl, ?_⟩
 replace K1 := am (KeepBut.blk hk (g' := g1) (o := b4 0 0 0 0 50) (Z K1) N2.out (by simp))
 replace K2 := am (KeepBut.blk hk (g' := g2) (o := b2 t1 t2 24) (Z K2) N6.out (by simp))
 replace HK := am (KeepBut.trans (qs12) hk (.inl rfl))
 replace HB := am (hb)
 replace I1 := am (hi)
 (try clear hb)
 (try clear hb2)
 (try clear hk)
 (try clear hi)
 refine kk hK (cc2 K2) fun hHeld => ?_
 clear hK K
 refine one_ (i := 3) (N := some 15) (lb 5 15) rfl rfl (by kernel_rfl) (by decide) (fun K hK => ?_)
 refine gq Try.func73 (spec_ValMake.calls _ _ _ _ _ _ _ _ _ _ A4.out) fun w9 hb => ?_
 replace K1 := bb K1 hb
 replace K2 := bb K2 hb
 replace HK := am (KeepBut.trans (qs12) (KeepBut.of_below hb g none) (.inl rfl))
 replace HB := am (below_step (qs13) hb)
 replace I1 := am (IsS99.below (qs11) hb)
 (try clear hb)
 (try clear hb2)
 (try clear hk)
 (try clear hi)
 refine kk hK (cc2 K2) fun hHeld => ?_
 clear hK K
 refine one_ (i := 4) (N := none) (lb 5 31) rfl rfl (by kernel_rfl) (by decide) (fun K hK => ?_)
 have s2 : w9.cell? ⟨g1, 0, none⟩ = some (.int .i64 0) := bc K1 0
 have hfs33 := blk_frozen K1.out 0
 obtain ⟨z1,z2⟩ := nn N4
 have s3 : w9.cell? ⟨g1, 1, none⟩ = some (.int .i64 0) := bc K1 1
 have hfs34 := blk_frozen K1.out 1
 obtain ⟨z3,z4⟩ := nn N4
 have s4 : w9.cell? ⟨g1, 2, none⟩ = some (.int .i64 0) := bc K1 2
 have hfs35 := blk_frozen K1.out 2
 obtain ⟨z5,z6⟩ := nn N4
 have s5 : w9.cell? ⟨g1, 3, none⟩ = some (.int .i64 0) := bc K1 3
 have hfs36 := blk_frozen K1.out 3
 obtain ⟨z7,z8⟩ := nn N4
 refine skip_ (w1 := ?_) (by rfl) rfl ?_ ?_
 rotate_left
 ·go_simp
  rfl
 refine hK.out _ _ (cf2 N4 (cf2 N4 (cf2 N4 (cf2 N4 hHeld)))) (fun hHeld => ?_)
 clear hK K
 refine done_ (by kernel_rfl) ?_
 try go_wp2
 refine bodyPost_ret (results_cell_row rfl _ _ g1 50 #[.int .i64 t9, .int .i64 t10, .int .i64 t11, .int .i64 t12] (0, 0) _ rfl (by refine pf ?_; refine bp (ia4 t9 t10 t11 0) ?_ 3; refine pf ?_; refine bp (ia4 t9 t10 0 0) ?_ 2; refine pf ?_; refine bp (ia4 t9 0 0 0) ?_ 1; refine pf ?_; refine bp (ia4 0 0 0 0) ?_ 0; exact Z K1) Try.underlying50 rfl (by kernel_rfl)) rfl ?_
 exact ⟨ez, qs11, qs13, qs12⟩

def spec_l10Wild.j0 : Nat → Int → List Int → Int → Int → Int → Int → Int → Option (Int × Int × Int × Int × Int)
 | 0, _, _, _, _, _, _, _ => none
 | k + 1, x1, x2, x3, x4, x5, x6, x7 => if x1 = 1 then ((spec_l1Rd_pick.f k x2 x3 5).bind fun u1 => (some (x4, x5, wrap64 (u1.1 - 1), x7, u1.2))) else (if x1 = 2 then ((spec_l1Rd_pick.f k x2 x3 5).bind fun u2 => (some (x4, x5, x6, wrap64 (u2.1 - 1), u2.2))) else (some (x4, x5, x6, x7, x3)))
def spec_l10Wild.f (k : Nat) (s0_0 : List Int) (s0_1 : Int) : Option (Int × Int × Int × Int × Int) := (spec_l10Val.f k s0_0 s0_1).bind fun u1 => ((spec_l1Rd_pick.f k s0_0 u1.2.2.2.2 40).bind fun u2 => (if u2.1 = 0 then ((spec_l1Rd_num.f k s0_0 u2.2).bind fun u3 => (spec_l10Wild.j0 k u2.1 s0_0 u3.2 u3.1 u1.2.1 u1.2.2.1 u1.2.2.2.1)) else (spec_l10Wild.j0 k u2.1 s0_0 u2.2 u1.1 u1.2.1 u1.2.2.1 u1.2.2.2.1)))
theorem spec_l10Wild.mono_l : ∀ k, (∀ y0 y1 y2 y3 y4 y5 y6, LeO (spec_l10Wild.j0 k y0 y1 y2 y3 y4 y5 y6) (spec_l10Wild.j0 (k + 1) y0 y1 y2 y3 y4 y5 y6))
 | 0 => fun _ _ _ _ _ _ _ r h => by simp [spec_l10Wild.j0] at h
 | k + 1 => by
  have ih0 := spec_l10Wild.mono_l k
  ·intro y0 y1 y2 y3 y4 y5 y6
   unfold spec_l10Wild.j0
   repeat' first | (with_reducible first | apply ih0 | apply spec_l10Val.mono | apply spec_l1Rd_num.mono | apply spec_l1Rd_pick.mono | apply LeO.refl | apply LeO.none | refine LeO.ite ?_ ?_ | refine LeO.bind ?_ (fun _ => ?_)) | apply ih0 | apply spec_l10Val.mono | apply spec_l1Rd_num.mono | apply spec_l1Rd_pick.mono | apply LeO.none | refine LeO.ite ?_ ?_ | refine LeO.bind ?_ (fun _ => ?_)
theorem spec_l10Wild.mono : ∀ a0 a1 k, LeO (spec_l10Wild.f k a0 a1) (spec_l10Wild.f (k + 1) a0 a1) := by
 intro a0 a1 k
 have ih0 := spec_l10Wild.mono_l k
 unfold spec_l10Wild.f
 repeat' first | (with_reducible first | apply ih0 | apply spec_l10Val.mono | apply spec_l1Rd_num.mono | apply spec_l1Rd_pick.mono | apply LeO.refl | apply LeO.none | refine LeO.ite ?_ ?_ | refine LeO.bind ?_ (fun _ => ?_)) | apply ih0 | apply spec_l10Val.mono | apply spec_l1Rd_num.mono | apply spec_l1Rd_pick.mono | apply LeO.none | refine LeO.ite ?_ ?_ | refine LeO.bind ?_ (fun _ => ?_)
set_option maxHeartbeats 8000000 in
set_option maxRecDepth 100000 in
theorem spec_l10Wild.calls (k : Nat) (g : Nat) (s0_0 : List Int) (s0_1 : Int) (r1 : Int) (r2 : Int) (r3 : Int) (r4 : Int) (r5 : Int) (w1 w : World) (hI : IsS99 w1 w g s0_0 s0_1) (hB : Below w1.heap.size w1 w) (h : spec_l10Wild.f k s0_0 s0_1 = some (r1, r2, r3, r4, r5)) :
  Calls Try.prog 114 #[.pointer (some ⟨g, 0, none⟩)] w fun e w' => e = .returned (.agg #[.int .i64 r1, .int .i64 r2, .int .i64 r3, .int .i64 r4]) ∧ IsS99 w1 w' g s0_0 r5 ∧ Below w1.heap.size w1 w' ∧ KeepBut w w' g none := by
 have hu50 := Try.underlying50
 have I1 := am hI
 have HK := am (KeepBut.refl w g none)
 have HL := am hB.size
 clear hI
 have HW0 := am hB.size
 have HB := am hB
 clear hB
 have H : ((spec_l10Val.f k s0_0 s0_1).bind fun u1 => ((spec_l1Rd_pick.f k s0_0 u1.2.2.2.2 40).bind fun u2 => (if u2.1 = 0 then ((spec_l1Rd_num.f k s0_0 u2.2).bind fun u3 => (spec_l10Wild.j0 k u2.1 s0_0 u3.2 u3.1 u1.2.1 u1.2.2.1 u1.2.2.2.1)) else (spec_l10Wild.j0 k u2.1 s0_0 u2.2 u1.1 u1.2.1 u1.2.2.1 u1.2.2.2.1)))) = some (r1, r2, r3, r4, r5) := h
 clear h
 obtain ⟨⟨t1, t2, t3, t4, t5⟩, A1, H⟩ := bd H
 try dsimp only at H
 obtain ⟨⟨t6, t7⟩, A2, H⟩ := bd H
 try dsimp only at H
 have C1 := am H
 clear H
 go_enter Try.func114, Try.ntmps114
 go_upto_if 10 with (first | ((with_reducible refine gate_dst (N := 2) rfl ?_); refine bx 2 #[.int .i64 0, .int .i64 0, .int .i64 0, .int .i64 0] 50 ?_; intro g1 hg w2 hbox hb; have K1 := am (hbox); have G1 := am ((by rw [hg]; exact (keep_size (w := w) (g := g) (row := none) (qs3)) : w.heap.size ≤ g1)); have G2 := am ((Nat.le_trans HW0.out (by rw [hg]; exact (keep_size (w := w) (g := g) (row := none) (qs3)) : w.heap.size ≤ g1) : w1.heap.size ≤ g1)); have N1 := am ((by rw [hg]; exact Nat.ne_of_lt (IsS99.lt (show IsS99 w1 _ g s0_0 s0_1 from qs2)) : g ≠ g1)); have N2 := am ((by rw [hg]; exact Nat.ne_of_gt (IsS99.lt (show IsS99 w1 _ g s0_0 s0_1 from qs2)) : g1 ≠ g)); replace HK := am (KeepBut.trans (qs3) (KeepBut.of_below hb g none) (.inl rfl)); replace HB := am (below_step (qs7) hb); replace I1 := am (IsS99.below (qs2) hb); clear hb hbox hg) | ((with_reducible refine gate_callee (f := 118) rfl ?_); refine goesL_ (some 6) rfl rfl Try.func118 (by kernel_rfl) rfl #[.pointer (some ⟨g, 0, none⟩)] rfl mz ?_; (with_reducible refine (spec_l10Val.calls k g s0_0 s0_1 t1 t2 t3 t4 t5 w1 _ ?side1 ?side2 A1.out).mono ?_); (case side1 => exact qs4); (case side2 => exact qs6); rintro e w3 ⟨rfl, hi, hb, hk⟩; refine ⟨_, rfl, ?_⟩; replace K1 := am (KeepBut.blk hk (g' := g1) (o := b4 0 0 0 0 50) (Z K1) N2.out (by simp)); replace HK := am (KeepBut.trans (qs5) hk (.inl rfl)); replace HB := am (hb); replace I1 := am (hi); (try clear hb)) | ((with_reducible refine gate_dst (N := 3) rfl ?_); refine bx 3 #[.int .i64 0, .int .i64 0, .int .i64 0, .int .i64 0] 50 ?_; intro g2 hg w4 hbox hb; have K2 := am (hbox); have G3 := am ((by rw [hg]; exact (keep_size (w := w) (g := g) (row := none) (qs5)) : w.heap.size ≤ g2)); have G4 := am ((Nat.le_trans HW0.out (by rw [hg]; exact (keep_size (w := w) (g := g) (row := none) (qs5)) : w.heap.size ≤ g2) : w1.heap.size ≤ g2)); obtain ⟨N3,N4⟩ := ne_ hg K1; have N5 := am ((by rw [hg]; exact Nat.ne_of_lt (IsS99.lt (show IsS99 w1 _ g s0_0 t5 from qs4)) : g ≠ g2)); have N6 := am ((by rw [hg]; exact Nat.ne_of_gt (IsS99.lt (show IsS99 w1 _ g s0_0 t5 from qs4)) : g2 ≠ g)); replace K1 := bb K1 hb; replace HK := am (KeepBut.trans (qs5) (KeepBut.of_below hb g none) (.inl rfl)); replace HB := am (below_step (qs6) hb); replace I1 := am (IsS99.below (qs4) hb); clear hb hbox hg; have := ns2 N4 N6; have := cB4 K2) | ((with_reducible refine gate_callee (f := 57) rfl ?_); refine goesL_ (some 8) rfl rfl Try.func57 (by kernel_rfl) rfl #[.pointer (some ⟨g, 0, none⟩), .int .i64 40] rfl mz ?_; (with_reducible refine (spec_l1Rd_pick.calls k g s0_0 t5 40 t6 t7 w1 _ ?side1 ?side2 A2.out).mono ?_); (case side1 => exact qs11); (case side2 => exact qs13); rintro e w5 ⟨rfl, hi, hb, hk⟩; refine ⟨_, rfl, ?_⟩; replace K1 := am (KeepBut.blk hk (g' := g1) (o := b4 0 0 0 0 50) (ft N3 K1) N2.out (by simp)); replace K2 := am (KeepBut.blk hk (g' := g2) (o := b4 t1 t2 t3 t4 50) (by refine pf ?_; refine bp (ia4 t1 t2 t3 0) ?_ 3; refine pf ?_; refine bp (ia4 t1 t2 0 0) ?_ 2; refine pf ?_; refine bp (ia4 t1 0 0 0) ?_ 1; refine pf ?_; refine bp (ia4 0 0 0 0) ?_ 0; exact Z K2) N6.out (by simp)); replace HK := am (KeepBut.trans (qs12) hk (.inl rfl)); replace HB := am (hb); replace I1 := am (hi); (try clear hb)))
 (try simp only [Act.put, List.setIfInBounds_toArray, List.set_cons_zero, List.set_cons_succ])
 go_cut [] (fun wc => ∃ (kq : Nat) (x1 : Int) (x2 : Int), Aside0 (spec_l10Wild.j0 kq t6 s0_0 x1 x2 t2 t3 t4 = some (r1, r2, r3, r4, r5)) ∧ Aside0 (kq ≤ k) ∧ Bx4 wc g1 0 0 0 0 50 ∧ Bx4 wc g2 x2 t2 t3 t4 50 ∧ Aside0 (IsS99 w1 wc g s0_0 x1) ∧ Aside0 (KeepBut w wc g none) ∧ Aside0 (Below w1.heap.size w1 wc))
 case first =>
  have H := C1.out
  clear C1
  by_cases c1 : t6 = 0
  rotate_left
  ·rw [if_neg c1] at H
   have d1 := eF c1
   have d2 := nT c1
   (first | rw [d1] | (simp only [i64_w, i32_w]; rw [d1]) | skip)
   have H' := am H
   clear H
   go_wp2
   go_meet
   case rel => exact ⟨_, (t7), (t1), H', le0, ⟨Z K1⟩, ⟨Z K2⟩, ⟨qs11⟩, ⟨qs12⟩, ⟨qs13⟩⟩
  rw [if_pos c1] at H
  have d1 := eT c1
  have d2 := nF c1
  clear c1
  (first | rw [d1] | (simp only [i64_w, i32_w]; rw [d1]) | skip)
  obtain ⟨⟨t8, t9⟩, A3, H⟩ := bd H
  try dsimp only at H
  have H' := am H
  clear H
  go_wp2_with (first | ((with_reducible refine gate_callee (f := 58) rfl ?_); refine goesL_ (some 12) rfl rfl Try.func58 (by kernel_rfl) rfl #[.pointer (some ⟨g, 0, none⟩)] rfl mz ?_; (with_reducible refine (spec_l1Rd_num.calls k g s0_0 t7 t8 t9 w1 _ ?side1 ?side2 A3.out).mono ?_); (case side1 => exact qs11); (case side2 => exact qs13); rintro e w6 ⟨rfl, hi, hb, hk⟩; refine ⟨_, rfl, ?_⟩; replace K1 := am (KeepBut.blk hk (g' := g1) (o := b4 0 0 0 0 50) (Z K1) N2.out (by simp)); replace K2 := am (KeepBut.blk hk (g' := g2) (o := b4 t1 t2 t3 t4 50) (Z K2) N6.out (by simp)); replace HK := am (KeepBut.trans (qs12) hk (.inl rfl)); replace HB := am (hb); replace I1 := am (hi); (try clear hb); have := ns2 N4 N6; have := cB4 K2))
  go_meet
  case rel => exact ⟨_, (t9), (t8), H', le0, ⟨ft N3 K1⟩, ⟨by refine pf ?_; refine bp (ia4 t1 t2 t3 t4) ?_ 0; exact Z K2⟩, ⟨qs11⟩, ⟨qs12⟩, ⟨qs13⟩⟩
 clear C1
 obtain ⟨kq, x1, x2, HA, J1, K1, K2, I1, HK, HB⟩ := hcut
 cases kq with
 | zero => exact absurd HA.out (by simp [spec_l10Wild.j0])
 | succ k1 => ?_
 have H := HA.out
 clear HA
 simp only [spec_l10Wild.j0] at H
 by_cases c1 : t6 = 1
 ·rw [if_pos c1] at H
  have d1 := eT c1
  have d2 := nF c1
  clear c1
  obtain ⟨⟨t8, t9⟩, A3, H⟩ := bd H
  try dsimp only at H
  obtain ⟨rfl, rfl, rfl, rfl, rfl⟩ := sj5 H
  go_wp2_with (first | ((with_reducible refine gate_callee (f := 57) rfl ?_); refine goesL_ (some 17) rfl rfl Try.func57 (by kernel_rfl) rfl #[.pointer (some ⟨g, 0, none⟩), .int .i64 5] rfl mz ?_; (with_reducible refine (spec_l1Rd_pick.calls k1 g s0_0 x1 5 t8 t9 w1 _ ?side1 ?side2 A3.out).mono ?_); (case side1 => exact qs11); (case side2 => exact qs13); rintro e w6 ⟨rfl, hi, hb, hk⟩; refine ⟨_, rfl, ?_⟩; replace K1 := am (KeepBut.blk hk (g' := g1) (o := b4 0 0 0 0 50) (Z K1) N2.out (by simp)); replace K2 := am (KeepBut.blk hk (g' := g2) (o := b4 x2 t2 t3 t4 50) (Z K2) N6.out (by simp)); replace HK := am (KeepBut.trans (qs12) hk (.inl rfl)); replace HB := am (hb); replace I1 := am (hi); (try clear hb); have := ns3 N4 N6 N2; have := cB4 K2; have := cB4 K1))
  refine bodyPost_ret (results_cell_row rfl _ _ g1 50 #[.int .i64 x2, .int .i64 t2, .int .i64 (wrap64 (t8 - 1)), .int .i64 t4] (0, 0) _ rfl (by refine pf ?_; refine bp (ia4 x2 t2 (wrap64 (t8 - 1)) 0) ?_ 3; refine pf ?_; refine bp (ia4 x2 t2 0 0) ?_ 2; refine pf ?_; refine bp (ia4 x2 0 0 0) ?_ 1; refine pf ?_; refine bp (ia4 0 0 0 0) ?_ 0; refine fa N3 ?_; exact Z K1) Try.underlying50 rfl (by kernel_rfl)) rfl ?_
  exact ⟨ez, qs11, qs13, qs12⟩
 rw [if_neg c1] at H
 have d1 := eF c1
 have d2 := nT c1
 by_cases c2 : t6 = 2
 rotate_left
 ·rw [if_neg c2] at H
  have d3 := eF c2
  have d4 := nT c2
  obtain ⟨rfl, rfl, rfl, rfl, rfl⟩ := sj5 H
  have := ns3 N4 N6 N2
  have := cB4 K2
  have := cB4 K1
  go_wp2
  refine bodyPost_ret (results_cell_row rfl _ _ g1 50 #[.int .i64 x2, .int .i64 t2, .int .i64 t3, .int .i64 t4] (0, 0) _ rfl (by refine pf ?_; refine bp (ia4 x2 t2 t3 0) ?_ 3; refine pf ?_; refine bp (ia4 x2 t2 0 0) ?_ 2; refine pf ?_; refine bp (ia4 x2 0 0 0) ?_ 1; refine pf ?_; refine bp (ia4 0 0 0 0) ?_ 0; exact Z K1) Try.underlying50 rfl (by kernel_rfl)) rfl ?_
  exact ⟨ez, qs11, qs13, qs12⟩
 rw [if_pos c2] at H
 have d3 := eT c2
 have d4 := nF c2
 clear c2
 obtain ⟨⟨t8, t9⟩, A3, H⟩ := bd H
 try dsimp only at H
 obtain ⟨rfl, rfl, rfl, rfl, rfl⟩ := sj5 H
 go_wp2_with (first | ((with_reducible refine gate_callee (f := 57) rfl ?_); refine goesL_ (some 23) rfl rfl Try.func57 (by kernel_rfl) rfl #[.pointer (some ⟨g, 0, none⟩), .int .i64 5] rfl mz ?_; (with_reducible refine (spec_l1Rd_pick.calls k1 g s0_0 x1 5 t8 t9 w1 _ ?side1 ?side2 A3.out).mono ?_); (case side1 => exact qs11); (case side2 => exact qs13); rintro e w6 ⟨rfl, hi, hb, hk⟩; refine ⟨_, rfl, ?_⟩; replace K1 := am (KeepBut.blk hk (g' := g1) (o := b4 0 0 0 0 50) (Z K1) N2.out (by simp)); replace K2 := am (KeepBut.blk hk (g' := g2) (o := b4 x2 t2 t3 t4 50) (Z K2) N6.out (by simp)); replace HK := am (KeepBut.trans (qs12) hk (.inl rfl)); replace HB := am (hb); replace I1 := am (hi); (try clear hb); have := ns3 N4 N6 N2; have := cB4 K2; have := cB4 K1))
 refine bodyPost_ret (results_cell_row rfl _ _ g1 50 #[.int .i64 x2, .int .i64 t2, .int .i64 t3, .int .i64 (wrap64 (t8 - 1))] (0, 0) _ rfl (by refine pf ?_; refine bp (ia4 x2 t2 t3 0) ?_ 3; refine pf ?_; refine bp (ia4 x2 t2 0 0) ?_ 2; refine pf ?_; refine bp (ia4 x2 0 0 0) ?_ 1; refine pf ?_; refine bp (ia4 0 0 0 0) ?_ 0; refine fa N3 ?_; exact Z K1) Try.underlying50 rfl (by kernel_rfl)) rfl ?_
 exact ⟨ez, qs11, qs13, qs12⟩
end
end Go.Proofs.Ythbkakcchgnhpaa.PFnValTurn
