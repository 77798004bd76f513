/- Written by this session's own driver (wip/dprint.py): the functions that the law FnExactValCmp reaches, as Lean functions, each with its contract. -/
import Derived.Test.YtdmadlfdibiejaaPFnExactValCmpx0
import Derived.Test.YtdmadlfdibiejaaPFnExactValCmpx5
import Derived.Test.YtdmadlfdibiejaaSv
namespace Go.Proofs.Ytdmadlfdibiejaa.PFnExactValCmp
open Go.RowKit Go.Proofs.YtdmadlfdibiejaaV.PrintWords Go.Proofs.YtdmadlfdibiejaaV.PrintLast Go.Proofs.YtdmadlfdibiejaaV.PrintMore Go.Proofs.YtdmadlfdibiejaaSv
set_option linter.unusedVariables false
set_option linter.unusedSimpArgs false
section
attribute [local go_sem] max2_int min2_int max_two min_two max_three min_three max_four min_four
attribute [local go_sem] Go.Proofs.YtdmadlfdibiejaaSet.isSome_setCell
def impl_RestHas.j0 : Nat → Int → Bool → Int → Int → Option (Bool)
 | 0, _, _, _, _ => none
 | k + 1, x1, x2, x3, x4 => if x2 = true then (some false) else (if x3 = 0 then (some (x1 == x4)) else ((impl_restMod.f x1 x3).bind fun t1 => (some (t1 == x4))))
def impl_RestHas.f (k : Nat) (a0_0 : Int) (a0_1 : Int) (a1 : Int) : Option (Bool) := (impl_RestOk.f a0_0 a0_1).bind fun t1 => (if t1 = true then ((impl_NumOk.f a1).bind fun t2 => (impl_RestHas.j0 k a1 (!t2) a0_0 a0_1)) else (impl_RestHas.j0 k a1 true a0_0 a0_1))
theorem impl_RestHas.mono_l : ∀ k, (∀ y0 y1 y2 y3, LeO (impl_RestHas.j0 k y0 y1 y2 y3) (impl_RestHas.j0 (k + 1) y0 y1 y2 y3))
 | 0 => fun _ _ _ _ r h => by simp [impl_RestHas.j0] at h
 | k + 1 => by
  have ih0 := impl_RestHas.mono_l k
  ·intro y0 y1 y2 y3
   unfold impl_RestHas.j0
   repeat' first | (with_reducible first | apply ih0 | apply LeO.refl | apply LeO.none | refine LeO.ite ?_ ?_ | refine LeO.bind ?_ (fun _ => ?_)) | apply ih0 | apply LeO.none | refine LeO.ite ?_ ?_ | refine LeO.bind ?_ (fun _ => ?_)
theorem impl_RestHas.mono : ∀ a0 a1 a2 k, LeO (impl_RestHas.f k a0 a1 a2) (impl_RestHas.f (k + 1) a0 a1 a2) := by
 intro a0 a1 a2 k
 have ih0 := impl_RestHas.mono_l k
 unfold impl_RestHas.f
 repeat' first | (with_reducible first | apply ih0 | apply LeO.refl | apply LeO.none | refine LeO.ite ?_ ?_ | refine LeO.bind ?_ (fun _ => ?_)) | apply ih0 | apply LeO.none | refine LeO.ite ?_ ?_ | refine LeO.bind ?_ (fun _ => ?_)
set_option maxHeartbeats 8000000 in
set_option maxRecDepth 100000 in
theorem impl_RestHas.calls (k : Nat) (a0_0 : Int) (a0_1 : Int) (a1 : Int) (r : Bool) (w : World) (h : impl_RestHas.f k a0_0 a0_1 a1 = some r) :
  Calls Try.prog 54 #[.agg #[.int .i64 a0_0, .int .i64 a0_1], .int .i64 a1] w fun e w' => e = .returned (.bool r) ∧ Below w.heap.size w w' := by
 have hu39 := Try.underlying39
 have HB := am (Below.refl w.heap.size w)
 have H : ((impl_RestOk.f a0_0 a0_1).bind fun t1 => (if t1 = true then ((impl_NumOk.f a1).bind fun t2 => (impl_RestHas.j0 k a1 (!t2) a0_0 a0_1)) else (impl_RestHas.j0 k a1 true a0_0 a0_1))) = some r := h
 clear h
 have C1 := am H
 clear H
 go_enter Try.func54, Try.ntmps54
 go_upto_region 1 with (first | ((with_reducible refine gate_dst (N := 2) rfl ?_); refine bxn 2 #[.int .i64 a0_0, .int .i64 a0_1] 39 HB fun g1 w1 K1 G1 hg hb => ?_; replace HB := am (below_step (YA HB) hb); clear hb hg))
 repeat (go_quiet (first | ((with_reducible refine gate_dst (N := 2) rfl ?_); refine bxn 2 #[.int .i64 a0_0, .int .i64 a0_1] 39 HB fun g1 w1 K1 G1 hg hb => ?_; replace HB := am (below_step (YA HB) hb); clear hb hg)); go_upto_region 1 with (first | ((with_reducible refine gate_dst (N := 2) rfl ?_); refine bxn 2 #[.int .i64 a0_0, .int .i64 a0_1] 39 HB fun g1 w1 K1 G1 hg hb => ?_; replace HB := am (below_step (YA HB) hb); clear hb hg)))
 (try simp only [Act.put, List.setIfInBounds_toArray, List.set_cons_zero, List.set_cons_succ])
 go_cut [12] (fun v1 wc => ∃ (kq : Nat) (x1 : Bool), v1 = .bool x1 ∧ Aside0 (impl_RestHas.j0 kq a1 x1 a0_0 a0_1 = some r) ∧ Aside0 (kq ≤ k) ∧ Bx2 wc g1 a0_0 a0_1 39 ∧ Aside0 (Below w.heap.size w wc))
 case first =>
  have H := C1.out
  clear C1
  obtain ⟨t1, A1, H⟩ := bd H
  try dsimp only at H
  by_cases c1 : t1 = true
  rotate_left
  ·replace c1 := Bool.eq_false_iff.mpr c1
   subst c1
   rw [if_neg ff] at H
   have H' := am H
   clear H
   have z_ := cB2 K1
   go_wp2_with (first | (go_at_call 43; (with_reducible refine (impl_RestOk.calls _ _ _ _ A1.out).mono ?_); rintro e w2 ⟨rfl, hb⟩; obtain ⟨K1, HB⟩ := bk1 K1 HB hb; (try clear hb)))
   repeat (go_quiet (first | (go_at_call 43; (with_reducible refine (impl_RestOk.calls _ _ _ _ A1.out).mono ?_); rintro e w2 ⟨rfl, hb⟩; obtain ⟨K1, HB⟩ := bk1 K1 HB hb; (try clear hb))); try go_wp2_with (first | (go_at_call 43; (with_reducible refine (impl_RestOk.calls _ _ _ _ A1.out).mono ?_); rintro e w2 ⟨rfl, hb⟩; obtain ⟨K1, HB⟩ := bk1 K1 HB hb; (try clear hb))))
   go_meet
   case rel => exact ⟨_, (true), ey, H', le0, ⟨Z K1⟩, ⟨YA HB⟩⟩
  subst c1
  rw [if_pos rfl] at H
  obtain ⟨t2, A2, H⟩ := bd H
  try dsimp only at H
  have H' := am H
  clear H
  have z_ := cB2 K1
  go_wp2_with (first | (go_at_call 43; (with_reducible refine (impl_RestOk.calls _ _ _ _ A1.out).mono ?_); rintro e w2 ⟨rfl, hb⟩; obtain ⟨K1, HB⟩ := bk1 K1 HB hb; (try clear hb)) | (go_at_call 52; (with_reducible refine (impl_NumOk.calls _ _ _ A2.out).mono ?_); rintro e w' ⟨rfl, ⟨nd, rfl⟩⟩; (try first | exact ⟨rfl, _, World.drewN_drewN _ _ _⟩ | exact ⟨rfl, _, Eq.trans (World.drewN_drewN _ _ _) (congrArg (World.drewN _) (Nat.add_assoc _ _ _))⟩)))
  repeat (go_quiet (first | (go_at_call 43; (with_reducible refine (impl_RestOk.calls _ _ _ _ A1.out).mono ?_); rintro e w2 ⟨rfl, hb⟩; obtain ⟨K1, HB⟩ := bk1 K1 HB hb; (try clear hb)) | (go_at_call 52; (with_reducible refine (impl_NumOk.calls _ _ _ A2.out).mono ?_); rintro e w' ⟨rfl, ⟨nd, rfl⟩⟩; (try first | exact ⟨rfl, _, World.drewN_drewN _ _ _⟩ | exact ⟨rfl, _, Eq.trans (World.drewN_drewN _ _ _) (congrArg (World.drewN _) (Nat.add_assoc _ _ _))⟩))); try go_wp2_with (first | (go_at_call 43; (with_reducible refine (impl_RestOk.calls _ _ _ _ A1.out).mono ?_); rintro e w2 ⟨rfl, hb⟩; obtain ⟨K1, HB⟩ := bk1 K1 HB hb; (try clear hb)) | (go_at_call 52; (with_reducible refine (impl_NumOk.calls _ _ _ A2.out).mono ?_); rintro e w' ⟨rfl, ⟨nd, rfl⟩⟩; (try first | exact ⟨rfl, _, World.drewN_drewN _ _ _⟩ | exact ⟨rfl, _, Eq.trans (World.drewN_drewN _ _ _) (congrArg (World.drewN _) (Nat.add_assoc _ _ _))⟩))))
  go_meet
  case rel => exact ⟨_, (!t2), ey, H', le0, ⟨Z K1⟩, ⟨YA HB⟩⟩
 case rest =>
  clear C1
  obtain ⟨kq, x1, rfl, HA, J1, K1, HB⟩ := hcut
  cases kq with
  | zero => exact absurd HA.out (by simp [impl_RestHas.j0])
  | succ k1 =>
   have H := HA.out
   clear HA
   simp only [impl_RestHas.j0] at H
   by_cases c1 : x1 = true
   ·subst c1
    rw [if_pos rfl] at H
    obtain rfl := Option.some.inj H
    go_wp2
    repeat (go_quiet (fail); try go_wp2)
    go_ret
    exact ⟨ez, YA HB⟩
   replace c1 := Bool.eq_false_iff.mpr c1
   subst c1
   rw [if_neg ff] at H
   by_cases c2 : a0_0 = 0
   ·rw [if_pos c2] at H
    have d1 := eT c2
    have d2 := nF c2
    clear c2
    obtain rfl := Option.some.inj H
    have z_ := cB2 K1
    go_wp2
    repeat (go_quiet (fail); try go_wp2)
    go_ret
    exact ⟨ez, YA HB⟩
   rw [if_neg c2] at H
   have d1 := eF c2
   have d2 := nT c2
   obtain ⟨t3, A1, H⟩ := bd H
   try dsimp only at H
   obtain rfl := Option.some.inj H
   have z_ := cB2 K1
   go_wp2_with (first | (go_at_call 46; (with_reducible refine (impl_restMod.calls _ _ _ _ A1.out).mono ?_); rintro e w' ⟨rfl, ⟨nd, rfl⟩⟩; (try first | exact ⟨rfl, _, World.drewN_drewN _ _ _⟩ | exact ⟨rfl, _, Eq.trans (World.drewN_drewN _ _ _) (congrArg (World.drewN _) (Nat.add_assoc _ _ _))⟩)))
   repeat (go_quiet (first | (go_at_call 46; (with_reducible refine (impl_restMod.calls _ _ _ _ A1.out).mono ?_); rintro e w' ⟨rfl, ⟨nd, rfl⟩⟩; (try first | exact ⟨rfl, _, World.drewN_drewN _ _ _⟩ | exact ⟨rfl, _, Eq.trans (World.drewN_drewN _ _ _) (congrArg (World.drewN _) (Nat.add_assoc _ _ _))⟩))); try go_wp2_with (first | (go_at_call 46; (with_reducible refine (impl_restMod.calls _ _ _ _ A1.out).mono ?_); rintro e w' ⟨rfl, ⟨nd, rfl⟩⟩; (try first | exact ⟨rfl, _, World.drewN_drewN _ _ _⟩ | exact ⟨rfl, _, Eq.trans (World.drewN_drewN _ _ _) (congrArg (World.drewN _) (Nat.add_assoc _ _ _))⟩))))
   go_ret
   exact ⟨ez, YA HB⟩

mutual
def impl_restGcd.l0 : Nat → Int → List Int → Int → Int → Option (Int)
 | 0, _, _, _, _ => none
 | k + 1, x1, x2, x3, x4 => if x4 < x3 then (if 0 ≤ x4 then (if x4 < (x2.length : Int) then (impl_restGcd.l1 k x1 (rd x2 x4) x2 x3 x4) else (none)) else (none)) else (if x1 < 0 then (some (wrap64 (-x1))) else (some x1))
def impl_restGcd.l1 : Nat → Int → Int → List Int → Int → Int → Option (Int)
 | 0, _, _, _, _, _ => none
 | k + 1, x1, x2, x3, x4, x5 => if x2 = 0 then (impl_restGcd.l0 k x1 x3 x4 (wrap64 (x5 + 1))) else (impl_restGcd.l1 k x2 (Int.tmod x1 x2) x3 x4 x5)
end
def impl_restGcd.f (k : Nat) (l0 : List Int) : Option (Int) := impl_restGcd.l0 k 0 l0 (l0.length : Int) 0
theorem impl_restGcd.mono_l : ∀ k, (∀ y0 y1 y2 y3, LeO (impl_restGcd.l0 k y0 y1 y2 y3) (impl_restGcd.l0 (k + 1) y0 y1 y2 y3)) ∧ (∀ y0 y1 y2 y3 y4, LeO (impl_restGcd.l1 k y0 y1 y2 y3 y4) (impl_restGcd.l1 (k + 1) y0 y1 y2 y3 y4))
 | 0 => ⟨fun _ _ _ _ r h => by simp [impl_restGcd.l0] at h, fun _ _ _ _ _ r h => by simp [impl_restGcd.l1] at h⟩
 | k + 1 => by
  obtain ⟨ih0, ih1⟩ := impl_restGcd.mono_l k
  refine ⟨?_, ?_⟩ <;> (intros; (first | unfold impl_restGcd.l0 | unfold impl_restGcd.l1); repeat' first | (with_reducible first | apply ih0 | apply ih1 | apply LeO.refl | apply LeO.none | refine LeO.ite ?_ ?_ | refine LeO.bind ?_ (fun _ => ?_)) | apply ih0 | apply ih1 | apply LeO.none | refine LeO.ite ?_ ?_ | refine LeO.bind ?_ (fun _ => ?_))
theorem impl_restGcd.mono : ∀ a0 k, LeO (impl_restGcd.f k a0) (impl_restGcd.f (k + 1) a0) := by
 intro a0 k
 obtain ⟨ih0, ih1⟩ := impl_restGcd.mono_l k
 unfold impl_restGcd.f
 repeat' first | (with_reducible first | apply ih0 | apply ih1 | apply LeO.refl | apply LeO.none | refine LeO.ite ?_ ?_ | refine LeO.bind ?_ (fun _ => ?_)) | apply ih0 | apply ih1 | apply LeO.none | refine LeO.ite ?_ ?_ | refine LeO.bind ?_ (fun _ => ?_)
set_option maxHeartbeats 8000000 in
set_option maxRecDepth 100000 in
theorem impl_restGcd.calls (k : Nat) (A1 : Option Addr) (c1 : Nat) (l0 : List Int) (r : Int) (w : World) (hr0 : Kd.C (Kd.int .i64) w A1 l0.length l0) (hc0 : l0.length ≤ c1) (h : impl_restGcd.f k l0 = some r) :
  Calls Try.prog 55 #[.slice A1 l0.length c1] w fun e w' => e = .returned (.int .i64 r) ∧ Drawn0 w w' := by
 have R1 := am hr0
 have C1 := am hc0
 clear hr0 hc0
 have H : (impl_restGcd.l0 k 0 l0 (l0.length : Int) 0) = some r := h
 clear h
 have H' := am H
 clear H
 go_enter Try.func55, Try.ntmps55
 go_wp2
 repeat (go_quiet (fail); try go_wp2)
 go_loopg [3, 8] k (fun kq v1 v2 w' => ∃ (x1 : Int) (x2 : Int), v1 = .int .i64 x1 ∧ v2 = .int .i64 x2 ∧ Aside0 (impl_restGcd.l0 kq x1 l0 (l0.length : Int) x2 = some r) ∧ Aside0 (kq ≤ k) ∧ Drawn0 w w')
 case atStart => exact ⟨(0), (0), ey, ey, H', ⟨Nat.le_refl _⟩, by repeat (first | exact Drawn0.refl _ | apply Drawn0.step)⟩
 case round =>
  clear H'
  obtain ⟨x1, x2, rfl, rfl, HA, HK1, ⟨m1, rfl⟩⟩ := hrel
  cases gk with
  | zero => exact absurd HA.out (by simp [impl_restGcd.l0])
  | succ k1 =>
   have H := HA.out
   clear HA
   simp only [impl_restGcd.l0] at H
   by_cases c2 : x2 < (l0.length : Int)
   rotate_left
   ·rw [if_neg c2] at H
    have d1 := dF c2
    clear c2
    by_cases c3 : x1 < 0
    ·rw [if_pos c3] at H
     have d2 := dT c3
     clear c3
     obtain rfl := Option.some.inj H
     go_wp2
     repeat (go_quiet (fail); try go_wp2)
     go_ret
     exact ⟨by first | rfl | (simp; done) | (simp [*]; done), by repeat (first | exact Drawn0.refl _ | apply Drawn0.step)⟩
    rw [if_neg c3] at H
    have d2 := dF c3
    clear c3
    obtain rfl := Option.some.inj H
    go_wp2
    repeat (go_quiet (fail); try go_wp2)
    go_ret
    exact ⟨by first | rfl | (simp; done) | (simp [*]; done), by repeat (first | exact Drawn0.refl _ | apply Drawn0.step)⟩
   rw [if_pos c2] at H
   have d1 := dT c2
   clear c2
   by_cases c3 : 0 ≤ x2
   rotate_left
   ·rw [if_neg c3] at H
    exact absurd H (by simp)
   rw [if_pos c3] at H
   have d2 := dT c3
   clear c3
   by_cases c4 : x2 < (l0.length : Int)
   rotate_left
   ·rw [if_neg c4] at H
    exact absurd H (by simp)
   rw [if_pos c4] at H
   have d3 := dT c4
   clear c4
   have H' := am H
   clear H
   have p500 : 0 ≤ (x2 : Int) := oz
   have q500 : x2 < (l0.length : Int) := oz
   obtain ⟨ad500, e500, hx500_0⟩ := Kd.at_int R1.out x2 p500 q500
   cases e500
   replace p500 := eq_true p500
   replace q500 := eq_true q500
   go_wp2
   repeat (go_quiet (fail); try go_wp2)
   go_loopg [3, 5] k1 (fun kq v1 v3 w' => ∃ (x3 : Int) (x4 : Int), v1 = .int .i64 x3 ∧ v3 = .int .i64 x4 ∧ Aside0 (impl_restGcd.l1 kq x3 x4 l0 (l0.length : Int) x2 = some r) ∧ Aside0 (kq ≤ k1) ∧ Drawn0 w w')
   case atStart => exact ⟨(x1), (rd l0 x2), ey, ey, H', ⟨Nat.le_refl _⟩, by repeat (first | exact Drawn0.refl _ | apply Drawn0.step)⟩
   case round =>
    clear H'
    (try clear d1);(try clear d2);(try clear d3);(try clear hx500_0);(try clear p500);(try clear q500)
    obtain ⟨x3, x4, rfl, rfl, HA, HK2, ⟨m2, rfl⟩⟩ := hrel
    cases gk with
    | zero => exact absurd HA.out (by simp [impl_restGcd.l1])
    | succ k2 =>
     have H := HA.out
     clear HA
     simp only [impl_restGcd.l1] at H
     by_cases c5 : x4 = 0
     rotate_left
     ·rw [if_neg c5] at H
      have d4 := eF c5
      have d5 := nT c5
      have H' := am H
      clear H
      go_wp2
      repeat (go_quiet (fail); try go_wp2)
      go_roundg k2
      case measure => have := HK1.out; have := HK2.out; omega
      case rel => exact ⟨(x4), (Int.tmod x3 x4), ey, ey, H', ⟨by have := HK1.out; have := HK2.out; omega⟩, by repeat (first | exact Drawn0.refl _ | apply Drawn0.step)⟩
     rw [if_pos c5] at H
     have d4 := eT c5
     have d5 := nF c5
     clear c5
     have H' := am H
     clear H
     go_wp2
     repeat (go_quiet (fail); try go_wp2)
     go_roundg k2
     case measure => have := HK1.out; have := HK2.out; omega
     case rel => exact ⟨(x3), (wrap64 (x2 + 1)), ey, ey, H', ⟨by have := HK1.out; have := HK2.out; omega⟩, by repeat (first | exact Drawn0.refl _ | apply Drawn0.step)⟩
end
section
attribute [local go_sem] max2_int min2_int max_two min_two max_three min_three max_four min_four
attribute [local go_sem] Go.Proofs.YtdmadlfdibiejaaSet.isSome_setCell
mutual
def impl_RestMeet.j0 : Nat → Bool → Int → Int → Int → Int → Option (Int × Int × Bool)
 | 0, _, _, _, _, _ => none
 | k + 1, x1, x2, x3, x4, x5 => if x1 = true then (some (0, 0, false)) else (if x2 = 0 then ((impl_RestHas.f k x4 x5 x3).bind fun t1 => (if t1 = true then (some (x2, x3, true)) else (some (0, 0, false)))) else (if x4 = 0 then ((impl_RestHas.f k x2 x3 x5).bind fun t2 => (if t2 = true then (some (x4, x5, true)) else (some (0, 0, false)))) else ((impl_restGcd.f k (([x2, x4] : List Int))).bind fun t3 => (if t3 = 0 then (none) else (if (Int.tmod (wrap64 (x3 - x5)) t3) = 0 then (if x4 > x2 then (impl_RestMeet.j1 k t3 x4 x5 x2 x3) else (impl_RestMeet.j1 k t3 x2 x3 x4 x5)) else (some (0, 0, false)))))))
def impl_RestMeet.j1 : Nat → Int → Int → Int → Int → Int → Option (Int × Int × Bool)
 | 0, _, _, _, _, _ => none
 | k + 1, x1, x2, x3, x4, x5 => if x1 = 0 then (none) else (if (wrap64 ((wrap64 (Int.tdiv x2 x1)) * x4)) > 65536 then (some (x2, x3, true)) else (impl_RestMeet.l0 k (wrap64 ((wrap64 (Int.tdiv x2 x1)) * x4)) x3 x2 x3 x4 x5))
def impl_RestMeet.l0 : Nat → Int → Int → Int → Int → Int → Int → Option (Int × Int × Bool)
 | 0, _, _, _, _, _, _ => none
 | k + 1, x1, x2, x3, x4, x5, x6 => (impl_restMod.f x2 x5).bind fun t1 => (if t1 = x6 then (some (x1, x2, true)) else (impl_RestMeet.l0 k x1 (wrap64 (x2 + x3)) x3 x4 x5 x6))
end
def impl_RestMeet.f (k : Nat) (a0_0 : Int) (a0_1 : Int) (a1_0 : Int) (a1_1 : Int) : Option (Int × Int × Bool) := (impl_RestOk.f a0_0 a0_1).bind fun t1 => (if t1 = true then ((impl_RestOk.f a1_0 a1_1).bind fun t2 => (impl_RestMeet.j0 k (!t2) a0_0 a0_1 a1_0 a1_1)) else (impl_RestMeet.j0 k true a0_0 a0_1 a1_0 a1_1))
theorem impl_RestMeet.mono_l : ∀ k, (∀ y0 y1 y2 y3 y4, LeO (impl_RestMeet.j0 k y0 y1 y2 y3 y4) (impl_RestMeet.j0 (k + 1) y0 y1 y2 y3 y4)) ∧ (∀ y0 y1 y2 y3 y4, LeO (impl_RestMeet.j1 k y0 y1 y2 y3 y4) (impl_RestMeet.j1 (k + 1) y0 y1 y2 y3 y4)) ∧ (∀ y0 y1 y2 y3 y4 y5, LeO (impl_RestMeet.l0 k y0 y1 y2 y3 y4 y5) (impl_RestMeet.l0 (k + 1) y0 y1 y2 y3 y4 y5))
 | 0 => ⟨fun _ _ _ _ _ r h => by simp [impl_RestMeet.j0] at h, fun _ _ _ _ _ r h => by simp [impl_RestMeet.j1] at h, fun _ _ _ _ _ _ r h => by simp [impl_RestMeet.l0] at h⟩
 | k + 1 => by
  obtain ⟨ih0, ih1, ih2⟩ := impl_RestMeet.mono_l k
  refine ⟨?_, ?_, ?_⟩ <;> (intros; (first | unfold impl_RestMeet.j0 | unfold impl_RestMeet.j1 | unfold impl_RestMeet.l0); repeat' first | (with_reducible first | apply ih0 | apply ih1 | apply ih2 | apply impl_RestHas.mono | apply impl_restGcd.mono | apply LeO.refl | apply LeO.none | refine LeO.ite ?_ ?_ | refine LeO.bind ?_ (fun _ => ?_)) | apply ih0 | apply ih1 | apply ih2 | apply impl_RestHas.mono | apply impl_restGcd.mono | apply LeO.none | refine LeO.ite ?_ ?_ | refine LeO.bind ?_ (fun _ => ?_))
theorem impl_RestMeet.mono : ∀ a0 a1 a2 a3 k, LeO (impl_RestMeet.f k a0 a1 a2 a3) (impl_RestMeet.f (k + 1) a0 a1 a2 a3) := by
 intro a0 a1 a2 a3 k
 obtain ⟨ih0, ih1, ih2⟩ := impl_RestMeet.mono_l k
 unfold impl_RestMeet.f
 repeat' first | (with_reducible first | apply ih0 | apply ih1 | apply ih2 | apply impl_RestHas.mono | apply impl_restGcd.mono | apply LeO.refl | apply LeO.none | refine LeO.ite ?_ ?_ | refine LeO.bind ?_ (fun _ => ?_)) | apply ih0 | apply ih1 | apply ih2 | apply impl_RestHas.mono | apply impl_restGcd.mono | apply LeO.none | refine LeO.ite ?_ ?_ | refine LeO.bind ?_ (fun _ => ?_)
set_option maxHeartbeats 8000000 in
set_option maxRecDepth 100000 in
theorem impl_RestMeet.calls (k : Nat) (a0_0 : Int) (a0_1 : Int) (a1_0 : Int) (a1_1 : Int) (r1 : Int) (r2 : Int) (r3 : Bool) (w : World) (h : impl_RestMeet.f k a0_0 a0_1 a1_0 a1_1 = some (r1, r2, r3)) :
  Calls Try.prog 47 #[.agg #[.int .i64 a0_0, .int .i64 a0_1], .agg #[.int .i64 a1_0, .int .i64 a1_1]] w fun e w' => e = .returned (.tuple #[.agg #[.int .i64 r1, .int .i64 r2], .bool r3]) ∧ Below w.heap.size w w' := by
 have hu39 := Try.underlying39
 have HB := am (Below.refl w.heap.size w)
 have H : ((impl_RestOk.f a0_0 a0_1).bind fun t1 => (if t1 = true then ((impl_RestOk.f a1_0 a1_1).bind fun t2 => (impl_RestMeet.j0 k (!t2) a0_0 a0_1 a1_0 a1_1)) else (impl_RestMeet.j0 k true a0_0 a0_1 a1_0 a1_1))) = some (r1, r2, r3) := h
 clear h
 have C1 := am H
 clear H
 go_enter Try.func47, Try.ntmps47
 go_upto_region 1 with (first | ((with_reducible refine gate_dst (N := 2) rfl ?_); refine bxn 2 #[.int .i64 a0_0, .int .i64 a0_1] 39 HB fun g1 w1 K1 G1 hg hb => ?_; replace HB := am (below_step (YA HB) hb); clear hb hg) | ((with_reducible refine gate_dst (N := 3) rfl ?_); refine bxn 3 #[.int .i64 a1_0, .int .i64 a1_1] 39 HB fun g2 w2 K2 G2 hg hb => ?_; obtain ⟨N1,N2⟩ := ne_ hg K1; obtain ⟨K1, HB⟩ := bk1 K1 HB hb; clear hb hg) | ((with_reducible refine gate_dst (N := 4) rfl ?_); refine bxn 4 #[.int .i64 0, .int .i64 0] 39 HB fun g3 w3 K3 G3 hg hb => ?_; obtain ⟨N3,N4⟩ := ne_ hg K1; obtain ⟨N5,N6⟩ := ne_ hg K2; obtain ⟨K1, K2, HB⟩ := bk2 K1 K2 HB hb; clear hb hg))
 repeat (go_quiet (first | ((with_reducible refine gate_dst (N := 2) rfl ?_); refine bxn 2 #[.int .i64 a0_0, .int .i64 a0_1] 39 HB fun g1 w1 K1 G1 hg hb => ?_; replace HB := am (below_step (YA HB) hb); clear hb hg) | ((with_reducible refine gate_dst (N := 3) rfl ?_); refine bxn 3 #[.int .i64 a1_0, .int .i64 a1_1] 39 HB fun g2 w2 K2 G2 hg hb => ?_; obtain ⟨N1,N2⟩ := ne_ hg K1; obtain ⟨K1, HB⟩ := bk1 K1 HB hb; clear hb hg) | ((with_reducible refine gate_dst (N := 4) rfl ?_); refine bxn 4 #[.int .i64 0, .int .i64 0] 39 HB fun g3 w3 K3 G3 hg hb => ?_; obtain ⟨N3,N4⟩ := ne_ hg K1; obtain ⟨N5,N6⟩ := ne_ hg K2; obtain ⟨K1, K2, HB⟩ := bk2 K1 K2 HB hb; clear hb hg)); go_upto_region 1 with (first | ((with_reducible refine gate_dst (N := 2) rfl ?_); refine bxn 2 #[.int .i64 a0_0, .int .i64 a0_1] 39 HB fun g1 w1 K1 G1 hg hb => ?_; replace HB := am (below_step (YA HB) hb); clear hb hg) | ((with_reducible refine gate_dst (N := 3) rfl ?_); refine bxn 3 #[.int .i64 a1_0, .int .i64 a1_1] 39 HB fun g2 w2 K2 G2 hg hb => ?_; obtain ⟨N1,N2⟩ := ne_ hg K1; obtain ⟨K1, HB⟩ := bk1 K1 HB hb; clear hb hg) | ((with_reducible refine gate_dst (N := 4) rfl ?_); refine bxn 4 #[.int .i64 0, .int .i64 0] 39 HB fun g3 w3 K3 G3 hg hb => ?_; obtain ⟨N3,N4⟩ := ne_ hg K1; obtain ⟨N5,N6⟩ := ne_ hg K2; obtain ⟨K1, K2, HB⟩ := bk2 K1 K2 HB hb; clear hb hg)))
 (try simp only [Act.put, List.setIfInBounds_toArray, List.set_cons_zero, List.set_cons_succ])
 go_cut [16] (fun v1 wc => ∃ (kq : Nat) (x1 : Bool), v1 = .bool x1 ∧ Aside0 (impl_RestMeet.j0 kq x1 a0_0 a0_1 a1_0 a1_1 = some (r1, r2, r3)) ∧ Aside0 (kq ≤ k) ∧ Bx2 wc g1 a0_0 a0_1 39 ∧ Bx2 wc g2 a1_0 a1_1 39 ∧ Bx2 wc g3 0 0 39 ∧ Aside0 (Below w.heap.size w wc))
 case first =>
  have H := C1.out
  clear C1
  obtain ⟨t1, A1, H⟩ := bd H
  try dsimp only at H
  by_cases c1 : t1 = true
  rotate_left
  ·replace c1 := Bool.eq_false_iff.mpr c1
   subst c1
   rw [if_neg ff] at H
   have H' := am H
   clear H
   have z_ := ns2 N1 N3
   have z_ := cB2 K1
   go_wp2_with (first | (go_at_call 43; (with_reducible refine (impl_RestOk.calls _ _ _ _ A1.out).mono ?_); rintro e w4 ⟨rfl, hb⟩; obtain ⟨K1, K2, K3, HB⟩ := bk3 K1 K2 K3 HB hb; (try clear hb)))
   repeat (go_quiet (first | (go_at_call 43; (with_reducible refine (impl_RestOk.calls _ _ _ _ A1.out).mono ?_); rintro e w4 ⟨rfl, hb⟩; obtain ⟨K1, K2, K3, HB⟩ := bk3 K1 K2 K3 HB hb; (try clear hb))); try go_wp2_with (first | (go_at_call 43; (with_reducible refine (impl_RestOk.calls _ _ _ _ A1.out).mono ?_); rintro e w4 ⟨rfl, hb⟩; obtain ⟨K1, K2, K3, HB⟩ := bk3 K1 K2 K3 HB hb; (try clear hb))))
   go_meet
   case rel => exact ⟨_, (true), ey, H', le0, ⟨Z K1⟩, ⟨Z K2⟩, ⟨Z K3⟩, ⟨YA HB⟩⟩
  subst c1
  rw [if_pos rfl] at H
  obtain ⟨t2, A2, H⟩ := bd H
  try dsimp only at H
  have H' := am H
  clear H
  have z_ := ns2 N1 N3
  have z_ := cB2 K1
  go_wp2_with (first | (go_at_call 43; (with_reducible refine (impl_RestOk.calls _ _ _ _ A1.out).mono ?_); rintro e w4 ⟨rfl, hb⟩; obtain ⟨K1, K2, K3, HB⟩ := bk3 K1 K2 K3 HB hb; (try clear hb); have z_ := ns1 N5; have z_ := cB2 K2) | (go_at_call 43; (with_reducible refine (impl_RestOk.calls _ _ _ _ A2.out).mono ?_); rintro e w5 ⟨rfl, hb⟩; obtain ⟨K1, K2, K3, HB⟩ := bk3 K1 K2 K3 HB hb; (try clear hb)))
  try have z1 := N5.out
  try have z2 := N6.out
  try have z3 := bc K2 0
  try have z4 := bc K2 1
  try have z5 := blk_frozen K2.out 0
  try have z6 := blk_frozen K2.out 1
  repeat (go_quiet (first | (go_at_call 43; (with_reducible refine (impl_RestOk.calls _ _ _ _ A1.out).mono ?_); rintro e w4 ⟨rfl, hb⟩; obtain ⟨K1, K2, K3, HB⟩ := bk3 K1 K2 K3 HB hb; (try clear hb); (try (have z_ := ns1 N5; have z_ := cB2 K2))) | (go_at_call 43; (with_reducible refine (impl_RestOk.calls _ _ _ _ A2.out).mono ?_); rintro e w5 ⟨rfl, hb⟩; obtain ⟨K1, K2, K3, HB⟩ := bk3 K1 K2 K3 HB hb; (try clear hb))); try go_wp2_with (first | (go_at_call 43; (with_reducible refine (impl_RestOk.calls _ _ _ _ A1.out).mono ?_); rintro e w4 ⟨rfl, hb⟩; obtain ⟨K1, K2, K3, HB⟩ := bk3 K1 K2 K3 HB hb; (try clear hb); (try (have z_ := ns1 N5; have z_ := cB2 K2))) | (go_at_call 43; (with_reducible refine (impl_RestOk.calls _ _ _ _ A2.out).mono ?_); rintro e w5 ⟨rfl, hb⟩; obtain ⟨K1, K2, K3, HB⟩ := bk3 K1 K2 K3 HB hb; (try clear hb))))
  go_meet
  case rel => exact ⟨_, (!t2), ey, H', le0, ⟨Z K1⟩, ⟨Z K2⟩, ⟨Z K3⟩, ⟨YA HB⟩⟩
 case rest =>
  clear C1
  obtain ⟨kq, x1, rfl, HA, J1, K1, K2, K3, HB⟩ := hcut
  cases kq with
  | zero => exact absurd HA.out (by simp [impl_RestMeet.j0])
  | succ k1 =>
   have H := HA.out
   clear HA
   simp only [impl_RestMeet.j0] at H
   by_cases c1 : x1 = true
   ·subst c1
    rw [if_pos rfl] at H
    simp only [Option.some.injEq, Prod.mk.injEq] at H
    obtain ⟨rfl, rfl, rfl⟩ := H
    have z_ := ns2 N4 N6
    have z_ := cB2 K3
    go_wp2
    repeat (go_quiet (fail); try go_wp2)
    refine bodyPost_ret (results_ct rfl _ _ g3 39 #[.int .i64 0, .int .i64 0] (0, 0) _ rfl (by refine pf ?_; refine blk_put (cs := #[.int .i64 0, .int .i64 0]) ?_ 1 _ rfl; refine pf ?_; refine blk_put (cs := #[.int .i64 0, .int .i64 0]) ?_ 0 _ rfl; exact Z K3) Try.underlying39 rfl (by kernel_rfl)) rfl ?_
    exact ⟨ez, YA HB⟩
   replace c1 := Bool.eq_false_iff.mpr c1
   subst c1
   rw [if_neg ff] at H
   by_cases c2 : a0_0 = 0
   ·rw [if_pos c2] at H
    have d1 := eT c2
    have d2 := nF c2
    clear c2
    obtain ⟨t3, A1, H⟩ := bd H
    try dsimp only at H
    by_cases c3 : t3 = true
    rotate_left
    ·replace c3 := Bool.eq_false_iff.mpr c3
     subst c3
     rw [if_neg ff] at H
     simp only [Option.some.injEq, Prod.mk.injEq] at H
     obtain ⟨rfl, rfl, rfl⟩ := H
     have z_ := ns3 N1 N3 N5
     have z_ := cB2 K1
     have z_ := cB2 K2
     go_wp2_with (first | (go_at_call 54; (with_reducible refine (impl_RestHas.calls _ _ _ _ _ _ A1.out).mono ?_); rintro e w4 ⟨rfl, hb⟩; obtain ⟨K1, K2, K3, HB⟩ := bk3 K1 K2 K3 HB hb; (try clear hb); have z_ := cB2 K3))
     try have z1 := bc K3 0
     try have z2 := bc K3 1
     try have z3 := blk_frozen K3.out 0
     try have z4 := blk_frozen K3.out 1
     repeat (go_quiet (first | (go_at_call 54; (with_reducible refine (impl_RestHas.calls _ _ _ _ _ _ A1.out).mono ?_); rintro e w4 ⟨rfl, hb⟩; obtain ⟨K1, K2, K3, HB⟩ := bk3 K1 K2 K3 HB hb; (try clear hb); (try (have z_ := cB2 K3)))); try go_wp2_with (first | (go_at_call 54; (with_reducible refine (impl_RestHas.calls _ _ _ _ _ _ A1.out).mono ?_); rintro e w4 ⟨rfl, hb⟩; obtain ⟨K1, K2, K3, HB⟩ := bk3 K1 K2 K3 HB hb; (try clear hb); (try (have z_ := cB2 K3)))))
     refine bodyPost_ret (results_ct rfl _ _ g3 39 #[.int .i64 0, .int .i64 0] (0, 0) _ rfl (by refine pf ?_; refine blk_put (cs := #[.int .i64 0, .int .i64 0]) ?_ 1 _ rfl; refine pf ?_; refine blk_put (cs := #[.int .i64 0, .int .i64 0]) ?_ 0 _ rfl; exact Z K3) Try.underlying39 rfl (by kernel_rfl)) rfl ?_
     exact ⟨ez, YA HB⟩
    subst c3
    rw [if_pos rfl] at H
    simp only [Option.some.injEq, Prod.mk.injEq] at H
    obtain ⟨rfl, rfl, rfl⟩ := H
    have z_ := ns3 N1 N3 N5
    have z_ := cB2 K1
    have z_ := cB2 K2
    go_wp2_with (first | (go_at_call 54; (with_reducible refine (impl_RestHas.calls _ _ _ _ _ _ A1.out).mono ?_); rintro e w4 ⟨rfl, hb⟩; obtain ⟨K1, K2, K3, HB⟩ := bk3 K1 K2 K3 HB hb; (try clear hb); have z_ := cB2 K1; have z_ := cB2 K3))
    try have z1 := bc K1 0
    try have z2 := bc K1 1
    try have z3 := blk_frozen K1.out 0
    try have z4 := blk_frozen K1.out 1
    try have z5 := bc K3 0
    try have z6 := bc K3 1
    try have z7 := blk_frozen K3.out 0
    try have z8 := blk_frozen K3.out 1
    repeat (go_quiet (first | (go_at_call 54; (with_reducible refine (impl_RestHas.calls _ _ _ _ _ _ A1.out).mono ?_); rintro e w4 ⟨rfl, hb⟩; obtain ⟨K1, K2, K3, HB⟩ := bk3 K1 K2 K3 HB hb; (try clear hb); (try (have z_ := cB2 K1; have z_ := cB2 K3)))); try go_wp2_with (first | (go_at_call 54; (with_reducible refine (impl_RestHas.calls _ _ _ _ _ _ A1.out).mono ?_); rintro e w4 ⟨rfl, hb⟩; obtain ⟨K1, K2, K3, HB⟩ := bk3 K1 K2 K3 HB hb; (try clear hb); (try (have z_ := cB2 K1; have z_ := cB2 K3)))))
    refine bodyPost_ret (results_ct rfl _ _ g3 39 #[.int .i64 a0_0, .int .i64 a0_1] (0, 0) _ rfl (by refine pf ?_; refine blk_put (cs := #[.int .i64 a0_0, .int .i64 0]) ?_ 1 _ rfl; refine pf ?_; refine blk_put (cs := #[.int .i64 0, .int .i64 0]) ?_ 0 _ rfl; exact Z K3) Try.underlying39 rfl (by kernel_rfl)) rfl ?_
    exact ⟨ez, YA HB⟩
   rw [if_neg c2] at H
   have d1 := eF c2
   have d2 := nT c2
   by_cases c3 : a1_0 = 0
   ·rw [if_pos c3] at H
    have d3 := eT c3
    have d4 := nF c3
    clear c3
    obtain ⟨t3, A1, H⟩ := bd H
    try dsimp only at H
    by_cases c4 : t3 = true
    rotate_left
    ·replace c4 := Bool.eq_false_iff.mpr c4
     subst c4
     rw [if_neg ff] at H
     simp only [Option.some.injEq, Prod.mk.injEq] at H
     obtain ⟨rfl, rfl, rfl⟩ := H
     have z_ := ns3 N1 N3 N5
     have z_ := cB2 K1
     have z_ := cB2 K2
     go_wp2_with (first | (go_at_call 54; (with_reducible refine (impl_RestHas.calls _ _ _ _ _ _ A1.out).mono ?_); rintro e w4 ⟨rfl, hb⟩; obtain ⟨K1, K2, K3, HB⟩ := bk3 K1 K2 K3 HB hb; (try clear hb); have z_ := cB2 K3))
     try have z1 := bc K3 0
     try have z2 := bc K3 1
     try have z3 := blk_frozen K3.out 0
     try have z4 := blk_frozen K3.out 1
     repeat (go_quiet (first | (go_at_call 54; (with_reducible refine (impl_RestHas.calls _ _ _ _ _ _ A1.out).mono ?_); rintro e w4 ⟨rfl, hb⟩; obtain ⟨K1, K2, K3, HB⟩ := bk3 K1 K2 K3 HB hb; (try clear hb); (try (have z_ := cB2 K3)))); try go_wp2_with (first | (go_at_call 54; (with_reducible refine (impl_RestHas.calls _ _ _ _ _ _ A1.out).mono ?_); rintro e w4 ⟨rfl, hb⟩; obtain ⟨K1, K2, K3, HB⟩ := bk3 K1 K2 K3 HB hb; (try clear hb); (try (have z_ := cB2 K3)))))
     refine bodyPost_ret (results_ct rfl _ _ g3 39 #[.int .i64 0, .int .i64 0] (0, 0) _ rfl (by refine pf ?_; refine blk_put (cs := #[.int .i64 0, .int .i64 0]) ?_ 1 _ rfl; refine pf ?_; refine blk_put (cs := #[.int .i64 0, .int .i64 0]) ?_ 0 _ rfl; exact Z K3) Try.underlying39 rfl (by kernel_rfl)) rfl ?_
     exact ⟨ez, YA HB⟩
    subst c4
    rw [if_pos rfl] at H
    simp only [Option.some.injEq, Prod.mk.injEq] at H
    obtain ⟨rfl, rfl, rfl⟩ := H
    have z_ := ns3 N1 N3 N5
    have z_ := cB2 K1
    have z_ := cB2 K2
    go_wp2_with (first | (go_at_call 54; (with_reducible refine (impl_RestHas.calls _ _ _ _ _ _ A1.out).mono ?_); rintro e w4 ⟨rfl, hb⟩; obtain ⟨K1, K2, K3, HB⟩ := bk3 K1 K2 K3 HB hb; (try clear hb); have z_ := cB2 K2; have z_ := cB2 K3))
    try have z1 := bc K2 0
    try have z2 := bc K2 1
    try have z3 := blk_frozen K2.out 0
    try have z4 := blk_frozen K2.out 1
    try have z5 := bc K3 0
    try have z6 := bc K3 1
    try have z7 := blk_frozen K3.out 0
    try have z8 := blk_frozen K3.out 1
    repeat (go_quiet (first | (go_at_call 54; (with_reducible refine (impl_RestHas.calls _ _ _ _ _ _ A1.out).mono ?_); rintro e w4 ⟨rfl, hb⟩; obtain ⟨K1, K2, K3, HB⟩ := bk3 K1 K2 K3 HB hb; (try clear hb); (try (have z_ := cB2 K2; have z_ := cB2 K3)))); try go_wp2_with (first | (go_at_call 54; (with_reducible refine (impl_RestHas.calls _ _ _ _ _ _ A1.out).mono ?_); rintro e w4 ⟨rfl, hb⟩; obtain ⟨K1, K2, K3, HB⟩ := bk3 K1 K2 K3 HB hb; (try clear hb); (try (have z_ := cB2 K2; have z_ := cB2 K3)))))
    refine bodyPost_ret (results_ct rfl _ _ g3 39 #[.int .i64 a1_0, .int .i64 a1_1] (0, 0) _ rfl (by refine pf ?_; refine blk_put (cs := #[.int .i64 a1_0, .int .i64 0]) ?_ 1 _ rfl; refine pf ?_; refine blk_put (cs := #[.int .i64 0, .int .i64 0]) ?_ 0 _ rfl; exact Z K3) Try.underlying39 rfl (by kernel_rfl)) rfl ?_
    exact ⟨ez, YA HB⟩
   rw [if_neg c3] at H
   have d3 := eF c3
   have d4 := nT c3
   obtain ⟨y1, y2⟩ : ∃ y_ : List Int, y_ = (([a0_0, a1_0] : List Int)) := ⟨_, rfl⟩
   replace H : ((impl_restGcd.f k1 y1).bind fun t3 => (if t3 = 0 then (none) else (if (Int.tmod (wrap64 (a0_1 - a1_1)) t3) = 0 then (if a1_0 > a0_0 then (impl_RestMeet.j1 k1 t3 a1_0 a1_1 a0_0 a0_1) else (impl_RestMeet.j1 k1 t3 a0_0 a0_1 a1_0 a1_1)) else (some (0, 0, false))))) = some (r1, r2, r3) := by first | (rw [y2]; with_reducible exact H) | (have H2_ := (Option.bind_some _ _).symm.trans H; rw [y2]; with_reducible exact H2_) | (have H2_ := (Option.bind_some _ _).symm.trans H; with_reducible exact H2_) | with_reducible exact H | (rw [y2]; exact H) | exact H
   have Y25 := am y2
   clear y2
   obtain ⟨t3, A1, H⟩ := bd H
   try dsimp only at H
   by_cases c4 : t3 = 0
   ·rw [if_pos c4] at H
    exact absurd H (by simp)
   rw [if_neg c4] at H
   have d5 := eF c4
   have d6 := nT c4
   by_cases c5 : (Int.tmod (wrap64 (a0_1 - a1_1)) t3) = 0
   rotate_left
   ·rw [if_neg c5] at H
    have d7 := eF c5
    have d8 := nT c5
    simp only [Option.some.injEq, Prod.mk.injEq] at H
    obtain ⟨rfl, rfl, rfl⟩ := H
    have z_ := ns3 N1 N3 N5
    have z_ := cB2 K1
    have z_ := cB2 K2
    go_wp2_with (first | ((with_reducible refine gate_dst (N := 40) rfl ?_); refine Kd.R_lit (Kd.int .i64) _ 3 ?hg (N := 40) ?hd (xs := ([a0_0, a1_0] : List Int)) (inner := [.int .i64 a0_0, .int .i64 a1_0]) (ok := fun _ => True) (okp := fun _ => True) ?hr ?hp (fun _ hk => hk) trivial (Below.refl _ _) (Nat.le_refl _) (by simp) ?_; (case hd => rfl); (case hg => rfl); (case hr => first | (go_simp; done) | (go_simp; rfl)); (case hp => exact (Reps.one (show Kd.M (Kd.int .i64) _ _ _ a0_0 [.int .i64 a0_0] from rfl) (Reps.one (show Kd.M (Kd.int .i64) _ _ _ a1_0 [.int .i64 a1_0] from rfl) (Reps.none _ _)))); intro v2 w4 o1 hb hg_ hnew_; clear hg_ hnew_; (first | rw [← Y25.out] at o1 | (simp only [Int.reduceToNat] at o1; rw [← Y25.out] at o1)); have O1 := am (Kd.R_lower o1 (below_size (YA HB))); obtain ⟨K1, K2, K3, HB⟩ := bk3 K1 K2 K3 HB hb; clear hb o1; obtain ⟨q1, f1, e1⟩ := Kd.R_slice O1.out; subst e1) | (go_at_call 55; (with_reducible refine (impl_restGcd.calls k1 _ _ y1 t3 _ ?side1 ?side2 A1.out).mono ?_); (case side1 => repeat (first | exact (Kd.R_reads' O1.out).2.2 | (with_reducible refine Kd.C_alloc ?_ _) | (with_reducible refine Kd.C_drewN ?_ _) | (with_reducible refine Kd.C_drew ?_))); (case side2 => exact (Kd.R_reads' O1.out).2.1); rintro e w' ⟨rfl, ⟨nd, rfl⟩⟩; (try first | exact ⟨rfl, _, World.drewN_drewN _ _ _⟩ | exact ⟨rfl, _, Eq.trans (World.drewN_drewN _ _ _) (congrArg (World.drewN _) (Nat.add_assoc _ _ _))⟩); have z_ := cB2 K1; have z_ := cB2 K2; have z_ := cB2 K3))
    try have z1 := bc K1 0
    try have z2 := bc K1 1
    try have z3 := blk_frozen K1.out 0
    try have z4 := blk_frozen K1.out 1
    try have z5 := bc K2 0
    try have z6 := bc K2 1
    try have z7 := blk_frozen K2.out 0
    try have z8 := blk_frozen K2.out 1
    try have z9 := bc K3 0
    try have z10 := bc K3 1
    try have z11 := blk_frozen K3.out 0
    try have z12 := blk_frozen K3.out 1
    repeat (go_quiet (first | ((with_reducible refine gate_dst (N := 40) rfl ?_); refine Kd.R_lit (Kd.int .i64) _ 3 ?hg (N := 40) ?hd (xs := ([a0_0, a1_0] : List Int)) (inner := [.int .i64 a0_0, .int .i64 a1_0]) (ok := fun _ => True) (okp := fun _ => True) ?hr ?hp (fun _ hk => hk) trivial (Below.refl _ _) (Nat.le_refl _) (by simp) ?_; (case hd => rfl); (case hg => rfl); (case hr => first | (go_simp; done) | (go_simp; rfl)); (case hp => exact (Reps.one (show Kd.M (Kd.int .i64) _ _ _ a0_0 [.int .i64 a0_0] from rfl) (Reps.one (show Kd.M (Kd.int .i64) _ _ _ a1_0 [.int .i64 a1_0] from rfl) (Reps.none _ _)))); intro v2 w4 o1 hb hg_ hnew_; clear hg_ hnew_; (first | rw [← Y25.out] at o1 | (simp only [Int.reduceToNat] at o1; rw [← Y25.out] at o1)); have O1 := am (Kd.R_lower o1 (below_size (YA HB))); obtain ⟨K1, K2, K3, HB⟩ := bk3 K1 K2 K3 HB hb; clear hb o1; obtain ⟨q1, f1, e1⟩ := Kd.R_slice O1.out; subst e1) | (go_at_call 55; (with_reducible refine (impl_restGcd.calls k1 _ _ y1 t3 _ ?side1 ?side2 A1.out).mono ?_); (case side1 => repeat (first | exact (Kd.R_reads' O1.out).2.2 | (with_reducible refine Kd.C_alloc ?_ _) | (with_reducible refine Kd.C_drewN ?_ _) | (with_reducible refine Kd.C_drew ?_))); (case side2 => exact (Kd.R_reads' O1.out).2.1); rintro e w' ⟨rfl, ⟨nd, rfl⟩⟩; (try first | exact ⟨rfl, _, World.drewN_drewN _ _ _⟩ | exact ⟨rfl, _, Eq.trans (World.drewN_drewN _ _ _) (congrArg (World.drewN _) (Nat.add_assoc _ _ _))⟩); (try (have z_ := cB2 K1; have z_ := cB2 K2; have z_ := cB2 K3)))); try go_wp2_with (first | ((with_reducible refine gate_dst (N := 40) rfl ?_); refine Kd.R_lit (Kd.int .i64) _ 3 ?hg (N := 40) ?hd (xs := ([a0_0, a1_0] : List Int)) (inner := [.int .i64 a0_0, .int .i64 a1_0]) (ok := fun _ => True) (okp := fun _ => True) ?hr ?hp (fun _ hk => hk) trivial (Below.refl _ _) (Nat.le_refl _) (by simp) ?_; (case hd => rfl); (case hg => rfl); (case hr => first | (go_simp; done) | (go_simp; rfl)); (case hp => exact (Reps.one (show Kd.M (Kd.int .i64) _ _ _ a0_0 [.int .i64 a0_0] from rfl) (Reps.one (show Kd.M (Kd.int .i64) _ _ _ a1_0 [.int .i64 a1_0] from rfl) (Reps.none _ _)))); intro v2 w4 o1 hb hg_ hnew_; clear hg_ hnew_; (first | rw [← Y25.out] at o1 | (simp only [Int.reduceToNat] at o1; rw [← Y25.out] at o1)); have O1 := am (Kd.R_lower o1 (below_size (YA HB))); obtain ⟨K1, K2, K3, HB⟩ := bk3 K1 K2 K3 HB hb; clear hb o1; obtain ⟨q1, f1, e1⟩ := Kd.R_slice O1.out; subst e1) | (go_at_call 55; (with_reducible refine (impl_restGcd.calls k1 _ _ y1 t3 _ ?side1 ?side2 A1.out).mono ?_); (case side1 => repeat (first | exact (Kd.R_reads' O1.out).2.2 | (with_reducible refine Kd.C_alloc ?_ _) | (with_reducible refine Kd.C_drewN ?_ _) | (with_reducible refine Kd.C_drew ?_))); (case side2 => exact (Kd.R_reads' O1.out).2.1); rintro e w' ⟨rfl, ⟨nd, rfl⟩⟩; (try first | exact ⟨rfl, _, World.drewN_drewN _ _ _⟩ | exact ⟨rfl, _, Eq.trans (World.drewN_drewN _ _ _) (congrArg (World.drewN _) (Nat.add_assoc _ _ _))⟩); (try (have z_ := cB2 K1; have z_ := cB2 K2; have z_ := cB2 K3)))))
    refine bodyPost_ret (results_ct rfl _ _ g3 39 #[.int .i64 0, .int .i64 0] (0, 0) _ rfl (by refine pf ?_; refine blk_put (cs := #[.int .i64 0, .int .i64 0]) ?_ 1 _ rfl; refine pf ?_; refine blk_put (cs := #[.int .i64 0, .int .i64 0]) ?_ 0 _ rfl; exact Z K3) Try.underlying39 rfl (by kernel_rfl)) rfl ?_
    exact ⟨ez, YA HB⟩
   rw [if_pos c5] at H
   have d7 := eT c5
   have d8 := nF c5
   clear c5
   have C2 := am H
   clear H
   have z_ := ns3 N1 N3 N5
   have z_ := cB2 K1
   have z_ := cB2 K2
   go_upto_if 55 with (first | ((with_reducible refine gate_dst (N := 40) rfl ?_); refine Kd.R_lit (Kd.int .i64) _ 3 ?hg (N := 40) ?hd (xs := ([a0_0, a1_0] : List Int)) (inner := [.int .i64 a0_0, .int .i64 a1_0]) (ok := fun _ => True) (okp := fun _ => True) ?hr ?hp (fun _ hk => hk) trivial (Below.refl _ _) (Nat.le_refl _) (by simp) ?_; (case hd => rfl); (case hg => rfl); (case hr => first | (go_simp; done) | (go_simp; rfl)); (case hp => exact (Reps.one (show Kd.M (Kd.int .i64) _ _ _ a0_0 [.int .i64 a0_0] from rfl) (Reps.one (show Kd.M (Kd.int .i64) _ _ _ a1_0 [.int .i64 a1_0] from rfl) (Reps.none _ _)))); intro v2 w4 o1 hb hg_ hnew_; clear hg_ hnew_; (first | rw [← Y25.out] at o1 | (simp only [Int.reduceToNat] at o1; rw [← Y25.out] at o1)); have O1 := am (Kd.R_lower o1 (below_size (YA HB))); obtain ⟨K1, K2, K3, HB⟩ := bk3 K1 K2 K3 HB hb; clear hb o1; obtain ⟨q1, f1, e1⟩ := Kd.R_slice O1.out; subst e1) | (go_at_call 55; (with_reducible refine (impl_restGcd.calls k1 _ _ y1 t3 _ ?side1 ?side2 A1.out).mono ?_); (case side1 => repeat (first | exact (Kd.R_reads' O1.out).2.2 | (with_reducible refine Kd.C_alloc ?_ _) | (with_reducible refine Kd.C_drewN ?_ _) | (with_reducible refine Kd.C_drew ?_))); (case side2 => exact (Kd.R_reads' O1.out).2.1); rintro e w' ⟨rfl, ⟨nd, rfl⟩⟩; (try first | exact ⟨rfl, _, World.drewN_drewN _ _ _⟩ | exact ⟨rfl, _, Eq.trans (World.drewN_drewN _ _ _) (congrArg (World.drewN _) (Nat.add_assoc _ _ _))⟩); have z_ := cB2 K1; have z_ := cB2 K2))
   try have z1 := bc K1 0
   try have z2 := bc K1 1
   try have z3 := blk_frozen K1.out 0
   try have z4 := blk_frozen K1.out 1
   try have z5 := bc K2 0
   try have z6 := bc K2 1
   try have z7 := blk_frozen K2.out 0
   try have z8 := blk_frozen K2.out 1
   repeat (go_quiet (first | ((with_reducible refine gate_dst (N := 40) rfl ?_); refine Kd.R_lit (Kd.int .i64) _ 3 ?hg (N := 40) ?hd (xs := ([a0_0, a1_0] : List Int)) (inner := [.int .i64 a0_0, .int .i64 a1_0]) (ok := fun _ => True) (okp := fun _ => True) ?hr ?hp (fun _ hk => hk) trivial (Below.refl _ _) (Nat.le_refl _) (by simp) ?_; (case hd => rfl); (case hg => rfl); (case hr => first | (go_simp; done) | (go_simp; rfl)); (case hp => exact (Reps.one (show Kd.M (Kd.int .i64) _ _ _ a0_0 [.int .i64 a0_0] from rfl) (Reps.one (show Kd.M (Kd.int .i64) _ _ _ a1_0 [.int .i64 a1_0] from rfl) (Reps.none _ _)))); intro v2 w4 o1 hb hg_ hnew_; clear hg_ hnew_; (first | rw [← Y25.out] at o1 | (simp only [Int.reduceToNat] at o1; rw [← Y25.out] at o1)); have O1 := am (Kd.R_lower o1 (below_size (YA HB))); obtain ⟨K1, K2, K3, HB⟩ := bk3 K1 K2 K3 HB hb; clear hb o1; obtain ⟨q1, f1, e1⟩ := Kd.R_slice O1.out; subst e1) | (go_at_call 55; (with_reducible refine (impl_restGcd.calls k1 _ _ y1 t3 _ ?side1 ?side2 A1.out).mono ?_); (case side1 => repeat (first | exact (Kd.R_reads' O1.out).2.2 | (with_reducible refine Kd.C_alloc ?_ _) | (with_reducible refine Kd.C_drewN ?_ _) | (with_reducible refine Kd.C_drew ?_))); (case side2 => exact (Kd.R_reads' O1.out).2.1); rintro e w' ⟨rfl, ⟨nd, rfl⟩⟩; (try first | exact ⟨rfl, _, World.drewN_drewN _ _ _⟩ | exact ⟨rfl, _, Eq.trans (World.drewN_drewN _ _ _) (congrArg (World.drewN _) (Nat.add_assoc _ _ _))⟩); (try (have z_ := cB2 K1; have z_ := cB2 K2)))); go_upto_if 55 with (first | ((with_reducible refine gate_dst (N := 40) rfl ?_); refine Kd.R_lit (Kd.int .i64) _ 3 ?hg (N := 40) ?hd (xs := ([a0_0, a1_0] : List Int)) (inner := [.int .i64 a0_0, .int .i64 a1_0]) (ok := fun _ => True) (okp := fun _ => True) ?hr ?hp (fun _ hk => hk) trivial (Below.refl _ _) (Nat.le_refl _) (by simp) ?_; (case hd => rfl); (case hg => rfl); (case hr => first | (go_simp; done) | (go_simp; rfl)); (case hp => exact (Reps.one (show Kd.M (Kd.int .i64) _ _ _ a0_0 [.int .i64 a0_0] from rfl) (Reps.one (show Kd.M (Kd.int .i64) _ _ _ a1_0 [.int .i64 a1_0] from rfl) (Reps.none _ _)))); intro v2 w4 o1 hb hg_ hnew_; clear hg_ hnew_; (first | rw [← Y25.out] at o1 | (simp only [Int.reduceToNat] at o1; rw [← Y25.out] at o1)); have O1 := am (Kd.R_lower o1 (below_size (YA HB))); obtain ⟨K1, K2, K3, HB⟩ := bk3 K1 K2 K3 HB hb; clear hb o1; obtain ⟨q1, f1, e1⟩ := Kd.R_slice O1.out; subst e1) | (go_at_call 55; (with_reducible refine (impl_restGcd.calls k1 _ _ y1 t3 _ ?side1 ?side2 A1.out).mono ?_); (case side1 => repeat (first | exact (Kd.R_reads' O1.out).2.2 | (with_reducible refine Kd.C_alloc ?_ _) | (with_reducible refine Kd.C_drewN ?_ _) | (with_reducible refine Kd.C_drew ?_))); (case side2 => exact (Kd.R_reads' O1.out).2.1); rintro e w' ⟨rfl, ⟨nd, rfl⟩⟩; (try first | exact ⟨rfl, _, World.drewN_drewN _ _ _⟩ | exact ⟨rfl, _, Eq.trans (World.drewN_drewN _ _ _) (congrArg (World.drewN _) (Nat.add_assoc _ _ _))⟩); (try (have z_ := cB2 K1; have z_ := cB2 K2)))))
   (try simp only [Act.put, List.setIfInBounds_toArray, List.set_cons_zero, List.set_cons_succ])
   go_cut [] (fun wc => ∃ (kq : Nat) (x2 : Int) (x3 : Int) (x4 : Int) (x5 : Int), Aside0 (impl_RestMeet.j1 kq t3 x2 x3 x4 x5 = some (r1, r2, r3)) ∧ Aside0 (kq ≤ k1) ∧ Bx2 wc g1 x2 x3 39 ∧ Bx2 wc g2 x4 x5 39 ∧ Bx2 wc g3 0 0 39 ∧ Aside0 (Below w.heap.size w wc))
   case first =>
    have H := C2.out
    clear C2
    by_cases c6 : a1_0 > a0_0
    rotate_left
    ·rw [if_neg c6] at H
     have d9 := dF c6
     clear c6
     (first | rw [d9] | (simp only [i64_w, i32_w]; rw [d9]) | skip)
     have H' := am H
     clear H
     go_wp2
     repeat (go_quiet (fail); try go_wp2)
     go_meet
     case rel => exact ⟨_, (a0_0), (a0_1), (a1_0), (a1_1), H', le1 J1, ⟨Z K1⟩, ⟨Z K2⟩, ⟨Z K3⟩, ⟨YA HB⟩⟩
    rw [if_pos c6] at H
    have d9 := dT c6
    clear c6
    (first | rw [d9] | (simp only [i64_w, i32_w]; rw [d9]) | skip)
    have H' := am H
    clear H
    have z_ := ns3 N2 N5 N3
    have z_ := cB2 K2
    have z_ := cB2 K1
    go_wp2
    repeat (go_quiet (fail); try go_wp2)
    go_meet
    case rel => exact ⟨_, (a1_0), (a1_1), (a0_0), (a0_1), H', le1 J1, ⟨by refine fa N1 ?_; refine fa N1 ?_; refine pf ?_; refine blk_put (cs := #[.int .i64 a1_0, .int .i64 a0_1]) ?_ 1 _ rfl; refine pf ?_; refine blk_put (cs := #[.int .i64 a0_0, .int .i64 a0_1]) ?_ 0 _ rfl; exact Z K1⟩, ⟨by refine pf ?_; refine blk_put (cs := #[.int .i64 a0_0, .int .i64 a1_1]) ?_ 1 _ rfl; refine pf ?_; refine blk_put (cs := #[.int .i64 a1_0, .int .i64 a1_1]) ?_ 0 _ rfl; refine fa N2 ?_; refine fa N2 ?_; exact Z K2⟩, ⟨by refine fa N6 ?_; refine fa N6 ?_; refine fa N4 ?_; refine fa N4 ?_; exact Z K3⟩, ⟨YA HB⟩⟩
   case rest =>
    clear C2
    (try clear c1);(try clear c2);(try clear d1);(try clear d2);(try clear c3);(try clear d3);(try clear d4);(try clear c4);(try clear d5);(try clear d6);(try clear d7);(try clear d8)
    obtain ⟨kq, x2, x3, x4, x5, HA, J2, K1, K2, K3, HB⟩ := hcut
    cases kq with
    | zero => exact absurd HA.out (by simp [impl_RestMeet.j1])
    | succ k2 =>
     have H := HA.out
     clear HA
     simp only [impl_RestMeet.j1] at H
     by_cases c6 : t3 = 0
     ·rw [if_pos c6] at H
      exact absurd H (by simp)
     rw [if_neg c6] at H
     have d9 := eF c6
     have d10 := nT c6
     by_cases c7 : (wrap64 ((wrap64 (Int.tdiv x2 t3)) * x4)) > 65536
     ·rw [if_pos c7] at H
      have d11 := dT c7
      clear c7
      simp only [Option.some.injEq, Prod.mk.injEq] at H
      obtain ⟨rfl, rfl, rfl⟩ := H
      have z_ := ns3 N1 N3 N5
      have z_ := cB2 K1
      have z_ := cB2 K2
      have z_ := cB2 K3
      go_wp2
      repeat (go_quiet (fail); try go_wp2)
      refine bodyPost_ret (results_ct rfl _ _ g3 39 #[.int .i64 x2, .int .i64 x3] (0, 0) _ rfl (by refine pf ?_; refine blk_put (cs := #[.int .i64 x2, .int .i64 0]) ?_ 1 _ rfl; refine pf ?_; refine blk_put (cs := #[.int .i64 0, .int .i64 0]) ?_ 0 _ rfl; exact Z K3) Try.underlying39 rfl (by kernel_rfl)) rfl ?_
      exact ⟨ez, YA HB⟩
     rw [if_neg c7] at H
     have d11 := dF c7
     clear c7
     have H' := am H
     clear H
     have z_ := ns3 N1 N3 N5
     have z_ := cB2 K1
     have z_ := cB2 K2
     go_wp2
     repeat (go_quiet (fail); try go_wp2)
     go_loopg [8] k2 (fun kq v3 w' => ∃ (x6 : Int), v3 = .int .i64 x6 ∧ Aside0 (impl_RestMeet.l0 kq (wrap64 ((wrap64 (Int.tdiv x2 t3)) * x4)) x6 x2 x3 x4 x5 = some (r1, r2, r3)) ∧ Aside0 (kq ≤ k2) ∧ Aside0 (w'.heap[g1]? = some (.cells #[.int .i64 x2, .int .i64 x3] 39 (0, 0))) ∧ Aside0 (w'.heap[g2]? = some (.cells #[.int .i64 x4, .int .i64 x5] 39 (0, 0))) ∧ Aside0 (w'.heap[g3]? = some (.cells #[.int .i64 0, .int .i64 0] 39 (0, 0))) ∧ Aside0 (Below w.heap.size w w'))
     case atStart => exact ⟨(x3), ey, H', ⟨Nat.le_refl _⟩, ⟨Z K1⟩, ⟨Z K2⟩, ⟨Z K3⟩, ⟨YA HB⟩⟩
     case round =>
      clear H'
      (try clear c6);(try clear d9);(try clear d10);(try clear d11)
      obtain ⟨x6, rfl, HA, HK3, K1, K2, K3, HB⟩ := hrel
      cases gk with
      | zero => exact absurd HA.out (by simp [impl_RestMeet.l0])
      | succ k3 =>
       have H := HA.out
       clear HA
       simp only [impl_RestMeet.l0] at H
       obtain ⟨t4, A2, H⟩ := bd H
       try dsimp only at H
       by_cases c8 : t4 = x5
       rotate_left
       ·rw [if_neg c8] at H
        have d12 := eF c8
        have d13 := nT c8
        have H' := am H
        clear H
        have z_ := ns2 N2 N5
        have z_ := cB2 K2
        go_wp2_with (first | (go_at_call 46; (with_reducible refine (impl_restMod.calls _ _ _ _ A2.out).mono ?_); rintro e w' ⟨rfl, ⟨nd, rfl⟩⟩; (try first | exact ⟨rfl, _, World.drewN_drewN _ _ _⟩ | exact ⟨rfl, _, Eq.trans (World.drewN_drewN _ _ _) (congrArg (World.drewN _) (Nat.add_assoc _ _ _))⟩); have z_ := ns1 N3; have z_ := cB2 K1))
        try have z9 := N3.out
        try have z10 := N4.out
        try have z11 := bc K1 0
        try have z12 := bc K1 1
        try have z13 := blk_frozen K1.out 0
        try have z14 := blk_frozen K1.out 1
        repeat (go_quiet (first | (go_at_call 46; (with_reducible refine (impl_restMod.calls _ _ _ _ A2.out).mono ?_); rintro e w' ⟨rfl, ⟨nd, rfl⟩⟩; (try first | exact ⟨rfl, _, World.drewN_drewN _ _ _⟩ | exact ⟨rfl, _, Eq.trans (World.drewN_drewN _ _ _) (congrArg (World.drewN _) (Nat.add_assoc _ _ _))⟩); (try (have z_ := ns1 N3; have z_ := cB2 K1)))); try go_wp2_with (first | (go_at_call 46; (with_reducible refine (impl_restMod.calls _ _ _ _ A2.out).mono ?_); rintro e w' ⟨rfl, ⟨nd, rfl⟩⟩; (try first | exact ⟨rfl, _, World.drewN_drewN _ _ _⟩ | exact ⟨rfl, _, Eq.trans (World.drewN_drewN _ _ _) (congrArg (World.drewN _) (Nat.add_assoc _ _ _))⟩); (try (have z_ := ns1 N3; have z_ := cB2 K1)))))
        go_roundg k3
        case measure => have := J1.out; have := J2.out; have := HK3.out; omega
        case rel => exact ⟨(wrap64 (x6 + x2)), ey, H', ⟨by have := J1.out; have := J2.out; have := HK3.out; omega⟩, ⟨Z K1⟩, ⟨Z K2⟩, ⟨Z K3⟩, ⟨YA HB⟩⟩
       rw [if_pos c8] at H
       have d12 := eT c8
       have d13 := nF c8
       clear c8
       simp only [Option.some.injEq, Prod.mk.injEq] at H
       obtain ⟨rfl, rfl, rfl⟩ := H
       have z_ := ns2 N2 N5
       have z_ := cB2 K2
       go_wp2_with (first | (go_at_call 46; (with_reducible refine (impl_restMod.calls _ _ _ _ A2.out).mono ?_); rintro e w' ⟨rfl, ⟨nd, rfl⟩⟩; (try first | exact ⟨rfl, _, World.drewN_drewN _ _ _⟩ | exact ⟨rfl, _, Eq.trans (World.drewN_drewN _ _ _) (congrArg (World.drewN _) (Nat.add_assoc _ _ _))⟩); have z_ := ns1 N4; have z_ := cB2 K3))
       try have z9 := N4.out
       try have z10 := N3.out
       try have z11 := bc K3 0
       try have z12 := bc K3 1
       try have z13 := blk_frozen K3.out 0
       try have z14 := blk_frozen K3.out 1
       repeat (go_quiet (first | (go_at_call 46; (with_reducible refine (impl_restMod.calls _ _ _ _ A2.out).mono ?_); rintro e w' ⟨rfl, ⟨nd, rfl⟩⟩; (try first | exact ⟨rfl, _, World.drewN_drewN _ _ _⟩ | exact ⟨rfl, _, Eq.trans (World.drewN_drewN _ _ _) (congrArg (World.drewN _) (Nat.add_assoc _ _ _))⟩); (try (have z_ := ns1 N4; have z_ := cB2 K3)))); try go_wp2_with (first | (go_at_call 46; (with_reducible refine (impl_restMod.calls _ _ _ _ A2.out).mono ?_); rintro e w' ⟨rfl, ⟨nd, rfl⟩⟩; (try first | exact ⟨rfl, _, World.drewN_drewN _ _ _⟩ | exact ⟨rfl, _, Eq.trans (World.drewN_drewN _ _ _) (congrArg (World.drewN _) (Nat.add_assoc _ _ _))⟩); (try (have z_ := ns1 N4; have z_ := cB2 K3)))))
       refine bodyPost_ret (results_ct rfl _ _ g3 39 #[.int .i64 (wrap64 ((wrap64 (Int.tdiv x2 t3)) * x4)), .int .i64 x6] (0, 0) _ rfl (by refine pf ?_; refine blk_put (cs := #[.int .i64 (wrap64 ((wrap64 (Int.tdiv x2 t3)) * x4)), .int .i64 0]) ?_ 1 _ rfl; refine pf ?_; refine blk_put (cs := #[.int .i64 0, .int .i64 0]) ?_ 0 _ rfl; exact Z K3) Try.underlying39 rfl (by kernel_rfl)) rfl ?_
       exact ⟨ez, YA HB⟩
end
section
attribute [local go_sem] max2_int min2_int max_two min_two max_three min_three max_four min_four
attribute [local go_sem] Go.Proofs.YtdmadlfdibiejaaSet.isSome_setCell
def impl_ValMeet.j0 : Nat → Bool → Int → Int → Int → Int → Int → Int → Int → Int → Option (Int × Int × Int × Int)
 | 0, _, _, _, _, _, _, _, _, _ => none
 | k + 1, x1, x2, x3, x4, x5, x6, x7, x8, x9 => if x1 = true then ((impl_valNone.f).bind fun u1 => (some (u1.1, u1.2.1, u1.2.2.1, u1.2.2.2))) else ((impl_Val_rest.f x2 x3 x4 x5).bind fun u2 => ((impl_Val_rest.f x6 x7 x8 x9).bind fun u3 => ((impl_RestMeet.f k u2.1 u2.2 u3.1 u3.2).bind fun u4 => (if u4.2.2 = true then ((impl_Val_span.f x2 x3 x4 x5).bind fun u5 => ((impl_Val_span.f x6 x7 x8 x9).bind fun u6 => ((impl_RangeMeet.f k u5.1 u5.2 u6.1 u6.2).bind fun u7 => ((impl_ValMake.f k u7.1 u7.2 u4.1 u4.2.1).bind fun u8 => (some (u8.1, u8.2.1, u8.2.2.1, u8.2.2.2)))))) else ((impl_valNone.f).bind fun u9 => (some (u9.1, u9.2.1, u9.2.2.1, u9.2.2.2)))))))
def impl_ValMeet.f (k : Nat) (a0_0 : Int) (a0_1 : Int) (a0_2 : Int) (a0_3 : Int) (a1_0 : Int) (a1_1 : Int) (a1_2 : Int) (a1_3 : Int) : Option (Int × Int × Int × Int) := (impl_ValOk.f k a0_0 a0_1 a0_2 a0_3).bind fun t1 => (if t1 = true then ((impl_ValOk.f k a1_0 a1_1 a1_2 a1_3).bind fun t2 => (if t2 = true then ((impl_Val_none.f a0_0 a0_1 a0_2 a0_3).bind fun t3 => (if t3 = true then (impl_ValMeet.j0 k true a0_0 a0_1 a0_2 a0_3 a1_0 a1_1 a1_2 a1_3) else ((impl_Val_none.f a1_0 a1_1 a1_2 a1_3).bind fun t4 => (impl_ValMeet.j0 k t4 a0_0 a0_1 a0_2 a0_3 a1_0 a1_1 a1_2 a1_3)))) else (impl_ValMeet.j0 k true a0_0 a0_1 a0_2 a0_3 a1_0 a1_1 a1_2 a1_3))) else (impl_ValMeet.j0 k true a0_0 a0_1 a0_2 a0_3 a1_0 a1_1 a1_2 a1_3))
theorem impl_ValMeet.mono_l : ∀ k, (∀ y0 y1 y2 y3 y4 y5 y6 y7 y8, LeO (impl_ValMeet.j0 k y0 y1 y2 y3 y4 y5 y6 y7 y8) (impl_ValMeet.j0 (k + 1) y0 y1 y2 y3 y4 y5 y6 y7 y8))
 | 0 => fun _ _ _ _ _ _ _ _ _ r h => by simp [impl_ValMeet.j0] at h
 | k + 1 => by
  have ih0 := impl_ValMeet.mono_l k
  ·intro y0 y1 y2 y3 y4 y5 y6 y7 y8
   unfold impl_ValMeet.j0
   repeat' first | (with_reducible first | apply ih0 | apply impl_RangeMeet.mono | apply impl_RestMeet.mono | apply impl_ValMake.mono | apply impl_ValOk.mono | apply LeO.refl | apply LeO.none | refine LeO.ite ?_ ?_ | refine LeO.bind ?_ (fun _ => ?_)) | apply ih0 | apply impl_RangeMeet.mono | apply impl_RestMeet.mono | apply impl_ValMake.mono | apply impl_ValOk.mono | apply LeO.none | refine LeO.ite ?_ ?_ | refine LeO.bind ?_ (fun _ => ?_)
theorem impl_ValMeet.mono : ∀ a0 a1 a2 a3 a4 a5 a6 a7 k, LeO (impl_ValMeet.f k a0 a1 a2 a3 a4 a5 a6 a7) (impl_ValMeet.f (k + 1) a0 a1 a2 a3 a4 a5 a6 a7) := by
 intro a0 a1 a2 a3 a4 a5 a6 a7 k
 have ih0 := impl_ValMeet.mono_l k
 unfold impl_ValMeet.f
 repeat' first | (with_reducible first | apply ih0 | apply impl_RangeMeet.mono | apply impl_RestMeet.mono | apply impl_ValMake.mono | apply impl_ValOk.mono | apply LeO.refl | apply LeO.none | refine LeO.ite ?_ ?_ | refine LeO.bind ?_ (fun _ => ?_)) | apply ih0 | apply impl_RangeMeet.mono | apply impl_RestMeet.mono | apply impl_ValMake.mono | apply impl_ValOk.mono | apply LeO.none | refine LeO.ite ?_ ?_ | refine LeO.bind ?_ (fun _ => ?_)
def impl_ValMeet.T3 : Bool × List (List Nat × List Nat) := (true, [([], []), ([0], [0]), ([], []), ([2, 1], [2]), ([1, 3, 3], [1, 3]), ([4], [4]), ([5], [5]), ([5], [5]), ([], []), ([8, 6, 4, 0, 1, 2, 3, 4, 5, 6, 8], [6, 8]), ([7, 9, 0, 1, 2, 3, 4, 5, 6, 7, 8, 9], [7])])
def impl_ValMeet.B3 : List Nat := [0, 1, 0, 7, 15, 31, 63, 63, 0, 383, 1023]
theorem impl_ValMeet.tab3 : rtab .any (opsOf Try.f22 3) = impl_ValMeet.T3 := by kernel_rfl
theorem impl_ValMeet.bits3 : waitsOk impl_ValMeet.T3.2 impl_ValMeet.B3 = true := by kernel_rfl
def impl_ValMeet.T6 : Bool × List (List Nat × List Nat) := (true, [([], []), ([0], [0]), ([], []), ([2, 1], [2]), ([1, 3, 3], [1, 3]), ([], []), ([4, 5, 4], [4, 5]), ([6, 6, 0, 1, 2, 3, 4, 5, 6], [6])])
def impl_ValMeet.B6 : List Nat := [0, 1, 0, 7, 15, 0, 63, 127]
theorem impl_ValMeet.tab6 : rtab .any (opsOf Try.f22 6) = impl_ValMeet.T6 := by kernel_rfl
theorem impl_ValMeet.bits6 : waitsOk impl_ValMeet.T6.2 impl_ValMeet.B6 = true := by kernel_rfl
set_option maxHeartbeats 8000000 in
set_option maxRecDepth 100000 in
theorem impl_ValMeet.calls (k : Nat) (a0_0 : Int) (a0_1 : Int) (a0_2 : Int) (a0_3 : Int) (a1_0 : Int) (a1_1 : Int) (a1_2 : Int) (a1_3 : Int) (r1 : Int) (r2 : Int) (r3 : Int) (r4 : Int) (w : World) (h : impl_ValMeet.f k a0_0 a0_1 a0_2 a0_3 a1_0 a1_1 a1_2 a1_3 = some (r1, r2, r3, r4)) :
  Calls Try.prog 22 #[.agg #[.int .i64 a0_0, .int .i64 a0_1, .int .i64 a0_2, .int .i64 a0_3], .agg #[.int .i64 a1_0, .int .i64 a1_1, .int .i64 a1_2, .int .i64 a1_3]] w fun e w' => e = .returned (.agg #[.int .i64 r1, .int .i64 r2, .int .i64 r3, .int .i64 r4]) ∧ Below w.heap.size w w' := by
 have hu24 := Try.underlying24
 have hu39 := Try.underlying39
 have HB := am (Below.refl w.heap.size w)
 have H : ((impl_ValOk.f k a0_0 a0_1 a0_2 a0_3).bind fun t1 => (if t1 = true then ((impl_ValOk.f k a1_0 a1_1 a1_2 a1_3).bind fun t2 => (if t2 = true then ((impl_Val_none.f a0_0 a0_1 a0_2 a0_3).bind fun t3 => (if t3 = true then (impl_ValMeet.j0 k true a0_0 a0_1 a0_2 a0_3 a1_0 a1_1 a1_2 a1_3) else ((impl_Val_none.f a1_0 a1_1 a1_2 a1_3).bind fun t4 => (impl_ValMeet.j0 k t4 a0_0 a0_1 a0_2 a0_3 a1_0 a1_1 a1_2 a1_3)))) else (impl_ValMeet.j0 k true a0_0 a0_1 a0_2 a0_3 a1_0 a1_1 a1_2 a1_3))) else (impl_ValMeet.j0 k true a0_0 a0_1 a0_2 a0_3 a1_0 a1_1 a1_2 a1_3))) = some (r1, r2, r3, r4) := h
 clear h
 have C1 := am H
 clear H
 go_enter Try.func22, Try.ntmps22
 go_upto_region 1 with (first | ((with_reducible refine gate_dst (N := 2) rfl ?_); refine bxn 2 #[.int .i64 a0_0, .int .i64 a0_1, .int .i64 a0_2, .int .i64 a0_3] 24 HB fun g1 w2 K1 G1 hg hb => ?_; replace HB := am (below_step (YA HB) hb); clear hb hg) | ((with_reducible refine gate_dst (N := 3) rfl ?_); refine bxn 3 #[.int .i64 a1_0, .int .i64 a1_1, .int .i64 a1_2, .int .i64 a1_3] 24 HB fun g2 w3 K2 G2 hg hb => ?_; obtain ⟨N1,N2⟩ := ne_ hg K1; obtain ⟨K1, HB⟩ := bk1 K1 HB hb; clear hb hg) | ((with_reducible refine gate_dst (N := 4) rfl ?_); refine bxn 4 #[.int .i64 0, .int .i64 0, .int .i64 0, .int .i64 0] 24 HB fun g3 w4 K3 G3 hg hb => ?_; obtain ⟨N3,N4⟩ := ne_ hg K1; obtain ⟨N5,N6⟩ := ne_ hg K2; obtain ⟨K1, K2, HB⟩ := bk2 K1 K2 HB hb; clear hb hg))
 (try simp only [Act.put, List.setIfInBounds_toArray, List.set_cons_zero, List.set_cons_succ])
 go_cut [22] (fun v1 wc => ∃ (kq : Nat) (x1 : Bool), v1 = .bool x1 ∧ Aside0 (impl_ValMeet.j0 kq x1 a0_0 a0_1 a0_2 a0_3 a1_0 a1_1 a1_2 a1_3 = some (r1, r2, r3, r4)) ∧ Aside0 (kq ≤ k) ∧ Bx4 wc g1 a0_0 a0_1 a0_2 a0_3 24 ∧ Bx4 wc g2 a1_0 a1_1 a1_2 a1_3 24 ∧ Bx4 wc g3 0 0 0 0 24 ∧ Aside0 (Below w.heap.size w wc))
 case first =>
  have H := C1.out
  clear C1
  obtain ⟨t1, A1, H⟩ := bd H
  try dsimp only at H
  by_cases c1 : t1 = true
  rotate_left
  ·replace c1 := Bool.eq_false_iff.mpr c1
   subst c1
   rw [if_neg ff] at H
   have H' := am H
   clear H
   have z_ := ns2 N1 N3
   have z_ := cB4 K1
   go_wp2_with (first | ((with_reducible refine gate_callee (f := 15) rfl ?_); refine gL 8 Try.func15 (impl_ValOk.calls _ _ _ _ _ _ _ A1.out) fun w5 hb => ?_; obtain ⟨K1, K2, K3, HB⟩ := bk3 K1 K2 K3 HB hb; (try clear hb)))
   go_meet
   case rel => exact ⟨_, (true), ey, H', le0, ⟨Z K1⟩, ⟨Z K2⟩, ⟨Z K3⟩, ⟨YA HB⟩⟩
  subst c1
  rw [if_pos rfl] at H
  obtain ⟨t2, A2, H⟩ := bd H
  try dsimp only at H
  by_cases c2 : t2 = true
  rotate_left
  ·replace c2 := Bool.eq_false_iff.mpr c2
   subst c2
   rw [if_neg ff] at H
   have H' := am H
   clear H
   have z_ := ns2 N1 N3
   have z_ := cB4 K1
   go_wp2_with (first | ((with_reducible refine gate_callee (f := 15) rfl ?_); refine gL 8 Try.func15 (impl_ValOk.calls _ _ _ _ _ _ _ A1.out) fun w5 hb => ?_; obtain ⟨K1, K2, K3, HB⟩ := bk3 K1 K2 K3 HB hb; (try clear hb); have z_ := ns1 N5; have z_ := cB4 K2) | (go_at_call 15; (with_reducible refine (impl_ValOk.calls _ _ _ _ _ _ _ A2.out).mono ?_); rintro e w6 ⟨rfl, hb⟩; obtain ⟨K1, K2, K3, HB⟩ := bk3 K1 K2 K3 HB hb; (try clear hb)))
   go_meet
   case rel => exact ⟨_, (true), ey, H', le0, ⟨Z K1⟩, ⟨Z K2⟩, ⟨Z K3⟩, ⟨YA HB⟩⟩
  subst c2
  rw [if_pos rfl] at H
  obtain ⟨t3, A3, H⟩ := bd H
  try dsimp only at H
  by_cases c3 : t3 = true
  ·subst c3
   rw [if_pos rfl] at H
   have H' := am H
   clear H
   have z_ := ns2 N1 N3
   have z_ := cB4 K1
   go_wp2_with (first | ((with_reducible refine gate_callee (f := 15) rfl ?_); refine gL 8 Try.func15 (impl_ValOk.calls _ _ _ _ _ _ _ A1.out) fun w5 hb => ?_; obtain ⟨K1, K2, K3, HB⟩ := bk3 K1 K2 K3 HB hb; (try clear hb); have z_ := ns1 N5; have z_ := cB4 K2) | (go_at_call 15; (with_reducible refine (impl_ValOk.calls _ _ _ _ _ _ _ A2.out).mono ?_); rintro e w6 ⟨rfl, hb⟩; obtain ⟨K1, K2, K3, HB⟩ := bk3 K1 K2 K3 HB hb; (try clear hb); have z_ := cB4 K1) | (go_at_call 16; (with_reducible refine (impl_Val_none.calls _ _ _ _ _ _ A3.out).mono ?_); rintro e w7 ⟨rfl, hb⟩; obtain ⟨K1, K2, K3, HB⟩ := bk3 K1 K2 K3 HB hb; (try clear hb)))
   go_meet
   case rel => exact ⟨_, (true), ey, H', le0, ⟨Z K1⟩, ⟨Z K2⟩, ⟨Z K3⟩, ⟨YA HB⟩⟩
  replace c3 := Bool.eq_false_iff.mpr c3
  subst c3
  rw [if_neg ff] at H
  obtain ⟨t4, A4, H⟩ := bd H
  try dsimp only at H
  have H' := am H
  clear H
  have z_ := ns2 N1 N3
  have z_ := cB4 K1
  go_wp2_with (first | ((with_reducible refine gate_callee (f := 15) rfl ?_); refine gL 8 Try.func15 (impl_ValOk.calls _ _ _ _ _ _ _ A1.out) fun w5 hb => ?_; obtain ⟨K1, K2, K3, HB⟩ := bk3 K1 K2 K3 HB hb; (try clear hb); have z_ := ns1 N5; have z_ := cB4 K2) | (go_at_call 15; (with_reducible refine (impl_ValOk.calls _ _ _ _ _ _ _ A2.out).mono ?_); rintro e w6 ⟨rfl, hb⟩; obtain ⟨K1, K2, K3, HB⟩ := bk3 K1 K2 K3 HB hb; (try clear hb); have z_ := cB4 K1) | (go_at_call 16; (with_reducible refine (impl_Val_none.calls _ _ _ _ _ _ A3.out).mono ?_); rintro e w7 ⟨rfl, hb⟩; obtain ⟨K1, K2, K3, HB⟩ := bk3 K1 K2 K3 HB hb; (try clear hb); have z_ := cB4 K2) | (go_at_call 16; (with_reducible refine (impl_Val_none.calls _ _ _ _ _ _ A4.out).mono ?_); rintro e w8 ⟨rfl, hb⟩; obtain ⟨K1, K2, K3, HB⟩ := bk3 K1 K2 K3 HB hb; (try clear hb)))
  go_meet
  case rel => exact ⟨_, (t4), ey, H', le0, ⟨Z K1⟩, ⟨Z K2⟩, ⟨Z K3⟩, ⟨YA HB⟩⟩
 case rest =>
  clear C1
  obtain ⟨kq, x1, rfl, HA, J1, K1, K2, K3, HB⟩ := hcut
  cases kq with
  | zero => exact absurd HA.out (by simp [impl_ValMeet.j0])
  | succ k1 =>
   have H := HA.out
   clear HA
   simp only [impl_ValMeet.j0] at H
   by_cases c1 : x1 = true
   ·subst c1
    rw [if_pos rfl] at H
    obtain ⟨⟨t5, t6, t7, t8⟩, A1, H⟩ := bd H
    try dsimp only at H
    simp only [Option.some.injEq, Prod.mk.injEq] at H
    obtain ⟨rfl, rfl, rfl, rfl⟩ := H
    go_wp2_with (first | ((with_reducible refine gate_callee (f := 17) rfl ?_); refine gL 23 Try.func17 (impl_valNone.calls _ _ _ _ _ A1.out) fun w5 hb => ?_; obtain ⟨K1, K2, K3, HB⟩ := bk3 K1 K2 K3 HB hb; (try clear hb); have z_ := ns2 N4 N6; have z_ := cB4 K3))
    refine bodyPost_ret (results_cell_row rfl _ _ g3 24 #[.int .i64 t5, .int .i64 t6, .int .i64 t7, .int .i64 t8] (0, 0) _ rfl (by refine pf ?_; refine blk_put (cs := #[.int .i64 t5, .int .i64 t6, .int .i64 t7, .int .i64 0]) ?_ 3 _ rfl; refine pf ?_; refine blk_put (cs := #[.int .i64 t5, .int .i64 t6, .int .i64 0, .int .i64 0]) ?_ 2 _ rfl; refine pf ?_; refine blk_put (cs := #[.int .i64 t5, .int .i64 0, .int .i64 0, .int .i64 0]) ?_ 1 _ rfl; refine pf ?_; refine blk_put (cs := #[.int .i64 0, .int .i64 0, .int .i64 0, .int .i64 0]) ?_ 0 _ rfl; exact Z K3) Try.underlying24 rfl (by kernel_rfl)) rfl ?_
    exact ⟨ez, YA HB⟩
   replace c1 := Bool.eq_false_iff.mpr c1
   subst c1
   rw [if_neg ff] at H
   obtain ⟨⟨t5, t6⟩, A1, H⟩ := bd H
   try dsimp only at H
   obtain ⟨⟨t7, t8⟩, A2, H⟩ := bd H
   try dsimp only at H
   obtain ⟨⟨t9, t10, t11⟩, A3, H⟩ := bd H
   try dsimp only at H
   by_cases c2 : t11 = true
   rotate_left
   ·replace c2 := Bool.eq_false_iff.mpr c2
    subst c2
    rw [if_neg ff] at H
    obtain ⟨⟨t12, t13, t14, t15⟩, A4, H⟩ := bd H
    try dsimp only at H
    simp only [Option.some.injEq, Prod.mk.injEq] at H
    obtain ⟨rfl, rfl, rfl, rfl⟩ := H
    try go_wp2
    obtain ⟨K1, K2, K3, HB⟩ := dk3 K1 K2 K3 HB
    refine start_ (n := 11) (S := fun w' => w'.cell? ⟨g1, 0, none⟩ = some (.int .i64 a0_0) ∧ w'.cell? ⟨g1, 1, none⟩ = some (.int .i64 a0_1) ∧ w'.cell? ⟨g1, 2, none⟩ = some (.int .i64 a0_2) ∧ w'.cell? ⟨g1, 3, none⟩ = some (.int .i64 a0_3) ∧ w'.cell? ⟨g2, 0, none⟩ = some (.int .i64 a1_0) ∧ w'.cell? ⟨g2, 1, none⟩ = some (.int .i64 a1_1) ∧ w'.cell? ⟨g2, 2, none⟩ = some (.int .i64 a1_2) ∧ w'.cell? ⟨g2, 3, none⟩ = some (.int .i64 a1_3)) (ds := []) (lb 11 0) (by kernel_rfl) rfl rfl ⟨bc K1 0, bc K1 1, bc K1 2, bc K1 3, bc K2 0, bc K2 1, bc K2 2, bc K2 3⟩ (fun hHeld => ?_); refine with_tabW impl_ValMeet.tab3 impl_ValMeet.bits3 (fun HT_ HW_ => ?_)
    generalize wc.drew = w5 at K1 K2 K3 HB hHeld ⊢
    refine tk 0 25 1 hHeld ?_
    refine tk 2 27 5 hHeld ?_
    refine join_ (σ := Nat) 2 (lb 11 511) (fun s_ => [(26, .agg #[.int .i64 t5, .int .i64 t6]), (28, .agg #[.int .i64 t7, .int .i64 t8]), (29, .tuple #[.agg #[.int .i64 t9, .int .i64 t10], .bool false]), (5, .pointer (some ⟨s_, 0, none⟩)), (24, .tuple #[.agg #[.int .i64 t9, .int .i64 t10], .bool false]), (30, .agg #[.int .i64 t9, .int .i64 t10]), (31, .bool false)]) (fun s_ w' => (w'.cell? ⟨g1, 0, none⟩ = some (.int .i64 a0_0) ∧ w'.cell? ⟨g1, 1, none⟩ = some (.int .i64 a0_1) ∧ w'.cell? ⟨g1, 2, none⟩ = some (.int .i64 a0_2) ∧ w'.cell? ⟨g1, 3, none⟩ = some (.int .i64 a0_3) ∧ w'.cell? ⟨g2, 0, none⟩ = some (.int .i64 a1_0) ∧ w'.cell? ⟨g2, 1, none⟩ = some (.int .i64 a1_1) ∧ w'.cell? ⟨g2, 2, none⟩ = some (.int .i64 a1_2) ∧ w'.cell? ⟨g2, 3, none⟩ = some (.int .i64 a1_3)) ∧ (w'.heap[g1]? = some (.cells #[.int .i64 a0_0, .int .i64 a0_1, .int .i64 a0_2, .int .i64 a0_3] 24 (0, 0))) ∧ (w'.heap[g2]? = some (.cells #[.int .i64 a1_0, .int .i64 a1_1, .int .i64 a1_2, .int .i64 a1_3] 24 (0, 0))) ∧ (w'.heap[g3]? = some (.cells #[.int .i64 0, .int .i64 0, .int .i64 0, .int .i64 0] 24 (0, 0))) ∧ (w'.heap[s_]? = some (.cells #[.int .i64 0, .int .i64 0] 39 (0, 0))) ∧ (w.heap.size ≤ s_) ∧ (w.heap.size ≤ s_) ∧ (g1 ≠ s_) ∧ (s_ ≠ g1) ∧ (g2 ≠ s_) ∧ (s_ ≠ g2) ∧ (g3 ≠ s_) ∧ (s_ ≠ g3) ∧ (Below w.heap.size w w')) ?_ ?_
    rotate_left
    ·intro hCont
     refine two_ (i := 1) (j := 8) (Ni := some 26) (Nj := some 5) (lb 11 7) (lb 11 261) rfl rfl rfl rfl (two_of HT_.out (by kernel_rfl)) (by decide) (by decide) (fun K hK => ?_) (fun K hK => ?_)
     rotate_left
     ·skip
      refine box_step ?hg (N := 5) ?hd (cs := #[.int .i64 0, .int .i64 0]) (t := 39) ?hr ?_; (case hd => rfl); (case hg => rfl); (case hr => first | (go_simp; done) | (go_simp; rfl))
      intro g4 hg w6 hbox hb
      have K4 := am (hbox)
      have G4 := am (bs hg (YA HB))
      have G5 := am (bs hg (YA HB))
      obtain ⟨N7,N8⟩ := ne_ hg K1
      obtain ⟨N9,N10⟩ := ne_ hg K2
      obtain ⟨N11,N12⟩ := ne_ hg K3
      obtain ⟨K1, K2, K3, HB⟩ := bk3 K1 K2 K3 HB hb
      clear hb hbox hg
      refine kk hK ⟨bc K1 0, bc K1 1, bc K1 2, bc K1 3, bc K2 0, bc K2 1, bc K2 2, bc K2 3⟩ fun hHeld => ?_
      clear hK K
      refine cl4 1 26 263 Try.func21 (impl_Val_rest.calls _ _ _ _ _ _ _ A1.out) K1 K2 K3 K4 HB fun w7 K1 K2 K3 K4 HB hHeld => ?_
      refine cl4 3 28 271 Try.func21 (impl_Val_rest.calls _ _ _ _ _ _ _ A2.out) K1 K2 K3 K4 HB fun w8 K1 K2 K3 K4 HB hHeld => ?_
      refine cl4 4 29 287 Try.func47 (impl_RestMeet.calls _ _ _ _ _ _ _ _ _ A3.out) K1 K2 K3 K4 HB fun w9 K1 K2 K3 K4 HB hHeld => ?_
      refine pk 5 24 319 ?_
      refine pk 6 30 383 ?_
      refine pk 7 31 511 ?_
      exact norm_ nz (hCont (g4) _ ⟨hHeld, (Z K1), (Z K2), (Z K3), (Z K4), G4.out, G5.out, N7.out, N8.out, N9.out, N10.out, N11.out, N12.out, (YA HB)⟩)
     skip
     refine ck3 hK Try.func21 (impl_Val_rest.calls _ _ _ _ _ _ _ A1.out) K1 K2 K3 HB fun w6 K1 K2 K3 HB hHeld => ?_
     clear hK K
     refine two_ (i := 3) (j := 8) (Ni := some 28) (Nj := some 5) (lb 11 15) (lb 11 263) rfl rfl rfl rfl (two_of HT_.out (by kernel_rfl)) (by decide) (by decide) (fun K hK => ?_) (fun K hK => ?_)
     rotate_left
     ·skip
      refine box_step ?hg (N := 5) ?hd (cs := #[.int .i64 0, .int .i64 0]) (t := 39) ?hr ?_; (case hd => rfl); (case hg => rfl); (case hr => first | (go_simp; done) | (go_simp; rfl))
      intro g4 hg w7 hbox hb
      have K4 := am (hbox)
      have G4 := am (bs hg (YA HB))
      have G5 := am (bs hg (YA HB))
      obtain ⟨N7,N8⟩ := ne_ hg K1
      obtain ⟨N9,N10⟩ := ne_ hg K2
      obtain ⟨N11,N12⟩ := ne_ hg K3
      obtain ⟨K1, K2, K3, HB⟩ := bk3 K1 K2 K3 HB hb
      clear hb hbox hg
      refine kk hK ⟨bc K1 0, bc K1 1, bc K1 2, bc K1 3, bc K2 0, bc K2 1, bc K2 2, bc K2 3⟩ fun hHeld => ?_
      clear hK K
      refine cl4 3 28 271 Try.func21 (impl_Val_rest.calls _ _ _ _ _ _ _ A2.out) K1 K2 K3 K4 HB fun w8 K1 K2 K3 K4 HB hHeld => ?_
      refine cl4 4 29 287 Try.func47 (impl_RestMeet.calls _ _ _ _ _ _ _ _ _ A3.out) K1 K2 K3 K4 HB fun w9 K1 K2 K3 K4 HB hHeld => ?_
      refine pk 5 24 319 ?_
      refine pk 6 30 383 ?_
      refine pk 7 31 511 ?_
      exact norm_ nz (hCont (g4) _ ⟨hHeld, (Z K1), (Z K2), (Z K3), (Z K4), G4.out, G5.out, N7.out, N8.out, N9.out, N10.out, N11.out, N12.out, (YA HB)⟩)
     skip
     refine ck3 hK Try.func21 (impl_Val_rest.calls _ _ _ _ _ _ _ A2.out) K1 K2 K3 HB fun w7 K1 K2 K3 HB hHeld => ?_
     clear hK K
     refine two_ (i := 4) (j := 8) (Ni := some 29) (Nj := some 5) (lb 11 31) (lb 11 271) rfl rfl rfl rfl (two_of HT_.out (by kernel_rfl)) (by decide) (by decide) (fun K hK => ?_) (fun K hK => ?_)
     ·skip
      refine ck3 hK Try.func47 (impl_RestMeet.calls _ _ _ _ _ _ _ _ _ A3.out) K1 K2 K3 HB fun w8 K1 K2 K3 HB hHeld => ?_
      clear hK K
      refine pk 5 24 63 ?_
      refine pk 6 30 127 ?_
      refine pk 7 31 255 ?_
      refine on 8 (some 5) 511 fun K hK => ?_
      refine box_step ?hg (N := 5) ?hd (cs := #[.int .i64 0, .int .i64 0]) (t := 39) ?hr ?_; (case hd => rfl); (case hg => rfl); (case hr => first | (go_simp; done) | (go_simp; rfl))
      intro g4 hg w9 hbox hb
      have K4 := am (hbox)
      have G4 := am (bs hg (YA HB))
      have G5 := am (bs hg (YA HB))
      obtain ⟨N7,N8⟩ := ne_ hg K1
      obtain ⟨N9,N10⟩ := ne_ hg K2
      obtain ⟨N11,N12⟩ := ne_ hg K3
      obtain ⟨K1, K2, K3, HB⟩ := bk3 K1 K2 K3 HB hb
      clear hb hbox hg
      refine kk hK ⟨bc K1 0, bc K1 1, bc K1 2, bc K1 3, bc K2 0, bc K2 1, bc K2 2, bc K2 3⟩ fun hHeld => ?_
      clear hK K
      exact norm_ nz (hCont (g4) _ ⟨hHeld, (Z K1), (Z K2), (Z K3), (Z K4), G4.out, G5.out, N7.out, N8.out, N9.out, N10.out, N11.out, N12.out, (YA HB)⟩)
     skip
     refine box_step ?hg (N := 5) ?hd (cs := #[.int .i64 0, .int .i64 0]) (t := 39) ?hr ?_; (case hd => rfl); (case hg => rfl); (case hr => first | (go_simp; done) | (go_simp; rfl))
     intro g4 hg w8 hbox hb
     have K4 := am (hbox)
     have G4 := am (bs hg (YA HB))
     have G5 := am (bs hg (YA HB))
     obtain ⟨N7,N8⟩ := ne_ hg K1
     obtain ⟨N9,N10⟩ := ne_ hg K2
     obtain ⟨N11,N12⟩ := ne_ hg K3
     obtain ⟨K1, K2, K3, HB⟩ := bk3 K1 K2 K3 HB hb
     clear hb hbox hg
     refine kk hK ⟨bc K1 0, bc K1 1, bc K1 2, bc K1 3, bc K2 0, bc K2 1, bc K2 2, bc K2 3⟩ fun hHeld => ?_
     clear hK K
     refine cl4 4 29 287 Try.func47 (impl_RestMeet.calls _ _ _ _ _ _ _ _ _ A3.out) K1 K2 K3 K4 HB fun w9 K1 K2 K3 K4 HB hHeld => ?_
     refine pk 5 24 319 ?_
     refine pk 6 30 383 ?_
     refine pk 7 31 511 ?_
     exact norm_ nz (hCont (g4) _ ⟨hHeld, (Z K1), (Z K2), (Z K3), (Z K4), G4.out, G5.out, N7.out, N8.out, N9.out, N10.out, N11.out, N12.out, (YA HB)⟩)
    rintro g4 w6 ⟨hS_, h0_, h1_, h2_, h3_, h4_, h5_, h6_, h7_, h8_, h9_, h10_, h11_, h12_⟩
    have K4 : Bx2 w6 g4 0 0 39 := ⟨h3_⟩
    have G4 : Aside0 (w.heap.size ≤ g4) := ⟨h4_⟩
    have G5 : Aside0 (w.heap.size ≤ g4) := ⟨h5_⟩
    have N7 : Aside0 (g1 ≠ g4) := ⟨h6_⟩
    have N8 : Aside0 (g4 ≠ g1) := ⟨h7_⟩
    have N9 : Aside0 (g2 ≠ g4) := ⟨h8_⟩
    have N10 : Aside0 (g4 ≠ g2) := ⟨h9_⟩
    have N11 : Aside0 (g3 ≠ g4) := ⟨h10_⟩
    have N12 : Aside0 (g4 ≠ g3) := ⟨h11_⟩
    replace K1 : Bx4 w6 g1 a0_0 a0_1 a0_2 a0_3 24 := ⟨h0_⟩
    replace K2 : Bx4 w6 g2 a1_0 a1_1 a1_2 a1_3 24 := ⟨h1_⟩
    replace K3 : Bx4 w6 g3 0 0 0 0 24 := ⟨h2_⟩
    replace HB : Aside0 (Below w.heap.size w w6) := ⟨h12_⟩
    clear h0_ h1_ h2_ h3_ h4_ h5_ h6_ h7_ h8_ h9_ h10_ h11_ h12_
    have hHeld : w6.cell? ⟨g1, 0, none⟩ = some (.int .i64 a0_0) ∧ w6.cell? ⟨g1, 1, none⟩ = some (.int .i64 a0_1) ∧ w6.cell? ⟨g1, 2, none⟩ = some (.int .i64 a0_2) ∧ w6.cell? ⟨g1, 3, none⟩ = some (.int .i64 a0_3) ∧ w6.cell? ⟨g2, 0, none⟩ = some (.int .i64 a1_0) ∧ w6.cell? ⟨g2, 1, none⟩ = some (.int .i64 a1_1) ∧ w6.cell? ⟨g2, 2, none⟩ = some (.int .i64 a1_2) ∧ w6.cell? ⟨g2, 3, none⟩ = some (.int .i64 a1_3) := hS_
    refine norm_ (a' := ?_) ?_ ?_
    rotate_left
    ·simp only [putAll, Act.put, List.setIfInBounds_toArray, List.set_cons_zero, List.set_cons_succ]
     rfl
    refine on 9 none 1023 fun K hK => ?_
    have s1 : w6.cell? ⟨g4, 0, none⟩ = some (.int .i64 0) := bc K4 0
    have hfs84 := blk_frozen K4.out 0
    have z_ := ns6 N7 N9 N11 N8 N10 N12
    have s2 : w6.cell? ⟨g4, 1, none⟩ = some (.int .i64 0) := bc K4 1
    have hfs85 := blk_frozen K4.out 1
    have z_ := ns6 N7 N9 N11 N8 N10 N12
    refine skip_ (w1 := ?_) (by rfl) rfl ?_ ?_
    rotate_left
    ·go_simp
     rfl
    refine hK.out _ _ ⟨(cf N7 ((cf N7 (hHeld.1)))), (cf N7 ((cf N7 (hHeld.2.1)))), (cf N7 ((cf N7 (hHeld.2.2.1)))), (cf N7 ((cf N7 (hHeld.2.2.2.1)))), (cf N9 ((cf N9 (hHeld.2.2.2.2.1)))), (cf N9 ((cf N9 (hHeld.2.2.2.2.2.1)))), (cf N9 ((cf N9 (hHeld.2.2.2.2.2.2.1)))), (cf N9 ((cf N9 (hHeld.2.2.2.2.2.2.2))))⟩ (fun hHeld => ?_)
    clear hK K
    refine pk 10 6 2047 ?_
    refine done_ (done_of HT_.out (by kernel_rfl)) ?_
    try go_wp2_with (first | ((with_reducible refine gate_callee (f := 17) rfl ?_); refine gL 34 Try.func17 (impl_valNone.calls _ _ _ _ _ A4.out) fun w7 hb => ?_; replace K1 := am (blk_below (g := g1) (o := b4 a0_0 a0_1 a0_2 a0_3 24) (by refine fa N7 ?_; refine fa N7 ?_; exact Z K1) hb); replace K2 := am (blk_below (g := g2) (o := b4 a1_0 a1_1 a1_2 a1_3 24) (by refine fa N9 ?_; refine fa N9 ?_; exact Z K2) hb); replace K3 := am (blk_below (g := g3) (o := b4 0 0 0 0 24) (by refine fa N11 ?_; refine fa N11 ?_; exact Z K3) hb); replace K4 := am (blk_below (g := g4) (o := b2 t9 t10 39) (by refine pf ?_; refine blk_put (cs := #[.int .i64 t9, .int .i64 0]) ?_ 1 _ rfl; refine pf ?_; refine blk_put (cs := #[.int .i64 0, .int .i64 0]) ?_ 0 _ rfl; exact Z K4) hb); replace HB := am (below_step (YA HB) hb); (try clear hb); have z_ := ns3 N4 N6 N11; have z_ := cB4 K3))
    refine bodyPost_ret (results_cell_row rfl _ _ g3 24 #[.int .i64 t12, .int .i64 t13, .int .i64 t14, .int .i64 t15] (0, 0) _ rfl (by refine pf ?_; refine blk_put (cs := #[.int .i64 t12, .int .i64 t13, .int .i64 t14, .int .i64 0]) ?_ 3 _ rfl; refine pf ?_; refine blk_put (cs := #[.int .i64 t12, .int .i64 t13, .int .i64 0, .int .i64 0]) ?_ 2 _ rfl; refine pf ?_; refine blk_put (cs := #[.int .i64 t12, .int .i64 0, .int .i64 0, .int .i64 0]) ?_ 1 _ rfl; refine pf ?_; refine blk_put (cs := #[.int .i64 0, .int .i64 0, .int .i64 0, .int .i64 0]) ?_ 0 _ rfl; exact Z K3) Try.underlying24 rfl (by kernel_rfl)) rfl ?_
    exact ⟨ez, YA HB⟩
   subst c2
   rw [if_pos rfl] at H
   obtain ⟨⟨t12, t13⟩, A4, H⟩ := bd H
   try dsimp only at H
   obtain ⟨⟨t14, t15⟩, A5, H⟩ := bd H
   try dsimp only at H
   obtain ⟨⟨t16, t17⟩, A6, H⟩ := bd H
   try dsimp only at H
   obtain ⟨⟨t18, t19, t20, t21⟩, A7, H⟩ := bd H
   try dsimp only at H
   simp only [Option.some.injEq, Prod.mk.injEq] at H
   obtain ⟨rfl, rfl, rfl, rfl⟩ := H
   try go_wp2
   obtain ⟨K1, K2, K3, HB⟩ := dk3 K1 K2 K3 HB
   refine start_ (n := 11) (S := fun w' => w'.cell? ⟨g1, 0, none⟩ = some (.int .i64 a0_0) ∧ w'.cell? ⟨g1, 1, none⟩ = some (.int .i64 a0_1) ∧ w'.cell? ⟨g1, 2, none⟩ = some (.int .i64 a0_2) ∧ w'.cell? ⟨g1, 3, none⟩ = some (.int .i64 a0_3) ∧ w'.cell? ⟨g2, 0, none⟩ = some (.int .i64 a1_0) ∧ w'.cell? ⟨g2, 1, none⟩ = some (.int .i64 a1_1) ∧ w'.cell? ⟨g2, 2, none⟩ = some (.int .i64 a1_2) ∧ w'.cell? ⟨g2, 3, none⟩ = some (.int .i64 a1_3)) (ds := []) (lb 11 0) (by kernel_rfl) rfl rfl ⟨bc K1 0, bc K1 1, bc K1 2, bc K1 3, bc K2 0, bc K2 1, bc K2 2, bc K2 3⟩ (fun hHeld => ?_); refine with_tabW impl_ValMeet.tab3 impl_ValMeet.bits3 (fun HT_ HW_ => ?_)
   generalize wc.drew = w5 at K1 K2 K3 HB hHeld ⊢
   refine tk 0 25 1 hHeld ?_
   refine tk 2 27 5 hHeld ?_
   refine join_ (σ := Nat) 2 (lb 11 511) (fun s_ => [(26, .agg #[.int .i64 t5, .int .i64 t6]), (28, .agg #[.int .i64 t7, .int .i64 t8]), (29, .tuple #[.agg #[.int .i64 t9, .int .i64 t10], .bool true]), (5, .pointer (some ⟨s_, 0, none⟩)), (24, .tuple #[.agg #[.int .i64 t9, .int .i64 t10], .bool true]), (30, .agg #[.int .i64 t9, .int .i64 t10]), (31, .bool true)]) (fun s_ w' => (w'.cell? ⟨g1, 0, none⟩ = some (.int .i64 a0_0) ∧ w'.cell? ⟨g1, 1, none⟩ = some (.int .i64 a0_1) ∧ w'.cell? ⟨g1, 2, none⟩ = some (.int .i64 a0_2) ∧ w'.cell? ⟨g1, 3, none⟩ = some (.int .i64 a0_3) ∧ w'.cell? ⟨g2, 0, none⟩ = some (.int .i64 a1_0) ∧ w'.cell? ⟨g2, 1, none⟩ = some (.int .i64 a1_1) ∧ w'.cell? ⟨g2, 2, none⟩ = some (.int .i64 a1_2) ∧ w'.cell? ⟨g2, 3, none⟩ = some (.int .i64 a1_3)) ∧ (w'.heap[g1]? = some (.cells #[.int .i64 a0_0, .int .i64 a0_1, .int .i64 a0_2, .int .i64 a0_3] 24 (0, 0))) ∧ (w'.heap[g2]? = some (.cells #[.int .i64 a1_0, .int .i64 a1_1, .int .i64 a1_2, .int .i64 a1_3] 24 (0, 0))) ∧ (w'.heap[g3]? = some (.cells #[.int .i64 0, .int .i64 0, .int .i64 0, .int .i64 0] 24 (0, 0))) ∧ (w'.heap[s_]? = some (.cells #[.int .i64 0, .int .i64 0] 39 (0, 0))) ∧ (w.heap.size ≤ s_) ∧ (w.heap.size ≤ s_) ∧ (g1 ≠ s_) ∧ (s_ ≠ g1) ∧ (g2 ≠ s_) ∧ (s_ ≠ g2) ∧ (g3 ≠ s_) ∧ (s_ ≠ g3) ∧ (Below w.heap.size w w')) ?_ ?_
   rotate_left
   ·intro hCont
    refine two_ (i := 1) (j := 8) (Ni := some 26) (Nj := some 5) (lb 11 7) (lb 11 261) rfl rfl rfl rfl (two_of HT_.out (by kernel_rfl)) (by decide) (by decide) (fun K hK => ?_) (fun K hK => ?_)
    rotate_left
    ·skip
     refine box_step ?hg (N := 5) ?hd (cs := #[.int .i64 0, .int .i64 0]) (t := 39) ?hr ?_; (case hd => rfl); (case hg => rfl); (case hr => first | (go_simp; done) | (go_simp; rfl))
     intro g4 hg w6 hbox hb
     have K4 := am (hbox)
     have G4 := am (bs hg (YA HB))
     have G5 := am (bs hg (YA HB))
     obtain ⟨N7,N8⟩ := ne_ hg K1
     obtain ⟨N9,N10⟩ := ne_ hg K2
     obtain ⟨N11,N12⟩ := ne_ hg K3
     obtain ⟨K1, K2, K3, HB⟩ := bk3 K1 K2 K3 HB hb
     clear hb hbox hg
     refine kk hK ⟨bc K1 0, bc K1 1, bc K1 2, bc K1 3, bc K2 0, bc K2 1, bc K2 2, bc K2 3⟩ fun hHeld => ?_
     clear hK K
     refine cl4 1 26 263 Try.func21 (impl_Val_rest.calls _ _ _ _ _ _ _ A1.out) K1 K2 K3 K4 HB fun w7 K1 K2 K3 K4 HB hHeld => ?_
     refine cl4 3 28 271 Try.func21 (impl_Val_rest.calls _ _ _ _ _ _ _ A2.out) K1 K2 K3 K4 HB fun w8 K1 K2 K3 K4 HB hHeld => ?_
     refine cl4 4 29 287 Try.func47 (impl_RestMeet.calls _ _ _ _ _ _ _ _ _ A3.out) K1 K2 K3 K4 HB fun w9 K1 K2 K3 K4 HB hHeld => ?_
     refine pk 5 24 319 ?_
     refine pk 6 30 383 ?_
     refine pk 7 31 511 ?_
     exact norm_ nz (hCont (g4) _ ⟨hHeld, (Z K1), (Z K2), (Z K3), (Z K4), G4.out, G5.out, N7.out, N8.out, N9.out, N10.out, N11.out, N12.out, (YA HB)⟩)
    skip
    refine ck3 hK Try.func21 (impl_Val_rest.calls _ _ _ _ _ _ _ A1.out) K1 K2 K3 HB fun w6 K1 K2 K3 HB hHeld => ?_
    clear hK K
    refine two_ (i := 3) (j := 8) (Ni := some 28) (Nj := some 5) (lb 11 15) (lb 11 263) rfl rfl rfl rfl (two_of HT_.out (by kernel_rfl)) (by decide) (by decide) (fun K hK => ?_) (fun K hK => ?_)
    rotate_left
    ·skip
     refine box_step ?hg (N := 5) ?hd (cs := #[.int .i64 0, .int .i64 0]) (t := 39) ?hr ?_; (case hd => rfl); (case hg => rfl); (case hr => first | (go_simp; done) | (go_simp; rfl))
     intro g4 hg w7 hbox hb
     have K4 := am (hbox)
     have G4 := am (bs hg (YA HB))
     have G5 := am (bs hg (YA HB))
     obtain ⟨N7,N8⟩ := ne_ hg K1
     obtain ⟨N9,N10⟩ := ne_ hg K2
     obtain ⟨N11,N12⟩ := ne_ hg K3
     obtain ⟨K1, K2, K3, HB⟩ := bk3 K1 K2 K3 HB hb
     clear hb hbox hg
     refine kk hK ⟨bc K1 0, bc K1 1, bc K1 2, bc K1 3, bc K2 0, bc K2 1, bc K2 2, bc K2 3⟩ fun hHeld => ?_
     clear hK K
     refine cl4 3 28 271 Try.func21 (impl_Val_rest.calls _ _ _ _ _ _ _ A2.out) K1 K2 K3 K4 HB fun w8 K1 K2 K3 K4 HB hHeld => ?_
     refine cl4 4 29 287 Try.func47 (impl_RestMeet.calls _ _ _ _ _ _ _ _ _ A3.out) K1 K2 K3 K4 HB fun w9 K1 K2 K3 K4 HB hHeld => ?_
     refine pk 5 24 319 ?_
     refine pk 6 30 383 ?_
     refine pk 7 31 511 ?_
     exact norm_ nz (hCont (g4) _ ⟨hHeld, (Z K1), (Z K2), (Z K3), (Z K4), G4.out, G5.out, N7.out, N8.out, N9.out, N10.out, N11.out, N12.out, (YA HB)⟩)
    skip
    refine ck3 hK Try.func21 (impl_Val_rest.calls _ _ _ _ _ _ _ A2.out) K1 K2 K3 HB fun w7 K1 K2 K3 HB hHeld => ?_
    clear hK K
    refine two_ (i := 4) (j := 8) (Ni := some 29) (Nj := some 5) (lb 11 31) (lb 11 271) rfl rfl rfl rfl (two_of HT_.out (by kernel_rfl)) (by decide) (by decide) (fun K hK => ?_) (fun K hK => ?_)
    ·skip
     refine ck3 hK Try.func47 (impl_RestMeet.calls _ _ _ _ _ _ _ _ _ A3.out) K1 K2 K3 HB fun w8 K1 K2 K3 HB hHeld => ?_
     clear hK K
     refine pk 5 24 63 ?_
     refine pk 6 30 127 ?_
     refine pk 7 31 255 ?_
     refine on 8 (some 5) 511 fun K hK => ?_
     refine box_step ?hg (N := 5) ?hd (cs := #[.int .i64 0, .int .i64 0]) (t := 39) ?hr ?_; (case hd => rfl); (case hg => rfl); (case hr => first | (go_simp; done) | (go_simp; rfl))
     intro g4 hg w9 hbox hb
     have K4 := am (hbox)
     have G4 := am (bs hg (YA HB))
     have G5 := am (bs hg (YA HB))
     obtain ⟨N7,N8⟩ := ne_ hg K1
     obtain ⟨N9,N10⟩ := ne_ hg K2
     obtain ⟨N11,N12⟩ := ne_ hg K3
     obtain ⟨K1, K2, K3, HB⟩ := bk3 K1 K2 K3 HB hb
     clear hb hbox hg
     refine kk hK ⟨bc K1 0, bc K1 1, bc K1 2, bc K1 3, bc K2 0, bc K2 1, bc K2 2, bc K2 3⟩ fun hHeld => ?_
     clear hK K
     exact norm_ nz (hCont (g4) _ ⟨hHeld, (Z K1), (Z K2), (Z K3), (Z K4), G4.out, G5.out, N7.out, N8.out, N9.out, N10.out, N11.out, N12.out, (YA HB)⟩)
    skip
    refine box_step ?hg (N := 5) ?hd (cs := #[.int .i64 0, .int .i64 0]) (t := 39) ?hr ?_; (case hd => rfl); (case hg => rfl); (case hr => first | (go_simp; done) | (go_simp; rfl))
    intro g4 hg w8 hbox hb
    have K4 := am (hbox)
    have G4 := am (bs hg (YA HB))
    have G5 := am (bs hg (YA HB))
    obtain ⟨N7,N8⟩ := ne_ hg K1
    obtain ⟨N9,N10⟩ := ne_ hg K2
    obtain ⟨N11,N12⟩ := ne_ hg K3
    obtain ⟨K1, K2, K3, HB⟩ := bk3 K1 K2 K3 HB hb
    clear hb hbox hg
    refine kk hK ⟨bc K1 0, bc K1 1, bc K1 2, bc K1 3, bc K2 0, bc K2 1, bc K2 2, bc K2 3⟩ fun hHeld => ?_
    clear hK K
    refine cl4 4 29 287 Try.func47 (impl_RestMeet.calls _ _ _ _ _ _ _ _ _ A3.out) K1 K2 K3 K4 HB fun w9 K1 K2 K3 K4 HB hHeld => ?_
    refine pk 5 24 319 ?_
    refine pk 6 30 383 ?_
    refine pk 7 31 511 ?_
    exact norm_ nz (hCont (g4) _ ⟨hHeld, (Z K1), (Z K2), (Z K3), (Z K4), G4.out, G5.out, N7.out, N8.out, N9.out, N10.out, N11.out, N12.out, (YA HB)⟩)
   rintro g4 w6 ⟨hS_, h0_, h1_, h2_, h3_, h4_, h5_, h6_, h7_, h8_, h9_, h10_, h11_, h12_⟩
   have K4 : Bx2 w6 g4 0 0 39 := ⟨h3_⟩
   have G4 : Aside0 (w.heap.size ≤ g4) := ⟨h4_⟩
   have G5 : Aside0 (w.heap.size ≤ g4) := ⟨h5_⟩
   have N7 : Aside0 (g1 ≠ g4) := ⟨h6_⟩
   have N8 : Aside0 (g4 ≠ g1) := ⟨h7_⟩
   have N9 : Aside0 (g2 ≠ g4) := ⟨h8_⟩
   have N10 : Aside0 (g4 ≠ g2) := ⟨h9_⟩
   have N11 : Aside0 (g3 ≠ g4) := ⟨h10_⟩
   have N12 : Aside0 (g4 ≠ g3) := ⟨h11_⟩
   replace K1 : Bx4 w6 g1 a0_0 a0_1 a0_2 a0_3 24 := ⟨h0_⟩
   replace K2 : Bx4 w6 g2 a1_0 a1_1 a1_2 a1_3 24 := ⟨h1_⟩
   replace K3 : Bx4 w6 g3 0 0 0 0 24 := ⟨h2_⟩
   replace HB : Aside0 (Below w.heap.size w w6) := ⟨h12_⟩
   clear h0_ h1_ h2_ h3_ h4_ h5_ h6_ h7_ h8_ h9_ h10_ h11_ h12_
   have hHeld : w6.cell? ⟨g1, 0, none⟩ = some (.int .i64 a0_0) ∧ w6.cell? ⟨g1, 1, none⟩ = some (.int .i64 a0_1) ∧ w6.cell? ⟨g1, 2, none⟩ = some (.int .i64 a0_2) ∧ w6.cell? ⟨g1, 3, none⟩ = some (.int .i64 a0_3) ∧ w6.cell? ⟨g2, 0, none⟩ = some (.int .i64 a1_0) ∧ w6.cell? ⟨g2, 1, none⟩ = some (.int .i64 a1_1) ∧ w6.cell? ⟨g2, 2, none⟩ = some (.int .i64 a1_2) ∧ w6.cell? ⟨g2, 3, none⟩ = some (.int .i64 a1_3) := hS_
   refine norm_ (a' := ?_) ?_ ?_
   rotate_left
   ·simp only [putAll, Act.put, List.setIfInBounds_toArray, List.set_cons_zero, List.set_cons_succ]
    rfl
   refine on 9 none 1023 fun K hK => ?_
   have s1 : w6.cell? ⟨g4, 0, none⟩ = some (.int .i64 0) := bc K4 0
   have hfs65 := blk_frozen K4.out 0
   have z_ := ns6 N7 N9 N11 N8 N10 N12
   have s2 : w6.cell? ⟨g4, 1, none⟩ = some (.int .i64 0) := bc K4 1
   have hfs66 := blk_frozen K4.out 1
   have z_ := ns6 N7 N9 N11 N8 N10 N12
   refine skip_ (w1 := ?_) (by rfl) rfl ?_ ?_
   rotate_left
   ·go_simp
    rfl
   refine hK.out _ _ ⟨(cf N7 ((cf N7 (hHeld.1)))), (cf N7 ((cf N7 (hHeld.2.1)))), (cf N7 ((cf N7 (hHeld.2.2.1)))), (cf N7 ((cf N7 (hHeld.2.2.2.1)))), (cf N9 ((cf N9 (hHeld.2.2.2.2.1)))), (cf N9 ((cf N9 (hHeld.2.2.2.2.2.1)))), (cf N9 ((cf N9 (hHeld.2.2.2.2.2.2.1)))), (cf N9 ((cf N9 (hHeld.2.2.2.2.2.2.2))))⟩ (fun hHeld => ?_)
   clear hK K
   refine pk 10 6 2047 ?_
   refine done_ (done_of HT_.out (by kernel_rfl)) ?_
   try go_wp2
   have n0_ : Aside0 (((w6.setCell ⟨g4, 0, none⟩ (.int .i64 t9)).setCell ⟨g4, 1, none⟩ (.int .i64 t10)).heap[g1]? = some (.cells #[.int .i64 a0_0, .int .i64 a0_1, .int .i64 a0_2, .int .i64 a0_3] 24 (0, 0))) := ⟨by refine fa N7 ?_; refine fa N7 ?_; exact Z K1⟩
   have n1_ : Aside0 (((w6.setCell ⟨g4, 0, none⟩ (.int .i64 t9)).setCell ⟨g4, 1, none⟩ (.int .i64 t10)).heap[g2]? = some (.cells #[.int .i64 a1_0, .int .i64 a1_1, .int .i64 a1_2, .int .i64 a1_3] 24 (0, 0))) := ⟨by refine fa N9 ?_; refine fa N9 ?_; exact Z K2⟩
   have n2_ : Aside0 (((w6.setCell ⟨g4, 0, none⟩ (.int .i64 t9)).setCell ⟨g4, 1, none⟩ (.int .i64 t10)).heap[g3]? = some (.cells #[.int .i64 0, .int .i64 0, .int .i64 0, .int .i64 0] 24 (0, 0))) := ⟨by refine fa N11 ?_; refine fa N11 ?_; exact Z K3⟩
   have n3_ : Aside0 (((w6.setCell ⟨g4, 0, none⟩ (.int .i64 t9)).setCell ⟨g4, 1, none⟩ (.int .i64 t10)).heap[g4]? = some (.cells #[.int .i64 t9, .int .i64 t10] 39 (0, 0))) := ⟨by refine pf ?_; refine blk_put (cs := #[.int .i64 t9, .int .i64 0]) ?_ 1 _ rfl; refine pf ?_; refine blk_put (cs := #[.int .i64 0, .int .i64 0]) ?_ 0 _ rfl; exact Z K4⟩
   have n4_ : Aside0 (Below w.heap.size w ((w6.setCell ⟨g4, 0, none⟩ (.int .i64 t9)).setCell ⟨g4, 1, none⟩ (.int .i64 t10))) := ⟨YA HB⟩
   (try clear K1)
   (try clear K2)
   (try clear K3)
   (try clear K4)
   (try clear HB)
   generalize ((w6.setCell ⟨g4, 0, none⟩ (.int .i64 t9)).setCell ⟨g4, 1, none⟩ (.int .i64 t10)) = w7 at n0_ n1_ n2_ n3_ n4_ ⊢
   have K1 := n0_
   have K2 := n1_
   have K3 := n2_
   have K4 := n3_
   have HB := n4_
   clear n0_ n1_ n2_ n3_ n4_
   obtain ⟨K1, K2, K3, K4, HB⟩ := dk4 K1 K2 K3 K4 HB
   refine start_ (n := 8) (S := fun w' => w'.cell? ⟨g1, 0, none⟩ = some (.int .i64 a0_0) ∧ w'.cell? ⟨g1, 1, none⟩ = some (.int .i64 a0_1) ∧ w'.cell? ⟨g1, 2, none⟩ = some (.int .i64 a0_2) ∧ w'.cell? ⟨g1, 3, none⟩ = some (.int .i64 a0_3) ∧ w'.cell? ⟨g2, 0, none⟩ = some (.int .i64 a1_0) ∧ w'.cell? ⟨g2, 1, none⟩ = some (.int .i64 a1_1) ∧ w'.cell? ⟨g2, 2, none⟩ = some (.int .i64 a1_2) ∧ w'.cell? ⟨g2, 3, none⟩ = some (.int .i64 a1_3) ∧ w'.cell? ⟨g4, 0, none⟩ = some (.int .i64 t9) ∧ w'.cell? ⟨g4, 1, none⟩ = some (.int .i64 t10)) (ds := []) (lb 8 0) (by kernel_rfl) rfl rfl ⟨bc K1 0, bc K1 1, bc K1 2, bc K1 3, bc K2 0, bc K2 1, bc K2 2, bc K2 3, bc K4 0, bc K4 1⟩ (fun hHeld => ?_); refine with_tabW impl_ValMeet.tab6 impl_ValMeet.bits6 (fun HT_ HW_ => ?_)
   generalize w7.drew = w8 at K1 K2 K3 K4 HB hHeld ⊢
   refine tk 0 35 1 hHeld ?_
   refine tk 2 37 5 hHeld ?_
   refine tk 5 40 37 hHeld ?_
   refine cl4 1 36 39 Try.func19 (impl_Val_span.calls _ _ _ _ _ _ _ A4.out) K1 K2 K3 K4 HB fun w9 K1 K2 K3 K4 HB hHeld => ?_
   refine cl4 3 38 47 Try.func19 (impl_Val_span.calls _ _ _ _ _ _ _ A5.out) K1 K2 K3 K4 HB fun w10 K1 K2 K3 K4 HB hHeld => ?_
   refine cl4 4 39 63 Try.func39 (impl_RangeMeet.calls _ _ _ _ _ _ _ _ A6.out) K1 K2 K3 K4 HB fun w11 K1 K2 K3 K4 HB hHeld => ?_
   refine cl4 6 41 127 Try.func20 (impl_ValMake.calls _ _ _ _ _ _ _ _ _ _ A7.out) K1 K2 K3 K4 HB fun w12 K1 K2 K3 K4 HB hHeld => ?_
   refine on 7 none 255 fun K hK => ?_
   have s3 : w12.cell? ⟨g3, 0, none⟩ = some (.int .i64 0) := bc K3 0
   have hfs73 := blk_frozen K3.out 0
   have z_ := ns6 N3 N5 N12 N4 N6 N11
   have s4 : w12.cell? ⟨g3, 1, none⟩ = some (.int .i64 0) := bc K3 1
   have hfs74 := blk_frozen K3.out 1
   have z_ := ns6 N3 N5 N12 N4 N6 N11
   have s5 : w12.cell? ⟨g3, 2, none⟩ = some (.int .i64 0) := bc K3 2
   have hfs75 := blk_frozen K3.out 2
   have z_ := ns6 N3 N5 N12 N4 N6 N11
   have s6 : w12.cell? ⟨g3, 3, none⟩ = some (.int .i64 0) := bc K3 3
   have hfs76 := blk_frozen K3.out 3
   have z_ := ns6 N3 N5 N12 N4 N6 N11
   refine skip_ (w1 := ?_) (by rfl) rfl ?_ ?_
   rotate_left
   ·go_simp
    rfl
   refine hK.out _ _ ⟨(cf N3 ((cf N3 ((cf N3 ((cf N3 (hHeld.1)))))))), (cf N3 ((cf N3 ((cf N3 ((cf N3 (hHeld.2.1)))))))), (cf N3 ((cf N3 ((cf N3 ((cf N3 (hHeld.2.2.1)))))))), (cf N3 ((cf N3 ((cf N3 ((cf N3 (hHeld.2.2.2.1)))))))), (cf N5 ((cf N5 ((cf N5 ((cf N5 (hHeld.2.2.2.2.1)))))))), (cf N5 ((cf N5 ((cf N5 ((cf N5 (hHeld.2.2.2.2.2.1)))))))), (cf N5 ((cf N5 ((cf N5 ((cf N5 (hHeld.2.2.2.2.2.2.1)))))))), (cf N5 ((cf N5 ((cf N5 ((cf N5 (hHeld.2.2.2.2.2.2.2.1)))))))), (cf N12 ((cf N12 ((cf N12 ((cf N12 (hHeld.2.2.2.2.2.2.2.2.1)))))))), (cf N12 ((cf N12 ((cf N12 ((cf N12 (hHeld.2.2.2.2.2.2.2.2.2))))))))⟩ (fun hHeld => ?_)
   clear hK K
   refine done_ (done_of HT_.out (by kernel_rfl)) ?_
   try go_wp2
   refine bodyPost_ret (results_cell_row rfl _ _ g3 24 #[.int .i64 t18, .int .i64 t19, .int .i64 t20, .int .i64 t21] (0, 0) _ rfl (by refine pf ?_; refine blk_put (cs := #[.int .i64 t18, .int .i64 t19, .int .i64 t20, .int .i64 0]) ?_ 3 _ rfl; refine pf ?_; refine blk_put (cs := #[.int .i64 t18, .int .i64 t19, .int .i64 0, .int .i64 0]) ?_ 2 _ rfl; refine pf ?_; refine blk_put (cs := #[.int .i64 t18, .int .i64 0, .int .i64 0, .int .i64 0]) ?_ 1 _ rfl; refine pf ?_; refine blk_put (cs := #[.int .i64 0, .int .i64 0, .int .i64 0, .int .i64 0]) ?_ 0 _ rfl; exact Z K3) Try.underlying24 rfl (by kernel_rfl)) rfl ?_
   exact ⟨ez, YA HB⟩
end
end Go.Proofs.Ytdmadlfdibiejaa.PFnExactValCmp
