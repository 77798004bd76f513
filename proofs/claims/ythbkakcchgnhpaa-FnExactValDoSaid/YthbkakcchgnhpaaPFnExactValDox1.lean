/- Written by this session's own driver (wip/dprint.py): the functions that the law FnExactValDo reaches, as Lean functions, each with its contract. -/
import Derived.Test.YthbkakcchgnhpaaPFnExactValDox0
import Derived.Test.YthbkakcchgnhpaaSv
namespace Go.Proofs.Ythbkakcchgnhpaa.PFnExactValDo
open Go.RowKit Go.Proofs.YthbkakcchgnhpaaV.PrintWords Go.Proofs.YthbkakcchgnhpaaV.PrintLast Go.Proofs.YthbkakcchgnhpaaV.PrintMore Go.Proofs.YthbkakcchgnhpaaSv
set_option linter.unusedVariables false
set_option linter.unusedSimpArgs false
section
attribute [local go_sem] max2_int min2_int max_two min_two max_three min_three max_four min_four
theorem eqA24 (d : Nat) (w : World) (x0 y0 : Int) (x1 y1 : Int) :
  (Op.equalIn (d + 2) 24 (.agg #[.int .i64 x0, .int .i64 x1]) (.agg #[.int .i64 y0, .int .i64 y1])).run Try.prog w = .ok (x0 == y0 && (x1 == y1)) w := by
 refine eqA_of Try.underlying24 (by kernel_rfl) ?_
 refine eqf_cons (by rfl) (by go_simp; rfl) (by go_simp; rfl) (by go_simp) ?_
 exact eqf_last (by rfl) (by go_simp; rfl) (by go_simp; rfl) (by go_simp)
end
section
attribute [local go_sem] max2_int min2_int max_two min_two max_three min_three max_four min_four
theorem eqA50 (d : Nat) (w : World) (x0 y0 : Int) (x1 y1 : Int) (x2 y2 : Int) (x3 y3 : Int) :
  (Op.equalIn (d + 2) 50 (.agg #[.int .i64 x0, .int .i64 x1, .int .i64 x2, .int .i64 x3]) (.agg #[.int .i64 y0, .int .i64 y1, .int .i64 y2, .int .i64 y3])).run Try.prog w = .ok (x0 == y0 && (x1 == y1 && (x2 == y2 && (x3 == y3)))) w := by
 refine eqA_of Try.underlying50 (by kernel_rfl) ?_
 refine eqf_cons (by rfl) (by go_simp; rfl) (by go_simp; rfl) (by go_simp) ?_
 refine eqf_cons (by rfl) (by go_simp; rfl) (by go_simp; rfl) (by go_simp) ?_
 refine eqf_cons (by rfl) (by go_simp; rfl) (by go_simp; rfl) (by go_simp) ?_
 exact eqf_last (by rfl) (by go_simp; rfl) (by go_simp; rfl) (by go_simp)
end
section
attribute [local go_sem] max2_int min2_int max_two min_two max_three min_three max_four min_four
attribute [local go_sem] Go.Proofs.YthbkakcchgnhpaaSet.isSome_setCell
def laws_eqIntS.l0 : Nat → List Int → List Int → Int → Option (Bool)
 | 0, _, _, _ => none
 | k + 1, x1, x2, x3 => if x3 < (x1.length : Int) then (if 0 ≤ x3 then (if x3 < (x2.length : Int) then (if (rd x1 x3) = (rd x2 x3) then (laws_eqIntS.l0 k x1 x2 (wrap64 (x3 + 1))) else (some false)) else (none)) else (none)) else (some true)
def laws_eqIntS.f (k : Nat) (l0 : List Int) (l1 : List Int) : Option (Bool) := if (l0.length : Int) = (l1.length : Int) then (laws_eqIntS.l0 k l0 l1 0) else (some false)
theorem laws_eqIntS.mono_l : ∀ k, (∀ y0 y1 y2, LeO (laws_eqIntS.l0 k y0 y1 y2) (laws_eqIntS.l0 (k + 1) y0 y1 y2))
 | 0 => fun _ _ _ r h => by simp [laws_eqIntS.l0] at h
 | k + 1 => by
  have ih0 := laws_eqIntS.mono_l k
  ·intro y0 y1 y2
   unfold laws_eqIntS.l0
   repeat' first | (with_reducible first | apply ih0 | apply LeO.refl | apply LeO.none | refine LeO.ite ?_ ?_ | refine LeO.bind ?_ (fun _ => ?_)) | apply ih0 | apply LeO.none | refine LeO.ite ?_ ?_ | refine LeO.bind ?_ (fun _ => ?_)
theorem laws_eqIntS.mono : ∀ a0 a1 k, LeO (laws_eqIntS.f k a0 a1) (laws_eqIntS.f (k + 1) a0 a1) := by
 intro a0 a1 k
 have ih0 := laws_eqIntS.mono_l k
 unfold laws_eqIntS.f
 repeat' first | (with_reducible first | apply ih0 | apply LeO.refl | apply LeO.none | refine LeO.ite ?_ ?_ | refine LeO.bind ?_ (fun _ => ?_)) | apply ih0 | apply LeO.none | refine LeO.ite ?_ ?_ | refine LeO.bind ?_ (fun _ => ?_)
set_option maxHeartbeats 8000000 in
set_option maxRecDepth 100000 in
theorem laws_eqIntS.calls (k : Nat) (A1 : Option Addr) (c1 : Nat) (l0 : List Int) (A2 : Option Addr) (c2 : Nat) (l1 : List Int) (r : Bool) (w : World) (hr0 : Kd.C (Kd.int .i64) w A1 l0.length l0) (hc0 : l0.length ≤ c1) (hr1 : Kd.C (Kd.int .i64) w A2 l1.length l1) (hc1 : l1.length ≤ c2) (h : laws_eqIntS.f k l0 l1 = some r) :
  Calls Try.prog 13 #[.slice A1 l0.length c1, .slice A2 l1.length c2] w fun e w' => e = .returned (.bool r) ∧ Drawn0 w w' := by
 have R1 := am hr0
 have C1 := am hc0
 clear hr0 hc0
 have R2 := am hr1
 have C2 := am hc1
 clear hr1 hc1
 have H : (if (l0.length : Int) = (l1.length : Int) then (laws_eqIntS.l0 k l0 l1 0) else (some false)) = some r := h
 clear h
 by_cases c3 : (l0.length : Int) = (l1.length : Int)
 rotate_left
 ·rw [if_neg c3] at H
  have d1 := eF c3
  have d2 := nT c3
  have d3 : (l0.length == l1.length) = false := by first | simpa using c3 | (simp at c3 ⊢; omega)
  obtain rfl := Option.some.inj H
  go_enter Try.func13, Try.ntmps13
  go_wp2
  repeat (go_quiet (fail); try go_wp2)
  go_ret
  exact ⟨by first | rfl | (simp; done) | (simp [*]; done), by repeat (first | exact Drawn0.refl _ | apply Drawn0.step)⟩
 rw [if_pos c3] at H
 have d1 := eT c3
 have d2 := nF c3
 have d3 : (l0.length == l1.length) = true := by first | simpa using c3 | (simp at c3 ⊢; omega)
 clear c3
 have H' := am H
 clear H
 go_enter Try.func13, Try.ntmps13
 go_wp2
 repeat (go_quiet (fail); try go_wp2)
 go_loopg [5] k (fun kq v1 w' => ∃ (x1 : Int), v1 = .int .i64 x1 ∧ Aside0 (laws_eqIntS.l0 kq l0 l1 x1 = some r) ∧ Aside0 (kq ≤ k) ∧ Drawn0 w w')
 case atStart => exact ⟨(0), ey, H', ⟨Nat.le_refl _⟩, by repeat (first | exact Drawn0.refl _ | apply Drawn0.step)⟩
 case round =>
  clear H'
  (try clear d1);(try clear d2);(try clear d3)
  obtain ⟨x1, rfl, HA, HK1, ⟨m1, rfl⟩⟩ := hrel
  cases gk with
  | zero => exact absurd HA.out (by simp [laws_eqIntS.l0])
  | succ k1 =>
   have H := HA.out
   clear HA
   simp only [laws_eqIntS.l0] at H
   by_cases c4 : x1 < (l0.length : Int)
   rotate_left
   ·rw [if_neg c4] at H
    have d4 := dF c4
    clear c4
    obtain rfl := Option.some.inj H
    go_wp2
    repeat (go_quiet (fail); try go_wp2)
    go_ret
    exact ⟨by first | rfl | (simp; done) | (simp [*]; done), by repeat (first | exact Drawn0.refl _ | apply Drawn0.step)⟩
   rw [if_pos c4] at H
   have d4 := dT c4
   clear c4
   by_cases c5 : 0 ≤ x1
   rotate_left
   ·rw [if_neg c5] at H
    exact absurd H (by simp)
   rw [if_pos c5] at H
   have d5 := dT c5
   clear c5
   by_cases c6 : x1 < (l1.length : Int)
   rotate_left
   ·rw [if_neg c6] at H
    exact absurd H (by simp)
   rw [if_pos c6] at H
   have d6 := dT c6
   clear c6
   by_cases c7 : (rd l0 x1) = (rd l1 x1)
   rotate_left
   ·rw [if_neg c7] at H
    have d7 := eF c7
    have d8 := nT c7
    obtain rfl := Option.some.inj H
    have p101 : 0 ≤ (x1 : Int) := oz
    have q101 : x1 < (l0.length : Int) := oz
    obtain ⟨ad101, e101, hx101_0⟩ := Kd.at_int R1.out x1 p101 q101
    cases e101
    replace p101 := eq_true p101
    replace q101 := eq_true q101
    have p102 : 0 ≤ (x1 : Int) := oz
    have q102 : x1 < (l1.length : Int) := oz
    obtain ⟨ad102, e102, hx102_0⟩ := Kd.at_int R2.out x1 p102 q102
    cases e102
    replace p102 := eq_true p102
    replace q102 := eq_true q102
    go_wp2
    repeat (go_quiet (fail); try go_wp2)
    go_ret
    exact ⟨by first | rfl | (simp; done) | (simp [*]; done), by repeat (first | exact Drawn0.refl _ | apply Drawn0.step)⟩
   rw [if_pos c7] at H
   have d7 := eT c7
   have d8 := nF c7
   clear c7
   have H' := am H
   clear H
   have p101 : 0 ≤ (x1 : Int) := oz
   have q101 : x1 < (l0.length : Int) := oz
   obtain ⟨ad101, e101, hx101_0⟩ := Kd.at_int R1.out x1 p101 q101
   cases e101
   replace p101 := eq_true p101
   replace q101 := eq_true q101
   have p102 : 0 ≤ (x1 : Int) := oz
   have q102 : x1 < (l1.length : Int) := oz
   obtain ⟨ad102, e102, hx102_0⟩ := Kd.at_int R2.out x1 p102 q102
   cases e102
   replace p102 := eq_true p102
   replace q102 := eq_true q102
   go_wp2
   repeat (go_quiet (fail); try go_wp2)
   go_roundg k1
   case measure => have := HK1.out; omega
   case rel => exact ⟨(wrap64 (x1 + 1)), ey, H', ⟨by have := HK1.out; omega⟩, by repeat (first | exact Drawn0.refl _ | apply Drawn0.step)⟩

def laws_markIntS.l0 : Nat → List Int → Int → Int → Option (Int × List Int)
 | 0, _, _, _ => none
 | k + 1, x1, x2, x3 => if x3 < (x1.length : Int) then (if 0 ≤ x3 then (laws_markIntS.l0 k (x1.set (x3 : Int).toNat x2) (wrap64 (x2 + 1)) (wrap64 (x3 + 1))) else (none)) else (some (x2, x1))
def laws_markIntS.f (k : Nat) (l0 : List Int) (a1 : Int) : Option (Int × List Int) := laws_markIntS.l0 k l0 a1 0
theorem laws_markIntS.mono_l : ∀ k, (∀ y0 y1 y2, LeO (laws_markIntS.l0 k y0 y1 y2) (laws_markIntS.l0 (k + 1) y0 y1 y2))
 | 0 => fun _ _ _ r h => by simp [laws_markIntS.l0] at h
 | k + 1 => by
  have ih0 := laws_markIntS.mono_l k
  ·intro y0 y1 y2
   unfold laws_markIntS.l0
   repeat' first | (with_reducible first | apply ih0 | apply LeO.refl | apply LeO.none | refine LeO.ite ?_ ?_ | refine LeO.bind ?_ (fun _ => ?_)) | apply ih0 | apply LeO.none | refine LeO.ite ?_ ?_ | refine LeO.bind ?_ (fun _ => ?_)
theorem laws_markIntS.mono : ∀ a0 a1 k, LeO (laws_markIntS.f k a0 a1) (laws_markIntS.f (k + 1) a0 a1) := by
 intro a0 a1 k
 have ih0 := laws_markIntS.mono_l k
 unfold laws_markIntS.f
 repeat' first | (with_reducible first | apply ih0 | apply LeO.refl | apply LeO.none | refine LeO.ite ?_ ?_ | refine LeO.bind ?_ (fun _ => ?_)) | apply ih0 | apply LeO.none | refine LeO.ite ?_ ?_ | refine LeO.bind ?_ (fun _ => ?_)
set_option maxHeartbeats 8000000 in
set_option maxRecDepth 100000 in
theorem laws_markIntS.calls (k : Nat) (P0_ : Nat → Prop) (u9000_ : Value) (l0 : List Int) (a1 : Int) (r1 : Int) (r2 : List Int) (w2 w : World) (hB : Below w2.heap.size w2 w) (o1 : Kd.R (Kd.int .i64) 3 w w2.heap.size P0_ u9000_ l0) (h : laws_markIntS.f k l0 a1 = some (r1, r2)) :
  Calls Try.prog 14 #[u9000_, .int .i64 a1] w fun e w' => e = .returned (.int .i64 r1) ∧ Kd.R (Kd.int .i64) 3 w' w2.heap.size (fun k_ => (P0_ k_ ∨ w.heap.size ≤ k_)) u9000_ r2 ∧ Below w2.heap.size w2 w' ∧ Kept w w' (fun k_ => P0_ k_) := by
 have O1 := am (show Kd.R (Kd.int .i64) 3 w w2.heap.size (fun k_ => (P0_ k_ ∨ w.heap.size ≤ k_)) u9000_ l0 from Kd.R_mono o1 (fun k_ hk => (.inl hk)))
 have HK := am (Kept.refl w (fun k_ => P0_ k_))
 have HW0 := am hB.size
 have HB := am hB
 clear hB
 have H : (laws_markIntS.l0 k l0 a1 0) = some (r1, r2) := h
 clear h
 have H' := am H
 clear H
 go_enter Try.func14, Try.ntmps14
 go_wp2
 go_loopg [1, 5] k (fun kq v1 v2 w' => ∃ (x1 : List Int) (x2 : Int) (x3 : Int), v1 = .int .i64 x2 ∧ v2 = .int .i64 x3 ∧ Aside0 (laws_markIntS.l0 kq x1 x2 x3 = some (r1, r2)) ∧ Aside0 (kq ≤ k) ∧ Aside0 (Kd.R (Kd.int .i64) 3 w' w2.heap.size (fun k_ => (P0_ k_ ∨ w.heap.size ≤ k_)) u9000_ x1) ∧ Aside0 (Kept w w' (fun k_ => P0_ k_)) ∧ Aside0 (Below w2.heap.size w2 w'))
 case atStart => exact ⟨(l0), (a1), (0), ey, ey, H', ⟨Nat.le_refl _⟩, ⟨by exact RZ O1⟩, ⟨by repeat (first | (with_reducible first | exact HK.out | apply Kept.alloc | apply Kept.drewN | apply Kept.drew) | exact HK.out)⟩, ⟨YA HB⟩⟩
 case round =>
  clear H'
  obtain ⟨x1, x2, x3, rfl, rfl, HA, HK1, O2, HK, HB⟩ := hrel
  cases gk with
  | zero => exact absurd HA.out (by simp [laws_markIntS.l0])
  | succ k1 =>
   have H := HA.out
   clear HA
   simp only [laws_markIntS.l0] at H
   by_cases c1 : x3 < (x1.length : Int)
   rotate_left
   ·rw [if_neg c1] at H
    have d1 := dF c1
    clear c1
    simp only [Option.some.injEq, Prod.mk.injEq] at H
    obtain ⟨rfl, rfl⟩ := H
    obtain ⟨q1, f1, e1⟩ := Kd.R_slice O2.out
    subst e1
    go_wp2
    go_ret
    exact ⟨ez, by exact RZ O2, YA HB, by repeat (first | (with_reducible first | exact HK.out | apply Kept.alloc | apply Kept.drewN | apply Kept.drew) | exact HK.out)⟩
   rw [if_pos c1] at H
   have d1 := dT c1
   clear c1
   by_cases c2 : 0 ≤ x3
   rotate_left
   ·rw [if_neg c2] at H
    exact absurd H (by simp)
   rw [if_pos c2] at H
   have d2 := dT c2
   clear c2
   obtain ⟨y1, y2⟩ : ∃ y_ : List Int, y_ = (x1.set (x3 : Int).toNat x2) := ⟨_, rfl⟩
   replace H : (laws_markIntS.l0 k1 y1 (wrap64 (x2 + 1)) (wrap64 (x3 + 1))) = some (r1, r2) := by first | (rw [y2]; with_reducible exact H) | (have H2_ := (Option.bind_some _ _).symm.trans H; rw [y2]; with_reducible exact H2_) | (have H2_ := (Option.bind_some _ _).symm.trans H; with_reducible exact H2_) | with_reducible exact H | (rw [y2]; exact H) | exact H
   have Y25 := am y2
   clear y2
   have H' := am H
   clear H
   obtain ⟨q1, f1, e1⟩ := Kd.R_slice O2.out
   subst e1
   have p5 : 0 ≤ (x3 : Int) := oz
   have q5 : (x3 : Int) < ((x1.length : Int) : Int) := oz
   obtain ⟨go5, f2, e2, g1, gl5, cl5, HG5⟩ := Kd.R_form O2.out (by omega)
   (first | cases e2 | (injection e2 with ea_ en_ ec_; (first | subst ea_ | (injection ea_ with ea_; subst ea_)); subst ec_; clear en_))
   have GB5 := am g1
   have GG5 := am HG5
   clear g1 gl5 HG5
   have HMgo5 := am (show (P0_ go5 ∨ w.heap.size ≤ go5) from (O2.out.1 _ rfl))
   obtain ⟨hx5_0, hf5_0⟩ := Kd.R_celln 0 O2.out (x3 : Int) p5 q5
   replace p5 := eq_true p5
   replace q5 := eq_true q5
   have HP7 := Kd.R_putg O2.out (x3 : Int) x2
   go_wp2_with (first | ((with_reducible refine gate_store (t := 3) (p := 15) rfl ?_); refine store_event (t := 3) (p := 15) (v := ?vo_w8) (w1 := (wr.setCell ⟨go5, (x3 : Int).toNat, none⟩ (.int .i64 x2))) ?hg ?ho ?hn ?hr ?_; (case ho => rfl); (case hg => rfl); (case hn => rfl); (case hr => first | (go_simp; done) | (go_simp; rfl)); intro w3 hw; have hg : wr.grownBy w3 (some go5) := (by rw [hw]; exact HP7.2); have hp_ : Kd.R (Kd.int .i64) 3 w3 w2.heap.size (fun k_ => (P0_ k_ ∨ w.heap.size ≤ k_)) (.slice (some ⟨go5, 0, none⟩) x1.length f1) y1 := (by rw [hw, Y25.out]; exact HP7.1); clear HP7; replace HB := am ((by rw [hw]; exact below_set (HB.out) GB5.out : Below w2.heap.size w2 w3)); replace HK := am (Kept.of_grown (S := (fun k_ => P0_ k_)) hg (by repeat (first | (with_reducible first | exact HK.out | apply Kept.alloc | apply Kept.drewN | apply Kept.drew) | exact HK.out)) (fun k_ e_ => (O2.out.1 k_ e_))); replace O2 := am (hp_); clear hg hw hp_))
   go_roundg k1
   case measure => have := HK1.out; omega
   case rel => exact ⟨(y1), (wrap64 (x2 + 1)), (wrap64 (x3 + 1)), ey, ey, H', ⟨by have := HK1.out; omega⟩, ⟨by exact RZ O2⟩, ⟨by repeat (first | (with_reducible first | exact HK.out | apply Kept.alloc | apply Kept.drewN | apply Kept.drew) | exact HK.out)⟩, ⟨YA HB⟩⟩

def laws_heldIntS.l0 : Nat → List Int → Int → Int → Option (Int)
 | 0, _, _, _ => none
 | k + 1, x1, x2, x3 => if x3 < (x1.length : Int) then (if 0 ≤ x3 then (if (rd x1 x3) = x2 then (laws_heldIntS.l0 k x1 (wrap64 (x2 + 1)) (wrap64 (x3 + 1))) else (some (-1))) else (none)) else (some x2)
def laws_heldIntS.f (k : Nat) (l0 : List Int) (a1 : Int) : Option (Int) := laws_heldIntS.l0 k l0 a1 0
theorem laws_heldIntS.mono_l : ∀ k, (∀ y0 y1 y2, LeO (laws_heldIntS.l0 k y0 y1 y2) (laws_heldIntS.l0 (k + 1) y0 y1 y2))
 | 0 => fun _ _ _ r h => by simp [laws_heldIntS.l0] at h
 | k + 1 => by
  have ih0 := laws_heldIntS.mono_l k
  ·intro y0 y1 y2
   unfold laws_heldIntS.l0
   repeat' first | (with_reducible first | apply ih0 | apply LeO.refl | apply LeO.none | refine LeO.ite ?_ ?_ | refine LeO.bind ?_ (fun _ => ?_)) | apply ih0 | apply LeO.none | refine LeO.ite ?_ ?_ | refine LeO.bind ?_ (fun _ => ?_)
theorem laws_heldIntS.mono : ∀ a0 a1 k, LeO (laws_heldIntS.f k a0 a1) (laws_heldIntS.f (k + 1) a0 a1) := by
 intro a0 a1 k
 have ih0 := laws_heldIntS.mono_l k
 unfold laws_heldIntS.f
 repeat' first | (with_reducible first | apply ih0 | apply LeO.refl | apply LeO.none | refine LeO.ite ?_ ?_ | refine LeO.bind ?_ (fun _ => ?_)) | apply ih0 | apply LeO.none | refine LeO.ite ?_ ?_ | refine LeO.bind ?_ (fun _ => ?_)
set_option maxHeartbeats 8000000 in
set_option maxRecDepth 100000 in
theorem laws_heldIntS.calls (k : Nat) (A1 : Option Addr) (c1 : Nat) (l0 : List Int) (a1 : Int) (r : Int) (w : World) (hr0 : Kd.C (Kd.int .i64) w A1 l0.length l0) (hc0 : l0.length ≤ c1) (h : laws_heldIntS.f k l0 a1 = some r) :
  Calls Try.prog 15 #[.slice A1 l0.length c1, .int .i64 a1] w fun e w' => e = .returned (.int .i64 r) ∧ Drawn0 w w' := by
 have R1 := am hr0
 have C1 := am hc0
 clear hr0 hc0
 have H : (laws_heldIntS.l0 k l0 a1 0) = some r := h
 clear h
 have H' := am H
 clear H
 go_enter Try.func15, Try.ntmps15
 go_wp2
 go_loopg [1, 5] k (fun kq v1 v2 w' => ∃ (x1 : Int) (x2 : Int), v1 = .int .i64 x1 ∧ v2 = .int .i64 x2 ∧ Aside0 (laws_heldIntS.l0 kq l0 x1 x2 = some r) ∧ Aside0 (kq ≤ k) ∧ Drawn0 w w')
 case atStart => exact ⟨(a1), (0), ey, ey, H', ⟨Nat.le_refl _⟩, by repeat (first | exact Drawn0.refl _ | apply Drawn0.step)⟩
 case round =>
  clear H'
  obtain ⟨x1, x2, rfl, rfl, HA, HK1, ⟨m1, rfl⟩⟩ := hrel
  cases gk with
  | zero => exact absurd HA.out (by simp [laws_heldIntS.l0])
  | succ k1 =>
   have H := HA.out
   clear HA
   simp only [laws_heldIntS.l0] at H
   by_cases c2 : x2 < (l0.length : Int)
   rotate_left
   ·rw [if_neg c2] at H
    have d1 := dF c2
    clear c2
    obtain rfl := Option.some.inj H
    go_wp2
    go_ret
    exact ⟨by first | rfl | (simp; done) | (simp [*]; done), by repeat (first | exact Drawn0.refl _ | apply Drawn0.step)⟩
   rw [if_pos c2] at H
   have d1 := dT c2
   clear c2
   by_cases c3 : 0 ≤ x2
   rotate_left
   ·rw [if_neg c3] at H
    exact absurd H (by simp)
   rw [if_pos c3] at H
   have d2 := dT c3
   clear c3
   by_cases c4 : (rd l0 x2) = x1
   rotate_left
   ·rw [if_neg c4] at H
    have d3 := eF c4
    have d4 := nT c4
    obtain rfl := Option.some.inj H
    have p104 : 0 ≤ (x2 : Int) := oz
    have q104 : x2 < (l0.length : Int) := oz
    obtain ⟨ad104, e104, hx104_0⟩ := Kd.at_int R1.out x2 p104 q104
    cases e104
    replace p104 := eq_true p104
    replace q104 := eq_true q104
    go_wp2
    go_ret
    exact ⟨by first | rfl | (simp; done) | (simp [*]; done), by repeat (first | exact Drawn0.refl _ | apply Drawn0.step)⟩
   rw [if_pos c4] at H
   have d3 := eT c4
   have d4 := nF c4
   clear c4
   have H' := am H
   clear H
   have p104 : 0 ≤ (x2 : Int) := oz
   have q104 : x2 < (l0.length : Int) := oz
   obtain ⟨ad104, e104, hx104_0⟩ := Kd.at_int R1.out x2 p104 q104
   cases e104
   replace p104 := eq_true p104
   replace q104 := eq_true q104
   go_wp2
   go_roundg k1
   case measure => have := HK1.out; omega
   case rel => exact ⟨(wrap64 (x1 + 1)), (wrap64 (x2 + 1)), ey, ey, H', ⟨by have := HK1.out; omega⟩, by repeat (first | exact Drawn0.refl _ | apply Drawn0.step)⟩

def spec_l1In.f (a0 : Int) (a1 : Int) (a2 : Int) : Option (Bool) := if a0 ≥ a1 then (some (decide (a0 ≤ a2))) else (some false)
set_option maxHeartbeats 8000000 in
set_option maxRecDepth 100000 in
theorem spec_l1In.calls (a0 : Int) (a1 : Int) (a2 : Int) (r : Bool) (w : World) (h : spec_l1In.f a0 a1 a2 = some r) :
  Calls Try.prog 37 #[.int .i64 a0, .int .i64 a1, .int .i64 a2] w fun e w' => e = .returned (.bool r) ∧ Drawn0 w w' := by
 have H : (if a0 ≥ a1 then (some (decide (a0 ≤ a2))) else (some false)) = some r := h
 clear h
 by_cases c1 : a0 ≥ a1
 ·rw [if_pos c1] at H
  have d1 := dT c1
  clear c1
  obtain rfl := Option.some.inj H
  go_enter Try.func37, Try.ntmps37
  go_wp2
  go_ret
  exact ⟨by first | rfl | (simp; done) | (simp [*]; done), by repeat (first | exact Drawn0.refl _ | apply Drawn0.step)⟩
 rw [if_neg c1] at H
 have d1 := dF c1
 clear c1
 obtain rfl := Option.some.inj H
 go_enter Try.func37, Try.ntmps37
 go_wp2
 go_ret
 exact ⟨by first | rfl | (simp; done) | (simp [*]; done), by repeat (first | exact Drawn0.refl _ | apply Drawn0.step)⟩

def spec_NumOk.f (a0 : Int) : Option (Bool) := (spec_l1In.f a0 (-2147483648) 2147483647).bind fun t1 => (some t1)
set_option maxHeartbeats 8000000 in
set_option maxRecDepth 100000 in
theorem spec_NumOk.calls (a0 : Int) (r : Bool) (w : World) (h : spec_NumOk.f a0 = some r) :
  Calls Try.prog 19 #[.int .i64 a0] w fun e w' => e = .returned (.bool r) ∧ Drawn0 w w' := by
 have H : ((spec_l1In.f a0 (-2147483648) 2147483647).bind fun t1 => (some t1)) = some r := h
 clear h
 obtain ⟨t1, A1, H⟩ := bd H
 try dsimp only at H
 obtain rfl := Option.some.inj H
 go_enter Try.func19, Try.ntmps19
 go_wp2_with (first | ((with_reducible refine gate_callee (f := 37) rfl ?_); refine goesL_ (some 4) rfl rfl Try.func37 (by kernel_rfl) rfl #[.int .i64 a0, .int .i64 (-2147483648), .int .i64 2147483647] rfl mz ?_; (with_reducible refine (spec_l1In.calls _ _ _ _ _ A1.out).mono ?_); rintro e w' ⟨rfl, ⟨nd, rfl⟩⟩; refine ⟨_, rfl, ?_⟩))
 go_ret
 exact ⟨by first | rfl | (simp; done) | (simp [*]; done), by repeat (first | exact Drawn0.refl _ | apply Drawn0.step)⟩

def spec_l8None.f  : Option (Int × Int) := some (1, 0)
set_option maxHeartbeats 8000000 in
set_option maxRecDepth 100000 in
theorem spec_l8None.calls  (r1 : Int) (r2 : Int) (w : World) (h : spec_l8None.f  = some (r1, r2)) :
  Calls Try.prog 38 #[] w fun e w' => e = .returned (.agg #[.int .i64 r1, .int .i64 r2]) ∧ Below w.heap.size w w' := by
 have hu24 := Try.underlying24
 have HB := am (Below.refl w.heap.size w)
 have H : (some (1, 0)) = some (r1, r2) := h
 clear h
 simp only [Option.some.injEq, Prod.mk.injEq] at H
 obtain ⟨rfl, rfl⟩ := H
 go_enter Try.func38, Try.ntmps38
 go_wp2_with (first | ((with_reducible refine gate_dst (N := 0) rfl ?_); refine bxn 0 #[.int .i64 0, .int .i64 0] 24 HB fun g1 w1 K1 G1 hg hb => ?_; replace HB := am (below_step (YA HB) hb); clear hb hg; have z_ := cB2 K1))
 refine bodyPost_ret (results_cell_row rfl _ _ g1 24 #[.int .i64 1, .int .i64 0] (0, 0) _ rfl (by refine pf ?_; refine blk_put (cs := #[.int .i64 1, .int .i64 0]) ?_ 1 _ rfl; refine pf ?_; refine blk_put (cs := #[.int .i64 0, .int .i64 0]) ?_ 0 _ rfl; exact Z K1) Try.underlying24 rfl (by kernel_rfl)) rfl ?_
 exact ⟨ez, YA HB⟩
end
section
attribute [local go_sem] max2_int min2_int max_two min_two max_three min_three max_four min_four
attribute [local go_sem high] eqA24
attribute [local go_sem] Go.Proofs.YthbkakcchgnhpaaSet.isSome_setCell
def spec_RangeOk.f (a0_0 : Int) (a0_1 : Int) : Option (Bool) := (spec_l8None.f).bind fun u1 => (if (a0_0 == u1.1 && (a0_1 == u1.2)) = true then (some true) else ((spec_NumOk.f a0_0).bind fun t1 => (if t1 = true then ((spec_NumOk.f a0_1).bind fun t2 => (if t2 = true then (some (decide (a0_0 ≤ a0_1))) else (some false))) else (some false))))
def spec_RangeOk.T1 : Bool × List (List Nat × List Nat) := (true, [([], []), ([], []), ([0, 1], [0, 1]), ([2, 1], [2]), ([3], [3]), ([4, 3], [3, 4]), ([5, 3, 3], [3, 5]), ([6, 6, 3], [3, 6]), ([7], [7]), ([8, 7], [7, 8]), ([9, 7, 7], [7, 9]), ([7, 10, 3], [3, 7, 10]), ([11, 10, 3], [3, 11]), ([12], [12]), ([13, 12], [12, 13]), ([12], [12]), ([15, 12], [12, 15]), ([14, 16, 12], [12, 14, 16]), ([12, 17, 3], [3, 12, 17]), ([3, 18], [3, 18]), ([19, 12, 0, 1, 2, 3, 4, 5, 6, 7, 8, 9, 10, 11, 12, 13, 14, 15, 16, 17, 18, 19], [19])])
def spec_RangeOk.B1 : List Nat := [0, 0, 3, 7, 15, 31, 63, 127, 255, 511, 1023, 2047, 4095, 8191, 16383, 8191, 40959, 131071, 262143, 524287, 1048575]
theorem spec_RangeOk.tab1 : rtab .any (opsOf Try.f24 1) = spec_RangeOk.T1 := by kernel_rfl
theorem spec_RangeOk.bits1 : waitsOk spec_RangeOk.T1.2 spec_RangeOk.B1 = true := by kernel_rfl
set_option maxHeartbeats 8000000 in
set_option maxRecDepth 100000 in
theorem spec_RangeOk.calls (a0_0 : Int) (a0_1 : Int) (r : Bool) (w : World) (h : spec_RangeOk.f a0_0 a0_1 = some r) :
  Calls Try.prog 24 #[.agg #[.int .i64 a0_0, .int .i64 a0_1]] w fun e w' => e = .returned (.bool r) ∧ Below w.heap.size w w' := by
 have hu24 := Try.underlying24
 have HB := am (Below.refl w.heap.size w)
 have H : ((spec_l8None.f).bind fun u1 => (if (a0_0 == u1.1 && (a0_1 == u1.2)) = true then (some true) else ((spec_NumOk.f a0_0).bind fun t1 => (if t1 = true then ((spec_NumOk.f a0_1).bind fun t2 => (if t2 = true then (some (decide (a0_0 ≤ a0_1))) else (some false))) else (some false))))) = some r := h
 clear h
 obtain ⟨⟨t3, t4⟩, A1, H⟩ := bd H
 try dsimp only at H
 by_cases c1 : (a0_0 == t3 && (a0_1 == t4)) = true
 ·rw [if_pos c1] at H
  have d1 : (a0_0 == t3 && (a0_1 == t4)) = true := c1
  (try (have d2 : decide (a0_0 = t3 && (a0_1 == t4)) = true := by simpa using c1))
  (try (have d3 : (a0_0 == t3 && (a0_1 == t4)) = true := by simpa using c1))
  clear c1
  obtain rfl := Option.some.inj H
  go_enter Try.func24, Try.ntmps24
  try go_wp2_with (first | ((with_reducible refine gate_dst (N := 1) rfl ?_); refine bxn 1 #[.int .i64 a0_0, .int .i64 a0_1] 24 HB fun g1 w1 K1 G1 hg hb => ?_; replace HB := am (below_step (YA HB) hb); clear hb hg))
  obtain ⟨K1, HB⟩ := dk1 K1 HB
  refine start_ (n := 21) (S := fun w' => ce2 w' g1 a0_0 a0_1) (ds := []) (lb 21 0) (by kernel_rfl) rfl rfl (cc2 K1) (fun hHeld => ?_); refine with_tabW spec_RangeOk.tab1 spec_RangeOk.bits1 (fun HT_ HW_ => ?_)
  generalize w1.drew = w2 at K1 HB hHeld ⊢
  refine tk 0 3 1 hHeld ?_
  refine on 1 (some 4) 3 fun K hK => ?_
  refine ck hK Try.func38 (spec_l8None.calls _ _ _ A1.out) (fun _ b => bk1 K1 HB b) fun w3 Q_ hHeld => ?_
  clear hK K
  obtain ⟨K1, HB⟩ := Q_
  refine pk 2 5 7 ?_
  refine pk 3 6 15 ?_
  refine uk 4 7 31 ?_
  refine uk 5 8 63 ?_
  refine uk 6 9 127 ?_
  refine uk 7 10 255 ?_
  refine uk 8 11 511 ?_
  refine uk 9 12 1023 ?_
  refine uk 10 13 2047 ?_
  refine uk 11 14 4095 ?_
  refine uk 12 15 8191 ?_
  refine uk 13 16 16383 ?_
  refine uk 14 17 32767 ?_
  refine uk 15 18 65535 ?_
  refine uk 16 19 131071 ?_
  refine uk 17 20 262143 ?_
  refine uk 18 21 524287 ?_
  refine pk 19 22 1048575 ?_
  refine pk 20 2 2097151 ?_
  refine done_ (done_of HT_.out (by kernel_rfl)) ?_
  try go_wp2
  go_ret
  exact ⟨ez, YA HB⟩
 rw [if_neg c1] at H
 have d1 : (a0_0 == t3 && (a0_1 == t4)) = false := by simpa using c1
 (try (have d2 : decide (a0_0 = t3 && (a0_1 == t4)) = false := by simpa using c1))
 (try (have d3 : (a0_0 == t3 && (a0_1 == t4)) = false := by simpa using c1))
 (try (have d4 : ¬ (a0_0 = t3 && (a0_1 == t4)) := by simpa using c1))
 clear c1
 obtain ⟨t1, A2, H⟩ := bd H
 try dsimp only at H
 by_cases c2 : t1 = true
 rotate_left
 ·replace c2 := Bool.eq_false_iff.mpr c2
  subst c2
  rw [if_neg ff] at H
  obtain rfl := Option.some.inj H
  go_enter Try.func24, Try.ntmps24
  try go_wp2_with (first | ((with_reducible refine gate_dst (N := 1) rfl ?_); refine bxn 1 #[.int .i64 a0_0, .int .i64 a0_1] 24 HB fun g1 w1 K1 G1 hg hb => ?_; replace HB := am (below_step (YA HB) hb); clear hb hg))
  obtain ⟨K1, HB⟩ := dk1 K1 HB
  refine start_ (n := 21) (S := fun w' => ce2 w' g1 a0_0 a0_1) (ds := []) (lb 21 0) (by kernel_rfl) rfl rfl (cc2 K1) (fun hHeld => ?_); refine with_tabW spec_RangeOk.tab1 spec_RangeOk.bits1 (fun HT_ HW_ => ?_)
  generalize w1.drew = w2 at K1 HB hHeld ⊢
  refine tk 0 3 1 hHeld ?_
  refine on 1 (some 4) 3 fun K hK => ?_
  refine ck hK Try.func38 (spec_l8None.calls _ _ _ A1.out) (fun _ b => bk1 K1 HB b) fun w3 Q_ hHeld => ?_
  clear hK K
  obtain ⟨K1, HB⟩ := Q_
  refine pk 2 5 7 ?_
  refine pk 3 6 15 ?_
  refine pk 4 7 31 ?_
  refine tk 5 8 63 hHeld ?_
  refine on 6 (some 9) 127 fun K hK => ?_
  refine goes_ Try.func19 (by kernel_rfl) rfl #[.int .i64 a0_0] (by rfl) rfl rfl mz ?_
  with_reducible refine (spec_NumOk.calls _ _ _ A2.out).mono ?_
  rintro e w' ⟨rfl, ⟨nd, rfl⟩⟩
  refine ⟨_, rfl, ?_⟩
  refine kk hK (cc2 K1) fun hHeld => ?_
  clear hK K
  refine pk 7 10 255 ?_
  refine uk 8 11 511 ?_
  refine uk 9 12 1023 ?_
  refine uk 10 13 2047 ?_
  refine pk 11 14 4095 ?_
  refine pk 12 15 8191 ?_
  refine uk 13 16 16383 ?_
  refine uk 14 17 32767 ?_
  refine uk 15 18 65535 ?_
  refine uk 16 19 131071 ?_
  refine uk 17 20 262143 ?_
  refine pk 18 21 524287 ?_
  refine pk 19 22 1048575 ?_
  refine pk 20 2 2097151 ?_
  refine done_ (done_of HT_.out (by kernel_rfl)) ?_
  try go_wp2
  go_ret
  exact ⟨ez, YA HB⟩
 subst c2
 rw [if_pos rfl] at H
 obtain ⟨t2, A3, H⟩ := bd H
 try dsimp only at H
 by_cases c3 : t2 = true
 rotate_left
 ·replace c3 := Bool.eq_false_iff.mpr c3
  subst c3
  rw [if_neg ff] at H
  obtain rfl := Option.some.inj H
  go_enter Try.func24, Try.ntmps24
  try go_wp2_with (first | ((with_reducible refine gate_dst (N := 1) rfl ?_); refine bxn 1 #[.int .i64 a0_0, .int .i64 a0_1] 24 HB fun g1 w1 K1 G1 hg hb => ?_; replace HB := am (below_step (YA HB) hb); clear hb hg))
  obtain ⟨K1, HB⟩ := dk1 K1 HB
  refine start_ (n := 21) (S := fun w' => ce2 w' g1 a0_0 a0_1) (ds := []) (lb 21 0) (by kernel_rfl) rfl rfl (cc2 K1) (fun hHeld => ?_); refine with_tabW spec_RangeOk.tab1 spec_RangeOk.bits1 (fun HT_ HW_ => ?_)
  generalize w1.drew = w2 at K1 HB hHeld ⊢
  refine tk 0 3 1 hHeld ?_
  refine on 1 (some 4) 3 fun K hK => ?_
  refine ck hK Try.func38 (spec_l8None.calls _ _ _ A1.out) (fun _ b => bk1 K1 HB b) fun w3 Q_ hHeld => ?_
  clear hK K
  obtain ⟨K1, HB⟩ := Q_
  refine pk 2 5 7 ?_
  refine pk 3 6 15 ?_
  refine pk 4 7 31 ?_
  refine tk 5 8 63 hHeld ?_
  refine on 6 (some 9) 127 fun K hK => ?_
  refine goes_ Try.func19 (by kernel_rfl) rfl #[.int .i64 a0_0] (by rfl) rfl rfl mz ?_
  with_reducible refine (spec_NumOk.calls _ _ _ A2.out).mono ?_
  rintro e w' ⟨rfl, ⟨nd, rfl⟩⟩
  refine ⟨_, rfl, ?_⟩
  refine kk hK (cc2 K1) fun hHeld => ?_
  clear hK K
  refine pk 7 10 255 ?_
  refine pk 8 11 511 ?_
  refine tk 9 12 1023 hHeld ?_
  refine on 10 (some 13) 2047 fun K hK => ?_
  refine goes_ Try.func19 (by kernel_rfl) rfl #[.int .i64 a0_1] (by rfl) rfl rfl mz ?_
  with_reducible refine (spec_NumOk.calls _ _ _ A3.out).mono ?_
  rintro e w' ⟨rfl, ⟨nd, rfl⟩⟩
  refine ⟨_, rfl, ?_⟩
  refine kk hK (cc2 K1) fun hHeld => ?_
  clear hK K
  refine pk 11 14 4095 ?_
  refine pk 12 15 8191 ?_
  refine uk 13 16 16383 ?_
  refine uk 14 17 32767 ?_
  refine uk 15 18 65535 ?_
  refine uk 16 19 131071 ?_
  refine uk 17 20 262143 ?_
  refine pk 18 21 524287 ?_
  refine pk 19 22 1048575 ?_
  refine pk 20 2 2097151 ?_
  refine done_ (done_of HT_.out (by kernel_rfl)) ?_
  try go_wp2
  go_ret
  exact ⟨ez, YA HB⟩
 subst c3
 rw [if_pos rfl] at H
 obtain rfl := Option.some.inj H
 go_enter Try.func24, Try.ntmps24
 try go_wp2_with (first | ((with_reducible refine gate_dst (N := 1) rfl ?_); refine bxn 1 #[.int .i64 a0_0, .int .i64 a0_1] 24 HB fun g1 w1 K1 G1 hg hb => ?_; replace HB := am (below_step (YA HB) hb); clear hb hg))
 obtain ⟨K1, HB⟩ := dk1 K1 HB
 refine start_ (n := 21) (S := fun w' => ce2 w' g1 a0_0 a0_1) (ds := []) (lb 21 0) (by kernel_rfl) rfl rfl (cc2 K1) (fun hHeld => ?_); refine with_tabW spec_RangeOk.tab1 spec_RangeOk.bits1 (fun HT_ HW_ => ?_)
 generalize w1.drew = w2 at K1 HB hHeld ⊢
 refine tk 0 3 1 hHeld ?_
 refine on 1 (some 4) 3 fun K hK => ?_
 refine ck hK Try.func38 (spec_l8None.calls _ _ _ A1.out) (fun _ b => bk1 K1 HB b) fun w3 Q_ hHeld => ?_
 clear hK K
 obtain ⟨K1, HB⟩ := Q_
 refine pk 2 5 7 ?_
 refine pk 3 6 15 ?_
 refine pk 4 7 31 ?_
 refine tk 5 8 63 hHeld ?_
 refine on 6 (some 9) 127 fun K hK => ?_
 refine goes_ Try.func19 (by kernel_rfl) rfl #[.int .i64 a0_0] (by rfl) rfl rfl mz ?_
 with_reducible refine (spec_NumOk.calls _ _ _ A2.out).mono ?_
 rintro e w' ⟨rfl, ⟨nd, rfl⟩⟩
 refine ⟨_, rfl, ?_⟩
 refine kk hK (cc2 K1) fun hHeld => ?_
 clear hK K
 refine pk 7 10 255 ?_
 refine pk 8 11 511 ?_
 refine tk 9 12 1023 hHeld ?_
 refine on 10 (some 13) 2047 fun K hK => ?_
 refine goes_ Try.func19 (by kernel_rfl) rfl #[.int .i64 a0_1] (by rfl) rfl rfl mz ?_
 with_reducible refine (spec_NumOk.calls _ _ _ A3.out).mono ?_
 rintro e w' ⟨rfl, ⟨nd, rfl⟩⟩
 refine ⟨_, rfl, ?_⟩
 refine kk hK (cc2 K1) fun hHeld => ?_
 clear hK K
 refine pk 11 14 4095 ?_
 refine pk 12 15 8191 ?_
 refine pk 13 16 16383 ?_
 refine pk 15 18 49151 ?_
 refine tk 14 17 65535 hHeld ?_
 refine tk 16 19 131071 hHeld ?_
 refine pk 17 20 262143 ?_
 refine pk 18 21 524287 ?_
 refine pk 19 22 1048575 ?_
 refine pk 20 2 2097151 ?_
 refine done_ (done_of HT_.out (by kernel_rfl)) ?_
 try go_wp2
 go_ret
 exact ⟨ez, YA HB⟩

def spec_RangeHas.f (a0_0 : Int) (a0_1 : Int) (a1 : Int) : Option (Bool) := (spec_RangeOk.f a0_0 a0_1).bind fun t1 => (if t1 = true then ((spec_l1In.f a1 a0_0 a0_1).bind fun t2 => (some t2)) else (some false))
set_option maxHeartbeats 8000000 in
set_option maxRecDepth 100000 in
theorem spec_RangeHas.calls (a0_0 : Int) (a0_1 : Int) (a1 : Int) (r : Bool) (w : World) (h : spec_RangeHas.f a0_0 a0_1 a1 = some r) :
  Calls Try.prog 22 #[.agg #[.int .i64 a0_0, .int .i64 a0_1], .int .i64 a1] w fun e w' => e = .returned (.bool r) ∧ Below w.heap.size w w' := by
 have hu24 := Try.underlying24
 have HB := am (Below.refl w.heap.size w)
 have H : ((spec_RangeOk.f a0_0 a0_1).bind fun t1 => (if t1 = true then ((spec_l1In.f a1 a0_0 a0_1).bind fun t2 => (some t2)) else (some false))) = some r := h
 clear h
 obtain ⟨t1, A1, H⟩ := bd H
 try dsimp only at H
 by_cases c1 : t1 = true
 rotate_left
 ·replace c1 := Bool.eq_false_iff.mpr c1
  subst c1
  rw [if_neg ff] at H
  obtain rfl := Option.some.inj H
  go_enter Try.func22, Try.ntmps22
  go_wp2_with (first | ((with_reducible refine gate_dst (N := 2) rfl ?_); refine bxn 2 #[.int .i64 a0_0, .int .i64 a0_1] 24 HB fun g1 w1 K1 G1 hg hb => ?_; replace HB := am (below_step (YA HB) hb); clear hb hg; have z_ := cB2 K1) | ((with_reducible refine gate_callee (f := 24) rfl ?_); refine gL 6 Try.func24 (spec_RangeOk.calls _ _ _ _ A1.out) fun w2 hb => ?_; obtain ⟨K1, HB⟩ := bk1 K1 HB hb; (try clear hb)))
  go_ret
  exact ⟨ez, YA HB⟩
 subst c1
 rw [if_pos rfl] at H
 obtain ⟨t2, A2, H⟩ := bd H
 try dsimp only at H
 obtain rfl := Option.some.inj H
 go_enter Try.func22, Try.ntmps22
 go_wp2_with (first | ((with_reducible refine gate_dst (N := 2) rfl ?_); refine bxn 2 #[.int .i64 a0_0, .int .i64 a0_1] 24 HB fun g1 w1 K1 G1 hg hb => ?_; replace HB := am (below_step (YA HB) hb); clear hb hg; have z_ := cB2 K1) | ((with_reducible refine gate_callee (f := 24) rfl ?_); refine gL 6 Try.func24 (spec_RangeOk.calls _ _ _ _ A1.out) fun w2 hb => ?_; obtain ⟨K1, HB⟩ := bk1 K1 HB hb; (try clear hb); have z_ := cB2 K1) | (go_at_call 37; (with_reducible refine (spec_l1In.calls _ _ _ _ _ A2.out).mono ?_); rintro e w' ⟨rfl, ⟨nd, rfl⟩⟩))
 go_ret
 exact ⟨ez, YA HB⟩

def spec_l8Min.f (a0 : Int) (a1 : Int) : Option (Int) := if a0 < a1 then (some a0) else (some a1)
set_option maxHeartbeats 8000000 in
set_option maxRecDepth 100000 in
theorem spec_l8Min.calls (a0 : Int) (a1 : Int) (r : Int) (w : World) (h : spec_l8Min.f a0 a1 = some r) :
  Calls Try.prog 68 #[.int .i64 a0, .int .i64 a1] w fun e w' => e = .returned (.int .i64 r) ∧ Drawn0 w w' := by
 have H : (if a0 < a1 then (some a0) else (some a1)) = some r := h
 clear h
 by_cases c1 : a0 < a1
 ·rw [if_pos c1] at H
  have d1 := dT c1
  clear c1
  obtain rfl := Option.some.inj H
  go_enter Try.func68, Try.ntmps68
  go_wp2
  go_ret
  exact ⟨by first | rfl | (simp; done) | (simp [*]; done), by repeat (first | exact Drawn0.refl _ | apply Drawn0.step)⟩
 rw [if_neg c1] at H
 have d1 := dF c1
 clear c1
 obtain rfl := Option.some.inj H
 go_enter Try.func68, Try.ntmps68
 go_wp2
 go_ret
 exact ⟨by first | rfl | (simp; done) | (simp [*]; done), by repeat (first | exact Drawn0.refl _ | apply Drawn0.step)⟩

def spec_l8Max.f (a0 : Int) (a1 : Int) : Option (Int) := if a0 > a1 then (some a0) else (some a1)
set_option maxHeartbeats 8000000 in
set_option maxRecDepth 100000 in
theorem spec_l8Max.calls (a0 : Int) (a1 : Int) (r : Int) (w : World) (h : spec_l8Max.f a0 a1 = some r) :
  Calls Try.prog 69 #[.int .i64 a0, .int .i64 a1] w fun e w' => e = .returned (.int .i64 r) ∧ Drawn0 w w' := by
 have H : (if a0 > a1 then (some a0) else (some a1)) = some r := h
 clear h
 by_cases c1 : a0 > a1
 ·rw [if_pos c1] at H
  have d1 := dT c1
  clear c1
  obtain rfl := Option.some.inj H
  go_enter Try.func69, Try.ntmps69
  go_wp2
  go_ret
  exact ⟨by first | rfl | (simp; done) | (simp [*]; done), by repeat (first | exact Drawn0.refl _ | apply Drawn0.step)⟩
 rw [if_neg c1] at H
 have d1 := dF c1
 clear c1
 obtain rfl := Option.some.inj H
 go_enter Try.func69, Try.ntmps69
 go_wp2
 go_ret
 exact ⟨by first | rfl | (simp; done) | (simp [*]; done), by repeat (first | exact Drawn0.refl _ | apply Drawn0.step)⟩
end
section
attribute [local go_sem] max2_int min2_int max_two min_two max_three min_three max_four min_four
attribute [local go_sem high] eqA24
attribute [local go_sem] Go.Proofs.YthbkakcchgnhpaaSet.isSome_setCell
def spec_RangeJoin.j0 : Nat → Bool → Int → Int → Int → Int → Option (Int × Int)
 | 0, _, _, _, _, _ => none
 | k + 1, x1, x2, x3, x4, x5 => if x1 = true then ((spec_l8None.f).bind fun u1 => (some (u1.1, u1.2))) else ((spec_l8None.f).bind fun u2 => (if (x2 == u2.1 && (x3 == u2.2)) = true then (some (x4, x5)) else ((spec_l8None.f).bind fun u3 => (if (x4 == u3.1 && (x5 == u3.2)) = true then (some (x2, x3)) else ((spec_l8Min.f x2 x4).bind fun t1 => ((spec_l8Max.f x3 x5).bind fun t2 => (some (t1, t2))))))))
def spec_RangeJoin.f (k : Nat) (a0_0 : Int) (a0_1 : Int) (a1_0 : Int) (a1_1 : Int) : Option (Int × Int) := (spec_RangeOk.f a0_0 a0_1).bind fun t1 => (if t1 = true then ((spec_RangeOk.f a1_0 a1_1).bind fun t2 => (spec_RangeJoin.j0 k (!t2) a0_0 a0_1 a1_0 a1_1)) else (spec_RangeJoin.j0 k true a0_0 a0_1 a1_0 a1_1))
theorem spec_RangeJoin.mono_l : ∀ k, (∀ y0 y1 y2 y3 y4, LeO (spec_RangeJoin.j0 k y0 y1 y2 y3 y4) (spec_RangeJoin.j0 (k + 1) y0 y1 y2 y3 y4))
 | 0 => fun _ _ _ _ _ r h => by simp [spec_RangeJoin.j0] at h
 | k + 1 => by
  have ih0 := spec_RangeJoin.mono_l k
  ·intro y0 y1 y2 y3 y4
   unfold spec_RangeJoin.j0
   repeat' first | (with_reducible first | apply ih0 | apply LeO.refl | apply LeO.none | refine LeO.ite ?_ ?_ | refine LeO.bind ?_ (fun _ => ?_)) | apply ih0 | apply LeO.none | refine LeO.ite ?_ ?_ | refine LeO.bind ?_ (fun _ => ?_)
theorem spec_RangeJoin.mono : ∀ a0 a1 a2 a3 k, LeO (spec_RangeJoin.f k a0 a1 a2 a3) (spec_RangeJoin.f (k + 1) a0 a1 a2 a3) := by
 intro a0 a1 a2 a3 k
 have ih0 := spec_RangeJoin.mono_l k
 unfold spec_RangeJoin.f
 repeat' first | (with_reducible first | apply ih0 | apply LeO.refl | apply LeO.none | refine LeO.ite ?_ ?_ | refine LeO.bind ?_ (fun _ => ?_)) | apply ih0 | apply LeO.none | refine LeO.ite ?_ ?_ | refine LeO.bind ?_ (fun _ => ?_)
def spec_RangeJoin.T7 : Bool × List (List Nat × List Nat) := (true, [([], []), ([0], [0]), ([], []), ([2], [2]), ([1, 3], [1, 3]), ([], []), ([5], [5]), ([], []), ([7], [7]), ([6, 8, 4], [6, 8]), ([4, 9], [4, 9]), ([10, 9, 0, 1, 2, 3, 4, 5, 6, 7, 8, 9, 10], [10])])
def spec_RangeJoin.B7 : List Nat := [0, 1, 0, 4, 15, 0, 32, 0, 128, 511, 1023, 2047]
theorem spec_RangeJoin.tab7 : rtab .any (opsOf Try.f25 7) = spec_RangeJoin.T7 := by kernel_rfl
theorem spec_RangeJoin.bits7 : waitsOk spec_RangeJoin.T7.2 spec_RangeJoin.B7 = true := by kernel_rfl
set_option maxHeartbeats 8000000 in
set_option maxRecDepth 100000 in
theorem spec_RangeJoin.calls (k : Nat) (a0_0 : Int) (a0_1 : Int) (a1_0 : Int) (a1_1 : Int) (r1 : Int) (r2 : Int) (w : World) (h : spec_RangeJoin.f k a0_0 a0_1 a1_0 a1_1 = some (r1, r2)) :
  Calls Try.prog 25 #[.agg #[.int .i64 a0_0, .int .i64 a0_1], .agg #[.int .i64 a1_0, .int .i64 a1_1]] w fun e w' => e = .returned (.agg #[.int .i64 r1, .int .i64 r2]) ∧ Below w.heap.size w w' := by
 have hu24 := Try.underlying24
 have HB := am (Below.refl w.heap.size w)
 have H : ((spec_RangeOk.f a0_0 a0_1).bind fun t1 => (if t1 = true then ((spec_RangeOk.f a1_0 a1_1).bind fun t2 => (spec_RangeJoin.j0 k (!t2) a0_0 a0_1 a1_0 a1_1)) else (spec_RangeJoin.j0 k true a0_0 a0_1 a1_0 a1_1))) = some (r1, r2) := h
 clear h
 have C1 := am H
 clear H
 go_enter Try.func25, Try.ntmps25
 go_upto_region 1 with (first | ((with_reducible refine gate_dst (N := 2) rfl ?_); refine bxn 2 #[.int .i64 a0_0, .int .i64 a0_1] 24 HB fun g1 w2 K1 G1 hg hb => ?_; replace HB := am (below_step (YA HB) hb); clear hb hg) | ((with_reducible refine gate_dst (N := 3) rfl ?_); refine bxn 3 #[.int .i64 a1_0, .int .i64 a1_1] 24 HB fun g2 w3 K2 G2 hg hb => ?_; obtain ⟨N1,N2⟩ := ne_ hg K1; obtain ⟨K1, HB⟩ := bk1 K1 HB hb; clear hb hg) | ((with_reducible refine gate_dst (N := 4) rfl ?_); refine bxn 4 #[.int .i64 0, .int .i64 0] 24 HB fun g3 w4 K3 G3 hg hb => ?_; obtain ⟨N3,N4⟩ := ne_ hg K1; obtain ⟨N5,N6⟩ := ne_ hg K2; obtain ⟨K1, K2, HB⟩ := bk2 K1 K2 HB hb; clear hb hg))
 (try simp only [Act.put, List.setIfInBounds_toArray, List.set_cons_zero, List.set_cons_succ])
 go_cut [12] (fun v1 wc => ∃ (kq : Nat) (x1 : Bool), v1 = .bool x1 ∧ Aside0 (spec_RangeJoin.j0 kq x1 a0_0 a0_1 a1_0 a1_1 = some (r1, r2)) ∧ Aside0 (kq ≤ k) ∧ Bx2 wc g1 a0_0 a0_1 24 ∧ Bx2 wc g2 a1_0 a1_1 24 ∧ Bx2 wc g3 0 0 24 ∧ Aside0 (Below w.heap.size w wc))
 case first =>
  have H := C1.out
  clear C1
  obtain ⟨t1, A1, H⟩ := bd H
  try dsimp only at H
  by_cases c1 : t1 = true
  rotate_left
  ·replace c1 := Bool.eq_false_iff.mpr c1
   subst c1
   rw [if_neg ff] at H
   have H' := am H
   clear H
   have z_ := ns2 N1 N3
   have z_ := cB2 K1
   go_wp2_with (first | ((with_reducible refine gate_callee (f := 24) rfl ?_); refine gL 6 Try.func24 (spec_RangeOk.calls _ _ _ _ A1.out) fun w5 hb => ?_; obtain ⟨K1, K2, K3, HB⟩ := bk3 K1 K2 K3 HB hb; (try clear hb)))
   go_meet
   case rel => exact ⟨_, (true), ey, H', le0, ⟨Z K1⟩, ⟨Z K2⟩, ⟨Z K3⟩, ⟨YA HB⟩⟩
  subst c1
  rw [if_pos rfl] at H
  obtain ⟨t2, A2, H⟩ := bd H
  try dsimp only at H
  have H' := am H
  clear H
  have z_ := ns2 N1 N3
  have z_ := cB2 K1
  go_wp2_with (first | ((with_reducible refine gate_callee (f := 24) rfl ?_); refine gL 6 Try.func24 (spec_RangeOk.calls _ _ _ _ A1.out) fun w5 hb => ?_; obtain ⟨K1, K2, K3, HB⟩ := bk3 K1 K2 K3 HB hb; (try clear hb); have z_ := ns1 N5; have z_ := cB2 K2) | (go_at_call 24; (with_reducible refine (spec_RangeOk.calls _ _ _ _ A2.out).mono ?_); rintro e w6 ⟨rfl, hb⟩; obtain ⟨K1, K2, K3, HB⟩ := bk3 K1 K2 K3 HB hb; (try clear hb)))
  go_meet
  case rel => exact ⟨_, (!t2), ey, H', le0, ⟨Z K1⟩, ⟨Z K2⟩, ⟨Z K3⟩, ⟨YA HB⟩⟩
 case rest =>
  clear C1
  obtain ⟨kq, x1, rfl, HA, J1, K1, K2, K3, HB⟩ := hcut
  cases kq with
  | zero => exact absurd HA.out (by simp [spec_RangeJoin.j0])
  | succ k1 =>
   have H := HA.out
   clear HA
   simp only [spec_RangeJoin.j0] at H
   by_cases c1 : x1 = true
   ·subst c1
    rw [if_pos rfl] at H
    obtain ⟨⟨t3, t4⟩, A1, H⟩ := bd H
    try dsimp only at H
    simp only [Option.some.injEq, Prod.mk.injEq] at H
    obtain ⟨rfl, rfl⟩ := H
    go_wp2_with (first | ((with_reducible refine gate_callee (f := 38) rfl ?_); refine gL 13 Try.func38 (spec_l8None.calls _ _ _ A1.out) fun w5 hb => ?_; obtain ⟨K1, K2, K3, HB⟩ := bk3 K1 K2 K3 HB hb; (try clear hb); have z_ := ns2 N4 N6; have z_ := cB2 K3))
    refine bodyPost_ret (results_cell_row rfl _ _ g3 24 #[.int .i64 t3, .int .i64 t4] (0, 0) _ rfl (by refine pf ?_; refine blk_put (cs := #[.int .i64 t3, .int .i64 0]) ?_ 1 _ rfl; refine pf ?_; refine blk_put (cs := #[.int .i64 0, .int .i64 0]) ?_ 0 _ rfl; exact Z K3) Try.underlying24 rfl (by kernel_rfl)) rfl ?_
    exact ⟨ez, YA HB⟩
   replace c1 := Bool.eq_false_iff.mpr c1
   subst c1
   rw [if_neg ff] at H
   obtain ⟨⟨t3, t4⟩, A1, H⟩ := bd H
   try dsimp only at H
   by_cases c2 : (a0_0 == t3 && (a0_1 == t4)) = true
   ·rw [if_pos c2] at H
    have d1 : (a0_0 == t3 && (a0_1 == t4)) = true := c2
    (try (have d2 : decide (a0_0 = t3 && (a0_1 == t4)) = true := by simpa using c2))
    (try (have d3 : (a0_0 == t3 && (a0_1 == t4)) = true := by simpa using c2))
    clear c2
    simp only [Option.some.injEq, Prod.mk.injEq] at H
    obtain ⟨rfl, rfl⟩ := H
    try go_wp2
    obtain ⟨K1, K2, K3, HB⟩ := dk3 K1 K2 K3 HB
    refine start_ (n := 3) (S := fun w' => w'.cell? ⟨g1, 0, none⟩ = some (.int .i64 a0_0) ∧ w'.cell? ⟨g1, 1, none⟩ = some (.int .i64 a0_1)) (ds := []) (lb 3 0) (by kernel_rfl) rfl rfl ⟨bc K1 0, bc K1 1⟩ (fun hHeld => ?_)
    generalize wc.drew = w5 at K1 K2 K3 HB hHeld ⊢
    refine take_ (i := 0) (N := some 14) (v := ?_) (a' := ?_) (lb 3 1) rfl rfl (by kernel_rfl) (fun _ _ _ h => h) (Or.inl ⟨by rfl, ?_⟩) hHeld ?_ ?_
    rotate_left
    ·rintro w' ⟨s0, s1⟩
     go_simp
     with_reducible rfl
    rotate_left
    ·exact pz
    refine one_ (i := 1) (N := some 15) (lb 3 3) rfl rfl (by kernel_rfl) (by decide) (fun K hK => ?_)
    refine ck hK Try.func38 (spec_l8None.calls _ _ _ A1.out) (fun _ b => bk3 K1 K2 K3 HB b) fun w6 Q_ hHeld => ?_
    clear hK K
    obtain ⟨K1, K2, K3, HB⟩ := Q_
    refine pure_ (i := 2) (N := some 16) (v := ?_) (a' := ?_) (lb 3 7) rfl rfl (by kernel_rfl) (fun _ _ _ h => h) (Or.inl ⟨by rfl, ?_⟩) ?_ ?_
    rotate_left
    ·exact gz
    rotate_left
    ·exact pz
    refine done_ (by kernel_rfl) ?_
    have z_ := ns3 N2 N5 N4
    have z_ := cB2 K2
    have z_ := cB2 K3
    try go_wp2
    refine bodyPost_ret (results_cell_row rfl _ _ g3 24 #[.int .i64 a1_0, .int .i64 a1_1] (0, 0) _ rfl (by refine pf ?_; refine blk_put (cs := #[.int .i64 a1_0, .int .i64 0]) ?_ 1 _ rfl; refine pf ?_; refine blk_put (cs := #[.int .i64 0, .int .i64 0]) ?_ 0 _ rfl; exact Z K3) Try.underlying24 rfl (by kernel_rfl)) rfl ?_
    exact ⟨ez, YA HB⟩
   rw [if_neg c2] at H
   have d1 : (a0_0 == t3 && (a0_1 == t4)) = false := by simpa using c2
   (try (have d2 : decide (a0_0 = t3 && (a0_1 == t4)) = false := by simpa using c2))
   (try (have d3 : (a0_0 == t3 && (a0_1 == t4)) = false := by simpa using c2))
   (try (have d4 : ¬ (a0_0 = t3 && (a0_1 == t4)) := by simpa using c2))
   clear c2
   obtain ⟨⟨t5, t6⟩, A2, H⟩ := bd H
   try dsimp only at H
   by_cases c3 : (a1_0 == t5 && (a1_1 == t6)) = true
   ·rw [if_pos c3] at H
    have d5 : (a1_0 == t5 && (a1_1 == t6)) = true := c3
    (try (have d6 : decide (a1_0 = t5 && (a1_1 == t6)) = true := by simpa using c3))
    (try (have d7 : (a1_0 == t5 && (a1_1 == t6)) = true := by simpa using c3))
    clear c3
    simp only [Option.some.injEq, Prod.mk.injEq] at H
    obtain ⟨rfl, rfl⟩ := H
    try go_wp2
    obtain ⟨K1, K2, K3, HB⟩ := dk3 K1 K2 K3 HB
    refine start_ (n := 3) (S := fun w' => w'.cell? ⟨g1, 0, none⟩ = some (.int .i64 a0_0) ∧ w'.cell? ⟨g1, 1, none⟩ = some (.int .i64 a0_1)) (ds := []) (lb 3 0) (by kernel_rfl) rfl rfl ⟨bc K1 0, bc K1 1⟩ (fun hHeld => ?_)
    generalize wc.drew = w5 at K1 K2 K3 HB hHeld ⊢
    refine take_ (i := 0) (N := some 14) (v := ?_) (a' := ?_) (lb 3 1) rfl rfl (by kernel_rfl) (fun _ _ _ h => h) (Or.inl ⟨by rfl, ?_⟩) hHeld ?_ ?_
    rotate_left
    ·rintro w' ⟨s0, s1⟩
     go_simp
     with_reducible rfl
    rotate_left
    ·exact pz
    refine one_ (i := 1) (N := some 15) (lb 3 3) rfl rfl (by kernel_rfl) (by decide) (fun K hK => ?_)
    refine ck hK Try.func38 (spec_l8None.calls _ _ _ A1.out) (fun _ b => bk3 K1 K2 K3 HB b) fun w6 Q_ hHeld => ?_
    clear hK K
    obtain ⟨K1, K2, K3, HB⟩ := Q_
    refine pure_ (i := 2) (N := some 16) (v := ?_) (a' := ?_) (lb 3 7) rfl rfl (by kernel_rfl) (fun _ _ _ h => h) (Or.inl ⟨by rfl, ?_⟩) ?_ ?_
    rotate_left
    ·exact gz
    rotate_left
    ·exact pz
    refine done_ (by kernel_rfl) ?_
    try go_wp2
    obtain ⟨K1, K2, K3, HB⟩ := dk3 K1 K2 K3 HB
    refine start_ (n := 3) (S := fun w' => w'.cell? ⟨g2, 0, none⟩ = some (.int .i64 a1_0) ∧ w'.cell? ⟨g2, 1, none⟩ = some (.int .i64 a1_1)) (ds := []) (lb 3 0) (by kernel_rfl) rfl rfl ⟨bc K2 0, bc K2 1⟩ (fun hHeld => ?_)
    generalize w6.drew = w7 at K1 K2 K3 HB hHeld ⊢
    refine take_ (i := 0) (N := some 18) (v := ?_) (a' := ?_) (lb 3 1) rfl rfl (by kernel_rfl) (fun _ _ _ h => h) (Or.inl ⟨by rfl, ?_⟩) hHeld ?_ ?_
    rotate_left
    ·rintro w' ⟨s0, s1⟩
     go_simp
     with_reducible rfl
    rotate_left
    ·exact pz
    refine one_ (i := 1) (N := some 19) (lb 3 3) rfl rfl (by kernel_rfl) (by decide) (fun K hK => ?_)
    refine ck hK Try.func38 (spec_l8None.calls _ _ _ A2.out) (fun _ b => bk3 K1 K2 K3 HB b) fun w8 Q_ hHeld => ?_
    clear hK K
    obtain ⟨K1, K2, K3, HB⟩ := Q_
    refine pure_ (i := 2) (N := some 20) (v := ?_) (a' := ?_) (lb 3 7) rfl rfl (by kernel_rfl) (fun _ _ _ h => h) (Or.inl ⟨by rfl, ?_⟩) ?_ ?_
    rotate_left
    ·exact gz
    rotate_left
    ·exact pz
    refine done_ (by kernel_rfl) ?_
    have z_ := ns3 N1 N3 N6
    have z_ := cB2 K1
    have z_ := cB2 K3
    try go_wp2
    refine bodyPost_ret (results_cell_row rfl _ _ g3 24 #[.int .i64 a0_0, .int .i64 a0_1] (0, 0) _ rfl (by refine pf ?_; refine blk_put (cs := #[.int .i64 a0_0, .int .i64 0]) ?_ 1 _ rfl; refine pf ?_; refine blk_put (cs := #[.int .i64 0, .int .i64 0]) ?_ 0 _ rfl; exact Z K3) Try.underlying24 rfl (by kernel_rfl)) rfl ?_
    exact ⟨ez, YA HB⟩
   rw [if_neg c3] at H
   have d5 : (a1_0 == t5 && (a1_1 == t6)) = false := by simpa using c3
   (try (have d6 : decide (a1_0 = t5 && (a1_1 == t6)) = false := by simpa using c3))
   (try (have d7 : (a1_0 == t5 && (a1_1 == t6)) = false := by simpa using c3))
   (try (have d8 : ¬ (a1_0 = t5 && (a1_1 == t6)) := by simpa using c3))
   clear c3
   obtain ⟨t7, A3, H⟩ := bd H
   try dsimp only at H
   obtain ⟨t8, A4, H⟩ := bd H
   try dsimp only at H
   simp only [Option.some.injEq, Prod.mk.injEq] at H
   obtain ⟨rfl, rfl⟩ := H
   try go_wp2
   obtain ⟨K1, K2, K3, HB⟩ := dk3 K1 K2 K3 HB
   refine start_ (n := 3) (S := fun w' => w'.cell? ⟨g1, 0, none⟩ = some (.int .i64 a0_0) ∧ w'.cell? ⟨g1, 1, none⟩ = some (.int .i64 a0_1)) (ds := []) (lb 3 0) (by kernel_rfl) rfl rfl ⟨bc K1 0, bc K1 1⟩ (fun hHeld => ?_)
   generalize wc.drew = w5 at K1 K2 K3 HB hHeld ⊢
   refine take_ (i := 0) (N := some 14) (v := ?_) (a' := ?_) (lb 3 1) rfl rfl (by kernel_rfl) (fun _ _ _ h => h) (Or.inl ⟨by rfl, ?_⟩) hHeld ?_ ?_
   rotate_left
   ·rintro w' ⟨s0, s1⟩
    go_simp
    with_reducible rfl
   rotate_left
   ·exact pz
   refine one_ (i := 1) (N := some 15) (lb 3 3) rfl rfl (by kernel_rfl) (by decide) (fun K hK => ?_)
   refine ck hK Try.func38 (spec_l8None.calls _ _ _ A1.out) (fun _ b => bk3 K1 K2 K3 HB b) fun w6 Q_ hHeld => ?_
   clear hK K
   obtain ⟨K1, K2, K3, HB⟩ := Q_
   refine pure_ (i := 2) (N := some 16) (v := ?_) (a' := ?_) (lb 3 7) rfl rfl (by kernel_rfl) (fun _ _ _ h => h) (Or.inl ⟨by rfl, ?_⟩) ?_ ?_
   rotate_left
   ·exact gz
   rotate_left
   ·exact pz
   refine done_ (by kernel_rfl) ?_
   try go_wp2
   obtain ⟨K1, K2, K3, HB⟩ := dk3 K1 K2 K3 HB
   refine start_ (n := 3) (S := fun w' => w'.cell? ⟨g2, 0, none⟩ = some (.int .i64 a1_0) ∧ w'.cell? ⟨g2, 1, none⟩ = some (.int .i64 a1_1)) (ds := []) (lb 3 0) (by kernel_rfl) rfl rfl ⟨bc K2 0, bc K2 1⟩ (fun hHeld => ?_)
   generalize w6.drew = w7 at K1 K2 K3 HB hHeld ⊢
   refine take_ (i := 0) (N := some 18) (v := ?_) (a' := ?_) (lb 3 1) rfl rfl (by kernel_rfl) (fun _ _ _ h => h) (Or.inl ⟨by rfl, ?_⟩) hHeld ?_ ?_
   rotate_left
   ·rintro w' ⟨s0, s1⟩
    go_simp
    with_reducible rfl
   rotate_left
   ·exact pz
   refine one_ (i := 1) (N := some 19) (lb 3 3) rfl rfl (by kernel_rfl) (by decide) (fun K hK => ?_)
   refine ck hK Try.func38 (spec_l8None.calls _ _ _ A2.out) (fun _ b => bk3 K1 K2 K3 HB b) fun w8 Q_ hHeld => ?_
   clear hK K
   obtain ⟨K1, K2, K3, HB⟩ := Q_
   refine pure_ (i := 2) (N := some 20) (v := ?_) (a' := ?_) (lb 3 7) rfl rfl (by kernel_rfl) (fun _ _ _ h => h) (Or.inl ⟨by rfl, ?_⟩) ?_ ?_
   rotate_left
   ·exact gz
   rotate_left
   ·exact pz
   refine done_ (by kernel_rfl) ?_
   try go_wp2
   obtain ⟨K1, K2, K3, HB⟩ := dk3 K1 K2 K3 HB
   refine start_ (n := 12) (S := fun w' => w'.cell? ⟨g1, 0, none⟩ = some (.int .i64 a0_0) ∧ w'.cell? ⟨g1, 1, none⟩ = some (.int .i64 a0_1) ∧ w'.cell? ⟨g2, 0, none⟩ = some (.int .i64 a1_0) ∧ w'.cell? ⟨g2, 1, none⟩ = some (.int .i64 a1_1)) (ds := []) (lb 12 0) (by kernel_rfl) rfl rfl ⟨bc K1 0, bc K1 1, bc K2 0, bc K2 1⟩ (fun hHeld => ?_); refine with_tabW spec_RangeJoin.tab7 spec_RangeJoin.bits7 (fun HT_ HW_ => ?_)
   generalize w8.drew = w9 at K1 K2 K3 HB hHeld ⊢
   refine pk 0 22 1 ?_
   refine pk 2 24 5 ?_
   refine pk 5 27 37 ?_
   refine pk 7 29 165 ?_
   refine tk 1 23 167 hHeld ?_
   refine tk 3 25 175 hHeld ?_
   refine tk 6 28 239 hHeld ?_
   refine tk 8 30 495 hHeld ?_
   refine on 4 (some 26) 511 fun K hK => ?_
   refine goes_ Try.func68 (by kernel_rfl) rfl #[.int .i64 a0_0, .int .i64 a1_0] (by rfl) rfl rfl mz ?_
   with_reducible refine (spec_l8Min.calls _ _ _ _ A3.out).mono ?_
   rintro e w' ⟨rfl, ⟨nd, rfl⟩⟩
   refine ⟨_, rfl, ?_⟩
   refine kk hK ⟨bc K1 0, bc K1 1, bc K2 0, bc K2 1⟩ fun hHeld => ?_
   clear hK K
   refine on 9 (some 31) 1023 fun K hK => ?_
   refine goes_ Try.func69 (by kernel_rfl) rfl #[.int .i64 a0_1, .int .i64 a1_1] (by rfl) rfl rfl mz ?_
   with_reducible refine (spec_l8Max.calls _ _ _ _ A4.out).mono ?_
   rintro e w' ⟨rfl, ⟨nd, rfl⟩⟩
   refine ⟨_, rfl, ?_⟩
   refine kk hK ⟨bc K1 0, bc K1 1, bc K2 0, bc K2 1⟩ fun hHeld => ?_
   clear hK K
   refine pk 10 32 2047 ?_
   refine on 11 none 4095 fun K hK => ?_
   have s2 : w9.cell? ⟨g3, 0, none⟩ = some (.int .i64 0) := bc K3 0
   have hfs54 := blk_frozen K3.out 0
   have z_ := ns4 N3 N5 N4 N6
   have s3 : w9.cell? ⟨g3, 1, none⟩ = some (.int .i64 0) := bc K3 1
   have hfs55 := blk_frozen K3.out 1
   have z_ := ns4 N3 N5 N4 N6
   refine skip_ (w1 := ?_) (by rfl) rfl ?_ ?_
   rotate_left
   ·go_simp
    rfl
   refine hK.out _ _ ⟨(cf N3 ((cf N3 (hHeld.1)))), (cf N3 ((cf N3 (hHeld.2.1)))), (cf N5 ((cf N5 (hHeld.2.2.1)))), (cf N5 ((cf N5 (hHeld.2.2.2))))⟩ (fun hHeld => ?_)
   clear hK K
   refine done_ (done_of HT_.out (by kernel_rfl)) ?_
   try go_wp2
   refine bodyPost_ret (results_cell_row rfl _ _ g3 24 #[.int .i64 t7, .int .i64 t8] (0, 0) _ rfl (by refine pf ?_; refine blk_put (cs := #[.int .i64 t7, .int .i64 0]) ?_ 1 _ rfl; refine pf ?_; refine blk_put (cs := #[.int .i64 0, .int .i64 0]) ?_ 0 _ rfl; exact Z K3) Try.underlying24 rfl (by kernel_rfl)) rfl ?_
   exact ⟨ez, YA HB⟩

def spec_l8Cut.f (a0 : Int) (a1 : Int) : Option (Int × Int) := (spec_l8Max.f a0 (-2147483648)).bind fun t1 => ((spec_l8Min.f a1 2147483647).bind fun t2 => (if t1 > t2 then ((spec_l8None.f).bind fun u1 => (some (u1.1, u1.2))) else (some (t1, t2))))
set_option maxHeartbeats 8000000 in
set_option maxRecDepth 100000 in
theorem spec_l8Cut.calls (a0 : Int) (a1 : Int) (r1 : Int) (r2 : Int) (w : World) (h : spec_l8Cut.f a0 a1 = some (r1, r2)) :
  Calls Try.prog 44 #[.int .i64 a0, .int .i64 a1] w fun e w' => e = .returned (.agg #[.int .i64 r1, .int .i64 r2]) ∧ Below w.heap.size w w' := by
 have hu24 := Try.underlying24
 have HB := am (Below.refl w.heap.size w)
 have H : ((spec_l8Max.f a0 (-2147483648)).bind fun t1 => ((spec_l8Min.f a1 2147483647).bind fun t2 => (if t1 > t2 then ((spec_l8None.f).bind fun u1 => (some (u1.1, u1.2))) else (some (t1, t2))))) = some (r1, r2) := h
 clear h
 obtain ⟨t1, A1, H⟩ := bd H
 try dsimp only at H
 obtain ⟨t2, A2, H⟩ := bd H
 try dsimp only at H
 by_cases c1 : t1 > t2
 rotate_left
 ·rw [if_neg c1] at H
  have d1 := dF c1
  clear c1
  simp only [Option.some.injEq, Prod.mk.injEq] at H
  obtain ⟨rfl, rfl⟩ := H
  go_enter Try.func44, Try.ntmps44
  go_wp2_with (first | ((with_reducible refine gate_dst (N := 4) rfl ?_); refine bxn 4 #[.int .i64 0, .int .i64 0] 24 HB fun g1 w1 K1 G1 hg hb => ?_; replace HB := am (below_step (YA HB) hb); clear hb hg) | ((with_reducible refine gate_callee (f := 69) rfl ?_); refine goesL_ (some 8) rfl rfl Try.func69 (by kernel_rfl) rfl #[.int .i64 a0, .int .i64 (-2147483648)] rfl mz ?_; (with_reducible refine (spec_l8Max.calls _ _ _ _ A1.out).mono ?_); rintro e w' ⟨rfl, ⟨nd, rfl⟩⟩; refine ⟨_, rfl, ?_⟩; (try (rw [drewN_self w1]; generalize hq_ : World.drewN w1 _ = w1; replace K1 : Bx2 w1 g1 0 0 24 := ⟨by rw [← hq_]; exact (Z K1)⟩; replace HB : Aside0 (Below w.heap.size w w1) := ⟨by rw [← hq_]; exact (YA HB)⟩; clear hq_))) | ((with_reducible refine gate_callee (f := 68) rfl ?_); refine goesL_ (some 10) rfl rfl Try.func68 (by kernel_rfl) rfl #[.int .i64 a1, .int .i64 2147483647] rfl mz ?_; (with_reducible refine (spec_l8Min.calls _ _ _ _ A2.out).mono ?_); rintro e w' ⟨rfl, ⟨nd, rfl⟩⟩; refine ⟨_, rfl, ?_⟩; (try (rw [drewN_self w1]; generalize hq_ : World.drewN w1 _ = w1; replace K1 : Bx2 w1 g1 0 0 24 := ⟨by rw [← hq_]; exact (Z K1)⟩; replace HB : Aside0 (Below w.heap.size w w1) := ⟨by rw [← hq_]; exact (YA HB)⟩; clear hq_)); have z_ := cB2 K1))
  refine bodyPost_ret (results_cell_row rfl _ _ g1 24 #[.int .i64 t1, .int .i64 t2] (0, 0) _ rfl (by refine pf ?_; refine blk_put (cs := #[.int .i64 t1, .int .i64 0]) ?_ 1 _ rfl; refine pf ?_; refine blk_put (cs := #[.int .i64 0, .int .i64 0]) ?_ 0 _ rfl; exact Z K1) Try.underlying24 rfl (by kernel_rfl)) rfl ?_
  exact ⟨ez, YA HB⟩
 rw [if_pos c1] at H
 have d1 := dT c1
 clear c1
 obtain ⟨⟨t3, t4⟩, A3, H⟩ := bd H
 try dsimp only at H
 simp only [Option.some.injEq, Prod.mk.injEq] at H
 obtain ⟨rfl, rfl⟩ := H
 go_enter Try.func44, Try.ntmps44
 go_wp2_with (first | ((with_reducible refine gate_dst (N := 4) rfl ?_); refine bxn 4 #[.int .i64 0, .int .i64 0] 24 HB fun g1 w1 K1 G1 hg hb => ?_; replace HB := am (below_step (YA HB) hb); clear hb hg) | ((with_reducible refine gate_callee (f := 69) rfl ?_); refine goesL_ (some 8) rfl rfl Try.func69 (by kernel_rfl) rfl #[.int .i64 a0, .int .i64 (-2147483648)] rfl mz ?_; (with_reducible refine (spec_l8Max.calls _ _ _ _ A1.out).mono ?_); rintro e w' ⟨rfl, ⟨nd, rfl⟩⟩; refine ⟨_, rfl, ?_⟩; (try (rw [drewN_self w1]; generalize hq_ : World.drewN w1 _ = w1; replace K1 : Bx2 w1 g1 0 0 24 := ⟨by rw [← hq_]; exact (Z K1)⟩; replace HB : Aside0 (Below w.heap.size w w1) := ⟨by rw [← hq_]; exact (YA HB)⟩; clear hq_))) | ((with_reducible refine gate_callee (f := 68) rfl ?_); refine goesL_ (some 10) rfl rfl Try.func68 (by kernel_rfl) rfl #[.int .i64 a1, .int .i64 2147483647] rfl mz ?_; (with_reducible refine (spec_l8Min.calls _ _ _ _ A2.out).mono ?_); rintro e w' ⟨rfl, ⟨nd, rfl⟩⟩; refine ⟨_, rfl, ?_⟩; (try (rw [drewN_self w1]; generalize hq_ : World.drewN w1 _ = w1; replace K1 : Bx2 w1 g1 0 0 24 := ⟨by rw [← hq_]; exact (Z K1)⟩; replace HB : Aside0 (Below w.heap.size w w1) := ⟨by rw [← hq_]; exact (YA HB)⟩; clear hq_))) | ((with_reducible refine gate_callee (f := 38) rfl ?_); refine gL 14 Try.func38 (spec_l8None.calls _ _ _ A3.out) fun w2 hb => ?_; obtain ⟨K1, HB⟩ := bk1 K1 HB hb; (try clear hb); have z_ := cB2 K1))
 refine bodyPost_ret (results_cell_row rfl _ _ g1 24 #[.int .i64 t3, .int .i64 t4] (0, 0) _ rfl (by refine pf ?_; refine blk_put (cs := #[.int .i64 t3, .int .i64 0]) ?_ 1 _ rfl; refine pf ?_; refine blk_put (cs := #[.int .i64 0, .int .i64 0]) ?_ 0 _ rfl; exact Z K1) Try.underlying24 rfl (by kernel_rfl)) rfl ?_
 exact ⟨ez, YA HB⟩
end
section
attribute [local go_sem] max2_int min2_int max_two min_two max_three min_three max_four min_four
attribute [local go_sem high] eqA24
attribute [local go_sem] Go.Proofs.YthbkakcchgnhpaaSet.isSome_setCell
def spec_RangeMeet.j0 : Nat → Bool → Int → Int → Int → Int → Option (Int × Int)
 | 0, _, _, _, _, _ => none
 | k + 1, x1, x2, x3, x4, x5 => if x1 = true then ((spec_l8None.f).bind fun u1 => (some (u1.1, u1.2))) else ((spec_l8Max.f x2 x4).bind fun t1 => ((spec_l8Min.f x3 x5).bind fun t2 => ((spec_l8Cut.f t1 t2).bind fun u2 => (some (u2.1, u2.2)))))
def spec_RangeMeet.f (k : Nat) (a0_0 : Int) (a0_1 : Int) (a1_0 : Int) (a1_1 : Int) : Option (Int × Int) := (spec_RangeOk.f a0_0 a0_1).bind fun t1 => (if t1 = true then ((spec_RangeOk.f a1_0 a1_1).bind fun t2 => (if t2 = true then ((spec_l8None.f).bind fun u1 => (if (a0_0 == u1.1 && (a0_1 == u1.2)) = true then (spec_RangeMeet.j0 k true a0_0 a0_1 a1_0 a1_1) else ((spec_l8None.f).bind fun u2 => (spec_RangeMeet.j0 k (a1_0 == u2.1 && (a1_1 == u2.2)) a0_0 a0_1 a1_0 a1_1)))) else (spec_RangeMeet.j0 k true a0_0 a0_1 a1_0 a1_1))) else (spec_RangeMeet.j0 k true a0_0 a0_1 a1_0 a1_1))
theorem spec_RangeMeet.mono_l : ∀ k, (∀ y0 y1 y2 y3 y4, LeO (spec_RangeMeet.j0 k y0 y1 y2 y3 y4) (spec_RangeMeet.j0 (k + 1) y0 y1 y2 y3 y4))
 | 0 => fun _ _ _ _ _ r h => by simp [spec_RangeMeet.j0] at h
 | k + 1 => by
  have ih0 := spec_RangeMeet.mono_l k
  ·intro y0 y1 y2 y3 y4
   unfold spec_RangeMeet.j0
   repeat' first | (with_reducible first | apply ih0 | apply LeO.refl | apply LeO.none | refine LeO.ite ?_ ?_ | refine LeO.bind ?_ (fun _ => ?_)) | apply ih0 | apply LeO.none | refine LeO.ite ?_ ?_ | refine LeO.bind ?_ (fun _ => ?_)
theorem spec_RangeMeet.mono : ∀ a0 a1 a2 a3 k, LeO (spec_RangeMeet.f k a0 a1 a2 a3) (spec_RangeMeet.f (k + 1) a0 a1 a2 a3) := by
 intro a0 a1 a2 a3 k
 have ih0 := spec_RangeMeet.mono_l k
 unfold spec_RangeMeet.f
 repeat' first | (with_reducible first | apply ih0 | apply LeO.refl | apply LeO.none | refine LeO.ite ?_ ?_ | refine LeO.bind ?_ (fun _ => ?_)) | apply ih0 | apply LeO.none | refine LeO.ite ?_ ?_ | refine LeO.bind ?_ (fun _ => ?_)
def spec_RangeMeet.T1 : Bool × List (List Nat × List Nat) := (true, [([], []), ([0], [0]), ([1], [1]), ([2, 1], [2]), ([3], [3]), ([4, 3, 3], [3, 4]), ([5, 3], [3, 5]), ([3, 6], [3, 6]), ([7, 5], [7]), ([8], [8]), ([8, 8], [8]), ([9, 10, 8], [8, 9, 10]), ([8, 11], [8, 11]), ([12, 10], [12]), ([13], [13]), ([13, 13], [13]), ([14, 15, 13], [13, 14, 15]), ([13, 16], [13, 16])])
def spec_RangeMeet.B1 : List Nat := [0, 1, 3, 7, 15, 31, 63, 127, 255, 511, 511, 2047, 4095, 8191, 16383, 16383, 65535, 131071]
theorem spec_RangeMeet.tab1 : rtab .any (opsOf Try.f41 1) = spec_RangeMeet.T1 := by kernel_rfl
theorem spec_RangeMeet.bits1 : waitsOk spec_RangeMeet.T1.2 spec_RangeMeet.B1 = true := by kernel_rfl
def spec_RangeMeet.T3 : Bool × List (List Nat × List Nat) := (true, [([], []), ([0], [0]), ([], []), ([2], [2]), ([1, 3], [1, 3]), ([], []), ([5], [5]), ([], []), ([7], [7]), ([6, 8, 4], [6, 8]), ([4, 9, 9], [4, 9]), ([10, 10, 0, 1, 2, 3, 4, 5, 6, 7, 8, 9, 10], [10])])
def spec_RangeMeet.B3 : List Nat := [0, 1, 0, 4, 15, 0, 32, 0, 128, 511, 1023, 2047]
theorem spec_RangeMeet.tab3 : rtab .any (opsOf Try.f41 3) = spec_RangeMeet.T3 := by kernel_rfl
theorem spec_RangeMeet.bits3 : waitsOk spec_RangeMeet.T3.2 spec_RangeMeet.B3 = true := by kernel_rfl
set_option maxHeartbeats 8000000 in
set_option maxRecDepth 100000 in
theorem spec_RangeMeet.calls (k : Nat) (a0_0 : Int) (a0_1 : Int) (a1_0 : Int) (a1_1 : Int) (r1 : Int) (r2 : Int) (w : World) (h : spec_RangeMeet.f k a0_0 a0_1 a1_0 a1_1 = some (r1, r2)) :
  Calls Try.prog 41 #[.agg #[.int .i64 a0_0, .int .i64 a0_1], .agg #[.int .i64 a1_0, .int .i64 a1_1]] w fun e w' => e = .returned (.agg #[.int .i64 r1, .int .i64 r2]) ∧ Below w.heap.size w w' := by
 have hu24 := Try.underlying24
 have HB := am (Below.refl w.heap.size w)
 have H : ((spec_RangeOk.f a0_0 a0_1).bind fun t1 => (if t1 = true then ((spec_RangeOk.f a1_0 a1_1).bind fun t2 => (if t2 = true then ((spec_l8None.f).bind fun u1 => (if (a0_0 == u1.1 && (a0_1 == u1.2)) = true then (spec_RangeMeet.j0 k true a0_0 a0_1 a1_0 a1_1) else ((spec_l8None.f).bind fun u2 => (spec_RangeMeet.j0 k (a1_0 == u2.1 && (a1_1 == u2.2)) a0_0 a0_1 a1_0 a1_1)))) else (spec_RangeMeet.j0 k true a0_0 a0_1 a1_0 a1_1))) else (spec_RangeMeet.j0 k true a0_0 a0_1 a1_0 a1_1))) = some (r1, r2) := h
 clear h
 have C1 := am H
 clear H
 go_enter Try.func41, Try.ntmps41
 go_upto_region 1 with (first | ((with_reducible refine gate_dst (N := 2) rfl ?_); refine bxn 2 #[.int .i64 a0_0, .int .i64 a0_1] 24 HB fun g1 w2 K1 G1 hg hb => ?_; replace HB := am (below_step (YA HB) hb); clear hb hg) | ((with_reducible refine gate_dst (N := 3) rfl ?_); refine bxn 3 #[.int .i64 a1_0, .int .i64 a1_1] 24 HB fun g2 w3 K2 G2 hg hb => ?_; obtain ⟨N1,N2⟩ := ne_ hg K1; obtain ⟨K1, HB⟩ := bk1 K1 HB hb; clear hb hg) | ((with_reducible refine gate_dst (N := 4) rfl ?_); refine bxn 4 #[.int .i64 0, .int .i64 0] 24 HB fun g3 w4 K3 G3 hg hb => ?_; obtain ⟨N3,N4⟩ := ne_ hg K1; obtain ⟨N5,N6⟩ := ne_ hg K2; obtain ⟨K1, K2, HB⟩ := bk2 K1 K2 HB hb; clear hb hg))
 (try simp only [Act.put, List.setIfInBounds_toArray, List.set_cons_zero, List.set_cons_succ])
 go_cut [22] (fun v1 wc => ∃ (kq : Nat) (x1 : Bool), v1 = .bool x1 ∧ Aside0 (spec_RangeMeet.j0 kq x1 a0_0 a0_1 a1_0 a1_1 = some (r1, r2)) ∧ Aside0 (kq ≤ k) ∧ Bx2 wc g1 a0_0 a0_1 24 ∧ Bx2 wc g2 a1_0 a1_1 24 ∧ Bx2 wc g3 0 0 24 ∧ Aside0 (Below w.heap.size w wc))
 case first =>
  have H := C1.out
  clear C1
  obtain ⟨t1, A1, H⟩ := bd H
  try dsimp only at H
  by_cases c1 : t1 = true
  rotate_left
  ·replace c1 := Bool.eq_false_iff.mpr c1
   subst c1
   rw [if_neg ff] at H
   have H' := am H
   clear H
   try go_wp2
   obtain ⟨K1, K2, K3, HB⟩ := dk3 K1 K2 K3 HB
   refine start_ (n := 18) (S := fun w' => w'.cell? ⟨g1, 0, none⟩ = some (.int .i64 a0_0) ∧ w'.cell? ⟨g1, 1, none⟩ = some (.int .i64 a0_1)) (ds := []) (lb 18 0) (by kernel_rfl) rfl rfl ⟨bc K1 0, bc K1 1⟩ (fun hHeld => ?_); refine with_tabW spec_RangeMeet.tab1 spec_RangeMeet.bits1 (fun HT_ HW_ => ?_)
   generalize w4.drew = w5 at K1 K2 K3 HB hHeld ⊢
   refine tk 0 5 1 hHeld ?_
   refine on 1 (some 6) 3 fun K hK => ?_
   refine ck hK Try.func24 (spec_RangeOk.calls _ _ _ _ A1.out) (fun _ b => bk3 K1 K2 K3 HB b) fun w6 Q_ hHeld => ?_
   clear hK K
   obtain ⟨K1, K2, K3, HB⟩ := Q_
   refine pk 2 7 7 ?_
   refine pk 3 8 15 ?_
   refine uk 4 9 31 ?_
   refine uk 5 10 63 ?_
   refine uk 6 11 127 ?_
   refine pk 7 12 255 ?_
   refine pk 8 13 511 ?_
   refine uk 9 14 1023 ?_
   refine uk 10 15 2047 ?_
   refine uk 11 16 4095 ?_
   refine pk 12 17 8191 ?_
   refine pk 13 18 16383 ?_
   refine uk 14 19 32767 ?_
   refine uk 15 20 65535 ?_
   refine uk 16 21 131071 ?_
   refine pk 17 22 262143 ?_
   refine done_ (done_of HT_.out (by kernel_rfl)) ?_
   try go_wp2
   go_meet
   case rel => exact ⟨_, (true), ey, H', le0, ⟨Z K1⟩, ⟨Z K2⟩, ⟨Z K3⟩, ⟨YA HB⟩⟩
  subst c1
  rw [if_pos rfl] at H
  obtain ⟨t2, A2, H⟩ := bd H
  try dsimp only at H
  by_cases c2 : t2 = true
  rotate_left
  ·replace c2 := Bool.eq_false_iff.mpr c2
   subst c2
   rw [if_neg ff] at H
   have H' := am H
   clear H
   try go_wp2
   obtain ⟨K1, K2, K3, HB⟩ := dk3 K1 K2 K3 HB
   refine start_ (n := 18) (S := fun w' => w'.cell? ⟨g1, 0, none⟩ = some (.int .i64 a0_0) ∧ w'.cell? ⟨g1, 1, none⟩ = some (.int .i64 a0_1) ∧ w'.cell? ⟨g2, 0, none⟩ = some (.int .i64 a1_0) ∧ w'.cell? ⟨g2, 1, none⟩ = some (.int .i64 a1_1)) (ds := []) (lb 18 0) (by kernel_rfl) rfl rfl ⟨bc K1 0, bc K1 1, bc K2 0, bc K2 1⟩ (fun hHeld => ?_); refine with_tabW spec_RangeMeet.tab1 spec_RangeMeet.bits1 (fun HT_ HW_ => ?_)
   generalize w4.drew = w5 at K1 K2 K3 HB hHeld ⊢
   refine tk 0 5 1 hHeld ?_
   refine on 1 (some 6) 3 fun K hK => ?_
   refine ck hK Try.func24 (spec_RangeOk.calls _ _ _ _ A1.out) (fun _ b => bk3 K1 K2 K3 HB b) fun w6 Q_ hHeld => ?_
   clear hK K
   obtain ⟨K1, K2, K3, HB⟩ := Q_
   refine pk 2 7 7 ?_
   refine pk 3 8 15 ?_
   refine tk 4 9 31 hHeld ?_
   refine on 5 (some 10) 63 fun K hK => ?_
   refine ck hK Try.func24 (spec_RangeOk.calls _ _ _ _ A2.out) (fun _ b => bk3 K1 K2 K3 HB b) fun w7 Q_ hHeld => ?_
   clear hK K
   obtain ⟨K1, K2, K3, HB⟩ := Q_
   refine pk 6 11 127 ?_
   refine pk 7 12 255 ?_
   refine pk 8 13 511 ?_
   refine uk 9 14 1023 ?_
   refine uk 10 15 2047 ?_
   refine uk 11 16 4095 ?_
   refine pk 12 17 8191 ?_
   refine pk 13 18 16383 ?_
   refine uk 14 19 32767 ?_
   refine uk 15 20 65535 ?_
   refine uk 16 21 131071 ?_
   refine pk 17 22 262143 ?_
   refine done_ (done_of HT_.out (by kernel_rfl)) ?_
   try go_wp2
   go_meet
   case rel => exact ⟨_, (true), ey, H', le0, ⟨Z K1⟩, ⟨Z K2⟩, ⟨Z K3⟩, ⟨YA HB⟩⟩
  subst c2
  rw [if_pos rfl] at H
  obtain ⟨⟨t3, t4⟩, A3, H⟩ := bd H
  try dsimp only at H
  by_cases c3 : (a0_0 == t3 && (a0_1 == t4)) = true
  ·rw [if_pos c3] at H
   have d1 : (a0_0 == t3 && (a0_1 == t4)) = true := c3
   (try (have d2 : decide (a0_0 = t3 && (a0_1 == t4)) = true := by simpa using c3))
   (try (have d3 : (a0_0 == t3 && (a0_1 == t4)) = true := by simpa using c3))
   clear c3
   (first | rw [d1] | (simp only [i64_w, i32_w]; rw [d1]) | skip)
   have H' := am H
   clear H
   try go_wp2
   obtain ⟨K1, K2, K3, HB⟩ := dk3 K1 K2 K3 HB
   refine start_ (n := 18) (S := fun w' => w'.cell? ⟨g1, 0, none⟩ = some (.int .i64 a0_0) ∧ w'.cell? ⟨g1, 1, none⟩ = some (.int .i64 a0_1) ∧ w'.cell? ⟨g2, 0, none⟩ = some (.int .i64 a1_0) ∧ w'.cell? ⟨g2, 1, none⟩ = some (.int .i64 a1_1)) (ds := []) (lb 18 0) (by kernel_rfl) rfl rfl ⟨bc K1 0, bc K1 1, bc K2 0, bc K2 1⟩ (fun hHeld => ?_); refine with_tabW spec_RangeMeet.tab1 spec_RangeMeet.bits1 (fun HT_ HW_ => ?_)
   generalize w4.drew = w5 at K1 K2 K3 HB hHeld ⊢
   refine tk 0 5 1 hHeld ?_
   refine on 1 (some 6) 3 fun K hK => ?_
   refine ck hK Try.func24 (spec_RangeOk.calls _ _ _ _ A1.out) (fun _ b => bk3 K1 K2 K3 HB b) fun w6 Q_ hHeld => ?_
   clear hK K
   obtain ⟨K1, K2, K3, HB⟩ := Q_
   refine pk 2 7 7 ?_
   refine pk 3 8 15 ?_
   refine tk 4 9 31 hHeld ?_
   refine on 5 (some 10) 63 fun K hK => ?_
   refine ck hK Try.func24 (spec_RangeOk.calls _ _ _ _ A2.out) (fun _ b => bk3 K1 K2 K3 HB b) fun w7 Q_ hHeld => ?_
   clear hK K
   obtain ⟨K1, K2, K3, HB⟩ := Q_
   refine pk 6 11 127 ?_
   refine pk 7 12 255 ?_
   refine pk 8 13 511 ?_
   refine tk 9 14 1023 hHeld ?_
   refine on 10 (some 15) 2047 fun K hK => ?_
   refine ck hK Try.func38 (spec_l8None.calls _ _ _ A3.out) (fun _ b => bk3 K1 K2 K3 HB b) fun w8 Q_ hHeld => ?_
   clear hK K
   obtain ⟨K1, K2, K3, HB⟩ := Q_
   refine pk 11 16 4095 ?_
   refine pk 12 17 8191 ?_
   refine pk 13 18 16383 ?_
   refine uk 14 19 32767 ?_
   refine uk 15 20 65535 ?_
   refine uk 16 21 131071 ?_
   refine pk 17 22 262143 ?_
   refine done_ (done_of HT_.out (by kernel_rfl)) ?_
   try go_wp2
   go_meet
   case rel => exact ⟨_, (true), ey, H', le0, ⟨Z K1⟩, ⟨Z K2⟩, ⟨Z K3⟩, ⟨YA HB⟩⟩
  rw [if_neg c3] at H
  have d1 : (a0_0 == t3 && (a0_1 == t4)) = false := by simpa using c3
  (try (have d2 : decide (a0_0 = t3 && (a0_1 == t4)) = false := by simpa using c3))
  (try (have d3 : (a0_0 == t3 && (a0_1 == t4)) = false := by simpa using c3))
  (try (have d4 : ¬ (a0_0 = t3 && (a0_1 == t4)) := by simpa using c3))
  clear c3
  (first | rw [d1] | (simp only [i64_w, i32_w]; rw [d1]) | skip)
  obtain ⟨⟨t5, t6⟩, A4, H⟩ := bd H
  try dsimp only at H
  have H' := am H
  clear H
  try go_wp2
  obtain ⟨K1, K2, K3, HB⟩ := dk3 K1 K2 K3 HB
  refine start_ (n := 18) (S := fun w' => w'.cell? ⟨g1, 0, none⟩ = some (.int .i64 a0_0) ∧ w'.cell? ⟨g1, 1, none⟩ = some (.int .i64 a0_1) ∧ w'.cell? ⟨g2, 0, none⟩ = some (.int .i64 a1_0) ∧ w'.cell? ⟨g2, 1, none⟩ = some (.int .i64 a1_1)) (ds := []) (lb 18 0) (by kernel_rfl) rfl rfl ⟨bc K1 0, bc K1 1, bc K2 0, bc K2 1⟩ (fun hHeld => ?_); refine with_tabW spec_RangeMeet.tab1 spec_RangeMeet.bits1 (fun HT_ HW_ => ?_)
  generalize w4.drew = w5 at K1 K2 K3 HB hHeld ⊢
  refine tk 0 5 1 hHeld ?_
  refine on 1 (some 6) 3 fun K hK => ?_
  refine ck hK Try.func24 (spec_RangeOk.calls _ _ _ _ A1.out) (fun _ b => bk3 K1 K2 K3 HB b) fun w6 Q_ hHeld => ?_
  clear hK K
  obtain ⟨K1, K2, K3, HB⟩ := Q_
  refine pk 2 7 7 ?_
  refine pk 3 8 15 ?_
  refine tk 4 9 31 hHeld ?_
  refine on 5 (some 10) 63 fun K hK => ?_
  refine ck hK Try.func24 (spec_RangeOk.calls _ _ _ _ A2.out) (fun _ b => bk3 K1 K2 K3 HB b) fun w7 Q_ hHeld => ?_
  clear hK K
  obtain ⟨K1, K2, K3, HB⟩ := Q_
  refine pk 6 11 127 ?_
  refine pk 7 12 255 ?_
  refine pk 8 13 511 ?_
  refine tk 9 14 1023 hHeld ?_
  refine on 10 (some 15) 2047 fun K hK => ?_
  refine ck hK Try.func38 (spec_l8None.calls _ _ _ A3.out) (fun _ b => bk3 K1 K2 K3 HB b) fun w8 Q_ hHeld => ?_
  clear hK K
  obtain ⟨K1, K2, K3, HB⟩ := Q_
  refine pk 11 16 4095 ?_
  refine pk 12 17 8191 ?_
  refine pk 13 18 16383 ?_
  refine tk 14 19 32767 hHeld ?_
  refine on 15 (some 20) 65535 fun K hK => ?_
  refine ck hK Try.func38 (spec_l8None.calls _ _ _ A4.out) (fun _ b => bk3 K1 K2 K3 HB b) fun w9 Q_ hHeld => ?_
  clear hK K
  obtain ⟨K1, K2, K3, HB⟩ := Q_
  refine pk 16 21 131071 ?_
  refine pk 17 22 262143 ?_
  refine done_ (done_of HT_.out (by kernel_rfl)) ?_
  try go_wp2
  go_meet
  case rel => exact ⟨_, ((a1_0 == t5 && (a1_1 == t6))), ey, H', le0, ⟨Z K1⟩, ⟨Z K2⟩, ⟨Z K3⟩, ⟨YA HB⟩⟩
 case rest =>
  clear C1
  obtain ⟨kq, x1, rfl, HA, J1, K1, K2, K3, HB⟩ := hcut
  cases kq with
  | zero => exact absurd HA.out (by simp [spec_RangeMeet.j0])
  | succ k1 =>
   have H := HA.out
   clear HA
   simp only [spec_RangeMeet.j0] at H
   by_cases c1 : x1 = true
   ·subst c1
    rw [if_pos rfl] at H
    obtain ⟨⟨t3, t4⟩, A1, H⟩ := bd H
    try dsimp only at H
    simp only [Option.some.injEq, Prod.mk.injEq] at H
    obtain ⟨rfl, rfl⟩ := H
    go_wp2_with (first | ((with_reducible refine gate_callee (f := 38) rfl ?_); refine gL 23 Try.func38 (spec_l8None.calls _ _ _ A1.out) fun w5 hb => ?_; obtain ⟨K1, K2, K3, HB⟩ := bk3 K1 K2 K3 HB hb; (try clear hb); have z_ := ns2 N4 N6; have z_ := cB2 K3))
    refine bodyPost_ret (results_cell_row rfl _ _ g3 24 #[.int .i64 t3, .int .i64 t4] (0, 0) _ rfl (by refine pf ?_; refine blk_put (cs := #[.int .i64 t3, .int .i64 0]) ?_ 1 _ rfl; refine pf ?_; refine blk_put (cs := #[.int .i64 0, .int .i64 0]) ?_ 0 _ rfl; exact Z K3) Try.underlying24 rfl (by kernel_rfl)) rfl ?_
    exact ⟨ez, YA HB⟩
   replace c1 := Bool.eq_false_iff.mpr c1
   subst c1
   rw [if_neg ff] at H
   obtain ⟨t3, A1, H⟩ := bd H
   try dsimp only at H
   obtain ⟨t4, A2, H⟩ := bd H
   try dsimp only at H
   obtain ⟨⟨t5, t6⟩, A3, H⟩ := bd H
   try dsimp only at H
   simp only [Option.some.injEq, Prod.mk.injEq] at H
   obtain ⟨rfl, rfl⟩ := H
   try go_wp2
   obtain ⟨K1, K2, K3, HB⟩ := dk3 K1 K2 K3 HB
   refine start_ (n := 12) (S := fun w' => w'.cell? ⟨g1, 0, none⟩ = some (.int .i64 a0_0) ∧ w'.cell? ⟨g1, 1, none⟩ = some (.int .i64 a0_1) ∧ w'.cell? ⟨g2, 0, none⟩ = some (.int .i64 a1_0) ∧ w'.cell? ⟨g2, 1, none⟩ = some (.int .i64 a1_1)) (ds := []) (lb 12 0) (by kernel_rfl) rfl rfl ⟨bc K1 0, bc K1 1, bc K2 0, bc K2 1⟩ (fun hHeld => ?_); refine with_tabW spec_RangeMeet.tab3 spec_RangeMeet.bits3 (fun HT_ HW_ => ?_)
   generalize wc.drew = w5 at K1 K2 K3 HB hHeld ⊢
   refine pk 0 24 1 ?_
   refine pk 2 26 5 ?_
   refine pk 5 29 37 ?_
   refine pk 7 31 165 ?_
   refine tk 1 25 167 hHeld ?_
   refine tk 3 27 175 hHeld ?_
   refine tk 6 30 239 hHeld ?_
   refine tk 8 32 495 hHeld ?_
   refine on 4 (some 28) 511 fun K hK => ?_
   refine goes_ Try.func69 (by kernel_rfl) rfl #[.int .i64 a0_0, .int .i64 a1_0] (by rfl) rfl rfl mz ?_
   with_reducible refine (spec_l8Max.calls _ _ _ _ A1.out).mono ?_
   rintro e w' ⟨rfl, ⟨nd, rfl⟩⟩
   refine ⟨_, rfl, ?_⟩
   refine kk hK ⟨bc K1 0, bc K1 1, bc K2 0, bc K2 1⟩ fun hHeld => ?_
   clear hK K
   refine on 9 (some 33) 1023 fun K hK => ?_
   refine goes_ Try.func68 (by kernel_rfl) rfl #[.int .i64 a0_1, .int .i64 a1_1] (by rfl) rfl rfl mz ?_
   with_reducible refine (spec_l8Min.calls _ _ _ _ A2.out).mono ?_
   rintro e w' ⟨rfl, ⟨nd, rfl⟩⟩
   refine ⟨_, rfl, ?_⟩
   refine kk hK ⟨bc K1 0, bc K1 1, bc K2 0, bc K2 1⟩ fun hHeld => ?_
   clear hK K
   refine on 10 (some 34) 2047 fun K hK => ?_
   refine ck hK Try.func44 (spec_l8Cut.calls _ _ _ _ _ A3.out) (fun _ b => bk3 K1 K2 K3 HB b) fun w6 Q_ hHeld => ?_
   clear hK K
   obtain ⟨K1, K2, K3, HB⟩ := Q_
   refine on 11 none 4095 fun K hK => ?_
   have s1 : w6.cell? ⟨g3, 0, none⟩ = some (.int .i64 0) := bc K3 0
   have hfs39 := blk_frozen K3.out 0
   have z_ := ns4 N3 N5 N4 N6
   have s2 : w6.cell? ⟨g3, 1, none⟩ = some (.int .i64 0) := bc K3 1
   have hfs40 := blk_frozen K3.out 1
   have z_ := ns4 N3 N5 N4 N6
   refine skip_ (w1 := ?_) (by rfl) rfl ?_ ?_
   rotate_left
   ·go_simp
    rfl
   refine hK.out _ _ ⟨(cf N3 ((cf N3 (hHeld.1)))), (cf N3 ((cf N3 (hHeld.2.1)))), (cf N5 ((cf N5 (hHeld.2.2.1)))), (cf N5 ((cf N5 (hHeld.2.2.2))))⟩ (fun hHeld => ?_)
   clear hK K
   refine done_ (done_of HT_.out (by kernel_rfl)) ?_
   try go_wp2
   refine bodyPost_ret (results_cell_row rfl _ _ g3 24 #[.int .i64 t5, .int .i64 t6] (0, 0) _ rfl (by refine pf ?_; refine blk_put (cs := #[.int .i64 t5, .int .i64 0]) ?_ 1 _ rfl; refine pf ?_; refine blk_put (cs := #[.int .i64 0, .int .i64 0]) ?_ 0 _ rfl; exact Z K3) Try.underlying24 rfl (by kernel_rfl)) rfl ?_
   exact ⟨ez, YA HB⟩
end
section
attribute [local go_sem] max2_int min2_int max_two min_two max_three min_three max_four min_four
attribute [local go_sem] Go.Proofs.YthbkakcchgnhpaaSet.isSome_setCell
def spec_l1Mod.f (a0 : Int) (a1 : Int) : Option (Int) := if a1 = 0 then (none) else (if (Int.tmod a0 a1) < 0 then (some (wrap64 ((Int.tmod a0 a1) + a1))) else (some (Int.tmod a0 a1)))
set_option maxHeartbeats 8000000 in
set_option maxRecDepth 100000 in
theorem spec_l1Mod.calls (a0 : Int) (a1 : Int) (r : Int) (w : World) (h : spec_l1Mod.f a0 a1 = some r) :
  Calls Try.prog 100 #[.int .i64 a0, .int .i64 a1] w fun e w' => e = .returned (.int .i64 r) ∧ Drawn0 w w' := by
 have H : (if a1 = 0 then (none) else (if (Int.tmod a0 a1) < 0 then (some (wrap64 ((Int.tmod a0 a1) + a1))) else (some (Int.tmod a0 a1)))) = some r := h
 clear h
 by_cases c1 : a1 = 0
 ·rw [if_pos c1] at H
  exact absurd H (by simp)
 rw [if_neg c1] at H
 have d1 := eF c1
 have d2 := nT c1
 by_cases c2 : (Int.tmod a0 a1) < 0
 ·rw [if_pos c2] at H
  have d3 := dT c2
  clear c2
  obtain rfl := Option.some.inj H
  go_enter Try.func100, Try.ntmps100
  go_wp2
  go_ret
  exact ⟨by first | rfl | (simp; done) | (simp [*]; done), by repeat (first | exact Drawn0.refl _ | apply Drawn0.step)⟩
 rw [if_neg c2] at H
 have d3 := dF c2
 clear c2
 obtain rfl := Option.some.inj H
 go_enter Try.func100, Try.ntmps100
 go_wp2
 go_ret
 exact ⟨by first | rfl | (simp; done) | (simp [*]; done), by repeat (first | exact Drawn0.refl _ | apply Drawn0.step)⟩

def spec_NumWrap.f (a0 : Int) : Option (Int) := (spec_l1Mod.f a0 4294967296).bind fun t1 => (if t1 > 2147483647 then (some (wrap64 (t1 - 4294967296))) else (some t1))
set_option maxHeartbeats 8000000 in
set_option maxRecDepth 100000 in
theorem spec_NumWrap.calls (a0 : Int) (r : Int) (w : World) (h : spec_NumWrap.f a0 = some r) :
  Calls Try.prog 64 #[.int .i64 a0] w fun e w' => e = .returned (.int .i64 r) ∧ Drawn0 w w' := by
 have H : ((spec_l1Mod.f a0 4294967296).bind fun t1 => (if t1 > 2147483647 then (some (wrap64 (t1 - 4294967296))) else (some t1))) = some r := h
 clear h
 obtain ⟨t1, A1, H⟩ := bd H
 try dsimp only at H
 by_cases c1 : t1 > 2147483647
 ·rw [if_pos c1] at H
  have d1 := dT c1
  clear c1
  obtain rfl := Option.some.inj H
  go_enter Try.func64, Try.ntmps64
  go_wp2_with (first | ((with_reducible refine gate_callee (f := 100) rfl ?_); refine goesL_ (some 5) rfl rfl Try.func100 (by kernel_rfl) rfl #[.int .i64 a0, .int .i64 4294967296] rfl mz ?_; (with_reducible refine (spec_l1Mod.calls _ _ _ _ A1.out).mono ?_); rintro e w' ⟨rfl, ⟨nd, rfl⟩⟩; refine ⟨_, rfl, ?_⟩))
  go_ret
  exact ⟨by first | rfl | (simp; done) | (simp [*]; done), by repeat (first | exact Drawn0.refl _ | apply Drawn0.step)⟩
 rw [if_neg c1] at H
 have d1 := dF c1
 clear c1
 obtain rfl := Option.some.inj H
 go_enter Try.func64, Try.ntmps64
 go_wp2_with (first | ((with_reducible refine gate_callee (f := 100) rfl ?_); refine goesL_ (some 5) rfl rfl Try.func100 (by kernel_rfl) rfl #[.int .i64 a0, .int .i64 4294967296] rfl mz ?_; (with_reducible refine (spec_l1Mod.calls _ _ _ _ A1.out).mono ?_); rintro e w' ⟨rfl, ⟨nd, rfl⟩⟩; refine ⟨_, rfl, ?_⟩))
 go_ret
 exact ⟨by first | rfl | (simp; done) | (simp [*]; done), by repeat (first | exact Drawn0.refl _ | apply Drawn0.step)⟩

def spec_l1Bits.l0 : Nat → Int → Int → Int → Int → Int → Option (Int)
 | 0, _, _, _, _, _ => none
 | k + 1, x1, x2, x3, x4, x5 => if x5 < 32 then ((spec_l1Mod.f x2 4294967296).bind fun t1 => (if 0 ≤ (IntKind.u64.wrap (x5)) then ((spec_l1Mod.f x3 4294967296).bind fun t2 => (if x1 = 7 then (spec_l1Bits.l0 k x1 x2 x3 (wrap64 (x4 + (shl .i64 (wrap64 ((wrap64 ((Int.tmod (shr .i64 t1 (IntKind.u64.wrap (x5))) 2) + (Int.tmod (shr .i64 t2 (IntKind.u64.wrap (x5))) 2))) - (wrap64 ((Int.tmod (shr .i64 t1 (IntKind.u64.wrap (x5))) 2) * (Int.tmod (shr .i64 t2 (IntKind.u64.wrap (x5))) 2))))) (IntKind.u64.wrap (x5))))) (wrap64 (x5 + 1))) else (if x1 = 8 then (spec_l1Bits.l0 k x1 x2 x3 (wrap64 (x4 + (shl .i64 (Int.tmod (wrap64 ((Int.tmod (shr .i64 t1 (IntKind.u64.wrap (x5))) 2) + (Int.tmod (shr .i64 t2 (IntKind.u64.wrap (x5))) 2))) 2) (IntKind.u64.wrap (x5))))) (wrap64 (x5 + 1))) else (spec_l1Bits.l0 k x1 x2 x3 (wrap64 (x4 + (shl .i64 (wrap64 ((Int.tmod (shr .i64 t1 (IntKind.u64.wrap (x5))) 2) * (Int.tmod (shr .i64 t2 (IntKind.u64.wrap (x5))) 2))) (IntKind.u64.wrap (x5))))) (wrap64 (x5 + 1)))))) else (none))) else ((spec_NumWrap.f x4).bind fun t3 => (some t3))
def spec_l1Bits.f (k : Nat) (a0 : Int) (a1 : Int) (a2 : Int) : Option (Int) := spec_l1Bits.l0 k a0 a1 a2 0 0
theorem spec_l1Bits.mono_l : ∀ k, (∀ y0 y1 y2 y3 y4, LeO (spec_l1Bits.l0 k y0 y1 y2 y3 y4) (spec_l1Bits.l0 (k + 1) y0 y1 y2 y3 y4))
 | 0 => fun _ _ _ _ _ r h => by simp [spec_l1Bits.l0] at h
 | k + 1 => by
  have ih0 := spec_l1Bits.mono_l k
  ·intro y0 y1 y2 y3 y4
   unfold spec_l1Bits.l0
   repeat' first | (with_reducible first | apply ih0 | apply LeO.refl | apply LeO.none | refine LeO.ite ?_ ?_ | refine LeO.bind ?_ (fun _ => ?_)) | apply ih0 | apply LeO.none | refine LeO.ite ?_ ?_ | refine LeO.bind ?_ (fun _ => ?_)
theorem spec_l1Bits.mono : ∀ a0 a1 a2 k, LeO (spec_l1Bits.f k a0 a1 a2) (spec_l1Bits.f (k + 1) a0 a1 a2) := by
 intro a0 a1 a2 k
 have ih0 := spec_l1Bits.mono_l k
 unfold spec_l1Bits.f
 repeat' first | (with_reducible first | apply ih0 | apply LeO.refl | apply LeO.none | refine LeO.ite ?_ ?_ | refine LeO.bind ?_ (fun _ => ?_)) | apply ih0 | apply LeO.none | refine LeO.ite ?_ ?_ | refine LeO.bind ?_ (fun _ => ?_)
set_option maxHeartbeats 8000000 in
set_option maxRecDepth 100000 in
theorem spec_l1Bits.calls (k : Nat) (a0 : Int) (a1 : Int) (a2 : Int) (r : Int) (w : World) (h : spec_l1Bits.f k a0 a1 a2 = some r) :
  Calls Try.prog 90 #[.int .i64 a0, .int .i64 a1, .int .i64 a2] w fun e w' => e = .returned (.int .i64 r) ∧ Drawn0 w w' := by
 have H : (spec_l1Bits.l0 k a0 a1 a2 0 0) = some r := h
 clear h
 have H' := am H
 clear H
 go_enter Try.func90, Try.ntmps90
 go_wp2
 go_loopg [7, 8] k (fun kq v1 v2 w' => ∃ (x1 : Int) (x2 : Int), v1 = .int .i64 x1 ∧ v2 = .int .i64 x2 ∧ Aside0 (spec_l1Bits.l0 kq a0 a1 a2 x1 x2 = some r) ∧ Aside0 (kq ≤ k) ∧ Drawn0 w w')
 case atStart => exact ⟨(0), (0), ey, ey, H', ⟨Nat.le_refl _⟩, by repeat (first | exact Drawn0.refl _ | apply Drawn0.step)⟩
 case round =>
  clear H'
  obtain ⟨x1, x2, rfl, rfl, HA, HK1, ⟨m1, rfl⟩⟩ := hrel
  cases gk with
  | zero => exact absurd HA.out (by simp [spec_l1Bits.l0])
  | succ k1 =>
   have H := HA.out
   clear HA
   simp only [spec_l1Bits.l0] at H
   by_cases c1 : x2 < 32
   rotate_left
   ·rw [if_neg c1] at H
    have d1 := dF c1
    clear c1
    obtain ⟨t1, A1, H⟩ := bd H
    try dsimp only at H
    obtain rfl := Option.some.inj H
    go_wp2_with (first | ((with_reducible refine gate_callee (f := 64) rfl ?_); refine goesL_ (some 53) rfl rfl Try.func64 (by kernel_rfl) rfl #[.int .i64 x1] rfl mz ?_; (with_reducible refine (spec_NumWrap.calls _ _ _ A1.out).mono ?_); rintro e w' ⟨rfl, ⟨nd, rfl⟩⟩; refine ⟨_, rfl, ?_⟩))
    go_ret
    exact ⟨by first | rfl | (simp; done) | (simp [*]; done), by repeat (first | exact Drawn0.refl _ | apply Drawn0.step)⟩
   rw [if_pos c1] at H
   have d1 := dT c1
   clear c1
   obtain ⟨t1, A1, H⟩ := bd H
   try dsimp only at H
   obtain ⟨i1, j9⟩ : ∃ j_ : Int, (IntKind.u64.wrap (x2)) = j_ := ⟨_, rfl⟩
   replace H : (if 0 ≤ (i1) then ((spec_l1Mod.f a2 4294967296).bind fun t2 => (if a0 = 7 then (spec_l1Bits.l0 k1 a0 a1 a2 (wrap64 (x1 + (shl .i64 (wrap64 ((wrap64 ((Int.tmod (shr .i64 t1 (i1)) 2) + (Int.tmod (shr .i64 t2 (i1)) 2))) - (wrap64 ((Int.tmod (shr .i64 t1 (i1)) 2) * (Int.tmod (shr .i64 t2 (i1)) 2))))) (i1)))) (wrap64 (x2 + 1))) else (if a0 = 8 then (spec_l1Bits.l0 k1 a0 a1 a2 (wrap64 (x1 + (shl .i64 (Int.tmod (wrap64 ((Int.tmod (shr .i64 t1 (i1)) 2) + (Int.tmod (shr .i64 t2 (i1)) 2))) 2) (i1)))) (wrap64 (x2 + 1))) else (spec_l1Bits.l0 k1 a0 a1 a2 (wrap64 (x1 + (shl .i64 (wrap64 ((Int.tmod (shr .i64 t1 (i1)) 2) * (Int.tmod (shr .i64 t2 (i1)) 2))) (i1)))) (wrap64 (x2 + 1)))))) else (none)) = some r := by first | (rw [j9] at H; exact H) | (simp only [j9] at H ⊢; exact H)
   (try rw [j9] at A1)
   by_cases c2 : 0 ≤ (i1)
   rotate_left
   ·rw [if_neg c2] at H
    exact absurd H (by simp)
   rw [if_pos c2] at H
   have d2 := eq_true c2
   have d3 := dT c2
   clear c2
   obtain ⟨i2, j10⟩ : ∃ j_ : Int, (shr .i64 t1 (i1)) = j_ := ⟨_, rfl⟩
   replace H : ((spec_l1Mod.f a2 4294967296).bind fun t2 => (if a0 = 7 then (spec_l1Bits.l0 k1 a0 a1 a2 (wrap64 (x1 + (shl .i64 (wrap64 ((wrap64 ((Int.tmod (i2) 2) + (Int.tmod (shr .i64 t2 (i1)) 2))) - (wrap64 ((Int.tmod (i2) 2) * (Int.tmod (shr .i64 t2 (i1)) 2))))) (i1)))) (wrap64 (x2 + 1))) else (if a0 = 8 then (spec_l1Bits.l0 k1 a0 a1 a2 (wrap64 (x1 + (shl .i64 (Int.tmod (wrap64 ((Int.tmod (i2) 2) + (Int.tmod (shr .i64 t2 (i1)) 2))) 2) (i1)))) (wrap64 (x2 + 1))) else (spec_l1Bits.l0 k1 a0 a1 a2 (wrap64 (x1 + (shl .i64 (wrap64 ((Int.tmod (i2) 2) * (Int.tmod (shr .i64 t2 (i1)) 2))) (i1)))) (wrap64 (x2 + 1)))))) = some r := by first | (rw [j10] at H; exact H) | (simp only [j10] at H ⊢; exact H)
   (try rw [j10] at A1)
   have hji8_ : (t1 / 2 ^ min (i1).toNat 64) = i2 := j10
   have hji8z : (i1) ≤ 64 → (t1 / 2 ^ (i1).toNat) = i2 := shr_small j10
   obtain ⟨t2, A2, H⟩ := bd H
   try dsimp only at H
   have d4 := eq_true (oz : 0 ≤ (i1))
   obtain ⟨i3, j11⟩ : ∃ j_ : Int, (shr .i64 t2 (i1)) = j_ := ⟨_, rfl⟩
   replace H : (if a0 = 7 then (spec_l1Bits.l0 k1 a0 a1 a2 (wrap64 (x1 + (shl .i64 (wrap64 ((wrap64 ((Int.tmod (i2) 2) + (Int.tmod (i3) 2))) - (wrap64 ((Int.tmod (i2) 2) * (Int.tmod (i3) 2))))) (i1)))) (wrap64 (x2 + 1))) else (if a0 = 8 then (spec_l1Bits.l0 k1 a0 a1 a2 (wrap64 (x1 + (shl .i64 (Int.tmod (wrap64 ((Int.tmod (i2) 2) + (Int.tmod (i3) 2))) 2) (i1)))) (wrap64 (x2 + 1))) else (spec_l1Bits.l0 k1 a0 a1 a2 (wrap64 (x1 + (shl .i64 (wrap64 ((Int.tmod (i2) 2) * (Int.tmod (i3) 2))) (i1)))) (wrap64 (x2 + 1))))) = some r := by first | (rw [j11] at H; exact H) | (simp only [j11] at H ⊢; exact H)
   (try rw [j11] at A1)
   (try rw [j11] at A2)
   have hji11_ : (t2 / 2 ^ min (i1).toNat 64) = i3 := j11
   have hji11z : (i1) ≤ 64 → (t2 / 2 ^ (i1).toNat) = i3 := shr_small j11
   by_cases c3 : a0 = 7
   ·rw [if_pos c3] at H
    have d5 := eT c3
    have d6 := nF c3
    clear c3
    have d7 := eq_true (oz : 0 ≤ (i1))
    obtain ⟨i4, j12⟩ : ∃ j_ : Int, (shl .i64 (wrap64 ((wrap64 ((Int.tmod (i2) 2) + (Int.tmod (i3) 2))) - (wrap64 ((Int.tmod (i2) 2) * (Int.tmod (i3) 2))))) (i1)) = j_ := ⟨_, rfl⟩
    replace H : (spec_l1Bits.l0 k1 a0 a1 a2 (wrap64 (x1 + (i4))) (wrap64 (x2 + 1))) = some r := by first | (rw [j12] at H; exact H) | (simp only [j12] at H ⊢; exact H)
    (try rw [j12] at A1)
    (try rw [j12] at A2)
    have hji14_ : (IntKind.i64.wrap ((wrap64 ((wrap64 ((Int.tmod (i2) 2) + (Int.tmod (i3) 2))) - (wrap64 ((Int.tmod (i2) 2) * (Int.tmod (i3) 2))))) * 2 ^ min (i1).toNat 64)) = i4 := j12
    have hji14z : (i1) ≤ 64 → (IntKind.i64.wrap ((wrap64 ((wrap64 ((Int.tmod (i2) 2) + (Int.tmod (i3) 2))) - (wrap64 ((Int.tmod (i2) 2) * (Int.tmod (i3) 2))))) * 2 ^ (i1).toNat)) = i4 := shl_small j12
    have hji14y : (wrap64 ((wrap64 ((wrap64 ((Int.tmod (i2) 2) + (Int.tmod (i3) 2))) - (wrap64 ((Int.tmod (i2) 2) * (Int.tmod (i3) 2))))) * 2 ^ min (i1).toNat 64)) = i4 := (i64_w _).symm.trans hji14_
    have hji14x : (i1) ≤ 64 → (wrap64 ((wrap64 ((wrap64 ((Int.tmod (i2) 2) + (Int.tmod (i3) 2))) - (wrap64 ((Int.tmod (i2) 2) * (Int.tmod (i3) 2))))) * 2 ^ (i1).toNat)) = i4 := fun h_ => (i64_w _).symm.trans (hji14z h_)
    have H' := am H
    clear H
    go_wp2_with (first | ((with_reducible refine gate_callee (f := 100) rfl ?_); refine goesL_ (some 17) rfl rfl Try.func100 (by kernel_rfl) rfl #[.int .i64 a1, .int .i64 4294967296] rfl mz ?_; (with_reducible refine (spec_l1Mod.calls _ _ _ _ A1.out).mono ?_); rintro e w' ⟨rfl, ⟨nd, rfl⟩⟩; refine ⟨_, rfl, ?_⟩) | ((with_reducible refine gate_callee (f := 100) rfl ?_); refine goesL_ (some 23) rfl rfl Try.func100 (by kernel_rfl) rfl #[.int .i64 a2, .int .i64 4294967296] rfl mz ?_; (with_reducible refine (spec_l1Mod.calls _ _ _ _ A2.out).mono ?_); rintro e w' ⟨rfl, ⟨nd, rfl⟩⟩; refine ⟨_, rfl, ?_⟩))
    go_roundg k1
    case measure => have := HK1.out; omega
    case rel => exact ⟨(wrap64 (x1 + (i4))), (wrap64 (x2 + 1)), (by first | rfl | (simp; done) | (simp only [← j12] <;> (first | rfl | simp)) | (simp [*]; done)), ey, H', ⟨by have := HK1.out; omega⟩, by repeat (first | exact Drawn0.refl _ | apply Drawn0.step)⟩
   rw [if_neg c3] at H
   have d5 := eF c3
   have d6 := nT c3
   by_cases c4 : a0 = 8
   rotate_left
   ·rw [if_neg c4] at H
    have d7 := eF c4
    have d8 := nT c4
    have d9 := eq_true (oz : 0 ≤ (i1))
    obtain ⟨i4, j12⟩ : ∃ j_ : Int, (shl .i64 (wrap64 ((Int.tmod (i2) 2) * (Int.tmod (i3) 2))) (i1)) = j_ := ⟨_, rfl⟩
    replace H : (spec_l1Bits.l0 k1 a0 a1 a2 (wrap64 (x1 + (i4))) (wrap64 (x2 + 1))) = some r := by first | (rw [j12] at H; exact H) | (simp only [j12] at H ⊢; exact H)
    (try rw [j12] at A1)
    (try rw [j12] at A2)
    have hji19_ : (IntKind.i64.wrap ((wrap64 ((Int.tmod (i2) 2) * (Int.tmod (i3) 2))) * 2 ^ min (i1).toNat 64)) = i4 := j12
    have hji19z : (i1) ≤ 64 → (IntKind.i64.wrap ((wrap64 ((Int.tmod (i2) 2) * (Int.tmod (i3) 2))) * 2 ^ (i1).toNat)) = i4 := shl_small j12
    have hji19y : (wrap64 ((wrap64 ((Int.tmod (i2) 2) * (Int.tmod (i3) 2))) * 2 ^ min (i1).toNat 64)) = i4 := (i64_w _).symm.trans hji19_
    have hji19x : (i1) ≤ 64 → (wrap64 ((wrap64 ((Int.tmod (i2) 2) * (Int.tmod (i3) 2))) * 2 ^ (i1).toNat)) = i4 := fun h_ => (i64_w _).symm.trans (hji19z h_)
    have H' := am H
    clear H
    go_wp2_with (first | ((with_reducible refine gate_callee (f := 100) rfl ?_); refine goesL_ (some 17) rfl rfl Try.func100 (by kernel_rfl) rfl #[.int .i64 a1, .int .i64 4294967296] rfl mz ?_; (with_reducible refine (spec_l1Mod.calls _ _ _ _ A1.out).mono ?_); rintro e w' ⟨rfl, ⟨nd, rfl⟩⟩; refine ⟨_, rfl, ?_⟩) | ((with_reducible refine gate_callee (f := 100) rfl ?_); refine goesL_ (some 23) rfl rfl Try.func100 (by kernel_rfl) rfl #[.int .i64 a2, .int .i64 4294967296] rfl mz ?_; (with_reducible refine (spec_l1Mod.calls _ _ _ _ A2.out).mono ?_); rintro e w' ⟨rfl, ⟨nd, rfl⟩⟩; refine ⟨_, rfl, ?_⟩))
    go_roundg k1
    case measure => have := HK1.out; omega
    case rel => exact ⟨(wrap64 (x1 + (i4))), (wrap64 (x2 + 1)), (by first | rfl | (simp; done) | (simp only [← j12] <;> (first | rfl | simp)) | (simp [*]; done)), ey, H', ⟨by have := HK1.out; omega⟩, by repeat (first | exact Drawn0.refl _ | apply Drawn0.step)⟩
   rw [if_pos c4] at H
   have d7 := eT c4
   have d8 := nF c4
   clear c4
   have d9 := eq_true (oz : 0 ≤ (i1))
   obtain ⟨i4, j12⟩ : ∃ j_ : Int, (shl .i64 (Int.tmod (wrap64 ((Int.tmod (i2) 2) + (Int.tmod (i3) 2))) 2) (i1)) = j_ := ⟨_, rfl⟩
   replace H : (spec_l1Bits.l0 k1 a0 a1 a2 (wrap64 (x1 + (i4))) (wrap64 (x2 + 1))) = some r := by first | (rw [j12] at H; exact H) | (simp only [j12] at H ⊢; exact H)
   (try rw [j12] at A1)
   (try rw [j12] at A2)
   have hji17_ : (IntKind.i64.wrap ((Int.tmod (wrap64 ((Int.tmod (i2) 2) + (Int.tmod (i3) 2))) 2) * 2 ^ min (i1).toNat 64)) = i4 := j12
   have hji17z : (i1) ≤ 64 → (IntKind.i64.wrap ((Int.tmod (wrap64 ((Int.tmod (i2) 2) + (Int.tmod (i3) 2))) 2) * 2 ^ (i1).toNat)) = i4 := shl_small j12
   have hji17y : (wrap64 ((Int.tmod (wrap64 ((Int.tmod (i2) 2) + (Int.tmod (i3) 2))) 2) * 2 ^ min (i1).toNat 64)) = i4 := (i64_w _).symm.trans hji17_
   have hji17x : (i1) ≤ 64 → (wrap64 ((Int.tmod (wrap64 ((Int.tmod (i2) 2) + (Int.tmod (i3) 2))) 2) * 2 ^ (i1).toNat)) = i4 := fun h_ => (i64_w _).symm.trans (hji17z h_)
   have H' := am H
   clear H
   go_wp2_with (first | ((with_reducible refine gate_callee (f := 100) rfl ?_); refine goesL_ (some 17) rfl rfl Try.func100 (by kernel_rfl) rfl #[.int .i64 a1, .int .i64 4294967296] rfl mz ?_; (with_reducible refine (spec_l1Mod.calls _ _ _ _ A1.out).mono ?_); rintro e w' ⟨rfl, ⟨nd, rfl⟩⟩; refine ⟨_, rfl, ?_⟩) | ((with_reducible refine gate_callee (f := 100) rfl ?_); refine goesL_ (some 23) rfl rfl Try.func100 (by kernel_rfl) rfl #[.int .i64 a2, .int .i64 4294967296] rfl mz ?_; (with_reducible refine (spec_l1Mod.calls _ _ _ _ A2.out).mono ?_); rintro e w' ⟨rfl, ⟨nd, rfl⟩⟩; refine ⟨_, rfl, ?_⟩))
   go_roundg k1
   case measure => have := HK1.out; omega
   case rel => exact ⟨(wrap64 (x1 + (i4))), (wrap64 (x2 + 1)), (by first | rfl | (simp; done) | (simp only [← j12] <;> (first | rfl | simp)) | (simp [*]; done)), ey, H', ⟨by have := HK1.out; omega⟩, by repeat (first | exact Drawn0.refl _ | apply Drawn0.step)⟩

def spec_l1Power.l0 : Nat → Int → Int → Int → Option (Int)
 | 0, _, _, _ => none
 | k + 1, x1, x2, x3 => if x3 < x1 then (spec_l1Power.l0 k x1 (wrap64 (2 * x2)) (wrap64 (x3 + 1))) else (some x2)
def spec_l1Power.f (k : Nat) (a0 : Int) : Option (Int) := spec_l1Power.l0 k a0 1 0
theorem spec_l1Power.mono_l : ∀ k, (∀ y0 y1 y2, LeO (spec_l1Power.l0 k y0 y1 y2) (spec_l1Power.l0 (k + 1) y0 y1 y2))
 | 0 => fun _ _ _ r h => by simp [spec_l1Power.l0] at h
 | k + 1 => by
  have ih0 := spec_l1Power.mono_l k
  ·intro y0 y1 y2
   unfold spec_l1Power.l0
   repeat' first | (with_reducible first | apply ih0 | apply LeO.refl | apply LeO.none | refine LeO.ite ?_ ?_ | refine LeO.bind ?_ (fun _ => ?_)) | apply ih0 | apply LeO.none | refine LeO.ite ?_ ?_ | refine LeO.bind ?_ (fun _ => ?_)
theorem spec_l1Power.mono : ∀ a0 k, LeO (spec_l1Power.f k a0) (spec_l1Power.f (k + 1) a0) := by
 intro a0 k
 have ih0 := spec_l1Power.mono_l k
 unfold spec_l1Power.f
 repeat' first | (with_reducible first | apply ih0 | apply LeO.refl | apply LeO.none | refine LeO.ite ?_ ?_ | refine LeO.bind ?_ (fun _ => ?_)) | apply ih0 | apply LeO.none | refine LeO.ite ?_ ?_ | refine LeO.bind ?_ (fun _ => ?_)
set_option maxHeartbeats 8000000 in
set_option maxRecDepth 100000 in
theorem spec_l1Power.calls (k : Nat) (a0 : Int) (r : Int) (w : World) (h : spec_l1Power.f k a0 = some r) :
  Calls Try.prog 98 #[.int .i64 a0] w fun e w' => e = .returned (.int .i64 r) ∧ Drawn0 w w' := by
 have H : (spec_l1Power.l0 k a0 1 0) = some r := h
 clear h
 have H' := am H
 clear H
 go_enter Try.func98, Try.ntmps98
 go_wp2
 go_loopg [3, 4] k (fun kq v1 v2 w' => ∃ (x1 : Int) (x2 : Int), v1 = .int .i64 x1 ∧ v2 = .int .i64 x2 ∧ Aside0 (spec_l1Power.l0 kq a0 x1 x2 = some r) ∧ Aside0 (kq ≤ k) ∧ Drawn0 w w')
 case atStart => exact ⟨(1), (0), ey, ey, H', ⟨Nat.le_refl _⟩, by repeat (first | exact Drawn0.refl _ | apply Drawn0.step)⟩
 case round =>
  clear H'
  obtain ⟨x1, x2, rfl, rfl, HA, HK1, ⟨m1, rfl⟩⟩ := hrel
  cases gk with
  | zero => exact absurd HA.out (by simp [spec_l1Power.l0])
  | succ k1 =>
   have H := HA.out
   clear HA
   simp only [spec_l1Power.l0] at H
   by_cases c1 : x2 < a0
   rotate_left
   ·rw [if_neg c1] at H
    have d1 := dF c1
    clear c1
    obtain rfl := Option.some.inj H
    go_wp2
    go_ret
    exact ⟨by first | rfl | (simp; done) | (simp [*]; done), by repeat (first | exact Drawn0.refl _ | apply Drawn0.step)⟩
   rw [if_pos c1] at H
   have d1 := dT c1
   clear c1
   have H' := am H
   clear H
   go_wp2
   go_roundg k1
   case measure => have := HK1.out; omega
   case rel => exact ⟨(wrap64 (2 * x1)), (wrap64 (x2 + 1)), ey, ey, H', ⟨by have := HK1.out; omega⟩, by repeat (first | exact Drawn0.refl _ | apply Drawn0.step)⟩

def spec_l1Floor.f (a0 : Int) (a1 : Int) : Option (Int) := (spec_l1Mod.f a0 a1).bind fun t1 => (if a1 = 0 then (none) else (some (wrap64 (Int.tdiv (wrap64 (a0 - t1)) a1))))
set_option maxHeartbeats 8000000 in
set_option maxRecDepth 100000 in
theorem spec_l1Floor.calls (a0 : Int) (a1 : Int) (r : Int) (w : World) (h : spec_l1Floor.f a0 a1 = some r) :
  Calls Try.prog 99 #[.int .i64 a0, .int .i64 a1] w fun e w' => e = .returned (.int .i64 r) ∧ Drawn0 w w' := by
 have H : ((spec_l1Mod.f a0 a1).bind fun t1 => (if a1 = 0 then (none) else (some (wrap64 (Int.tdiv (wrap64 (a0 - t1)) a1))))) = some r := h
 clear h
 obtain ⟨t1, A1, H⟩ := bd H
 try dsimp only at H
 by_cases c1 : a1 = 0
 ·rw [if_pos c1] at H
  exact absurd H (by simp)
 rw [if_neg c1] at H
 have d1 := eF c1
 have d2 := nT c1
 obtain rfl := Option.some.inj H
 go_enter Try.func99, Try.ntmps99
 go_wp2_with (first | ((with_reducible refine gate_callee (f := 100) rfl ?_); refine goesL_ (some 8) rfl rfl Try.func100 (by kernel_rfl) rfl #[.int .i64 a0, .int .i64 a1] rfl mz ?_; (with_reducible refine (spec_l1Mod.calls _ _ _ _ A1.out).mono ?_); rintro e w' ⟨rfl, ⟨nd, rfl⟩⟩; refine ⟨_, rfl, ?_⟩))
 go_ret
 exact ⟨by first | rfl | (simp; done) | (simp [*]; done), by repeat (first | exact Drawn0.refl _ | apply Drawn0.step)⟩

mutual
def spec_l1Exact.j0 : Nat → Int → Int → Int → Bool → Option (Int)
 | 0, _, _, _, _ => none
 | k + 1, x1, x2, x3, x4 => if x4 = true then (some (wrap64 (x2 + x3))) else (if x1 = 2 then (spec_l1Exact.j1 k x1 x2 x3 true) else (spec_l1Exact.j1 k x1 x2 x3 (x1 == 12)))
def spec_l1Exact.j1 : Nat → Int → Int → Int → Bool → Option (Int)
 | 0, _, _, _, _ => none
 | k + 1, x1, x2, x3, x4 => if x4 = true then (some (wrap64 (x2 - x3))) else (if x1 = 3 then (spec_l1Exact.j2 k x1 x2 x3 true) else (spec_l1Exact.j2 k x1 x2 x3 (x1 == 13)))
def spec_l1Exact.j2 : Nat → Int → Int → Int → Bool → Option (Int)
 | 0, _, _, _, _ => none
 | k + 1, x1, x2, x3, x4 => if x4 = true then (some (wrap64 (x2 * x3))) else (if x1 = 4 then (if x3 = 0 then (none) else (some (wrap64 (Int.tdiv x2 x3)))) else (if x1 = 5 then (if x3 = 0 then (none) else (some (Int.tmod x2 x3))) else (if x1 = 9 then ((spec_l1Power.f k x3).bind fun t1 => (some (wrap64 (x2 * t1)))) else (if x1 = 10 then ((spec_l1Power.f k x3).bind fun t2 => ((spec_l1Floor.f x2 t2).bind fun t3 => (some t3))) else ((spec_l1Bits.f k x1 x2 x3).bind fun t4 => (some t4))))))
end
def spec_l1Exact.f (k : Nat) (a0 : Int) (a1 : Int) (a2 : Int) : Option (Int) := if a0 = 1 then (spec_l1Exact.j0 k a0 a1 a2 true) else (spec_l1Exact.j0 k a0 a1 a2 (a0 == 11))
theorem spec_l1Exact.mono_l : ∀ k, (∀ y0 y1 y2 y3, LeO (spec_l1Exact.j0 k y0 y1 y2 y3) (spec_l1Exact.j0 (k + 1) y0 y1 y2 y3)) ∧ (∀ y0 y1 y2 y3, LeO (spec_l1Exact.j1 k y0 y1 y2 y3) (spec_l1Exact.j1 (k + 1) y0 y1 y2 y3)) ∧ (∀ y0 y1 y2 y3, LeO (spec_l1Exact.j2 k y0 y1 y2 y3) (spec_l1Exact.j2 (k + 1) y0 y1 y2 y3))
 | 0 => ⟨fun _ _ _ _ r h => by simp [spec_l1Exact.j0] at h, fun _ _ _ _ r h => by simp [spec_l1Exact.j1] at h, fun _ _ _ _ r h => by simp [spec_l1Exact.j2] at h⟩
 | k + 1 => by
  obtain ⟨ih0, ih1, ih2⟩ := spec_l1Exact.mono_l k
  refine ⟨?_, ?_, ?_⟩ <;> (intros; (first | unfold spec_l1Exact.j0 | unfold spec_l1Exact.j1 | unfold spec_l1Exact.j2); repeat' first | (with_reducible first | apply ih0 | apply ih1 | apply ih2 | apply spec_l1Bits.mono | apply spec_l1Power.mono | apply LeO.refl | apply LeO.none | refine LeO.ite ?_ ?_ | refine LeO.bind ?_ (fun _ => ?_)) | apply ih0 | apply ih1 | apply ih2 | apply spec_l1Bits.mono | apply spec_l1Power.mono | apply LeO.none | refine LeO.ite ?_ ?_ | refine LeO.bind ?_ (fun _ => ?_))
theorem spec_l1Exact.mono : ∀ a0 a1 a2 k, LeO (spec_l1Exact.f k a0 a1 a2) (spec_l1Exact.f (k + 1) a0 a1 a2) := by
 intro a0 a1 a2 k
 obtain ⟨ih0, ih1, ih2⟩ := spec_l1Exact.mono_l k
 unfold spec_l1Exact.f
 repeat' first | (with_reducible first | apply ih0 | apply ih1 | apply ih2 | apply spec_l1Bits.mono | apply spec_l1Power.mono | apply LeO.refl | apply LeO.none | refine LeO.ite ?_ ?_ | refine LeO.bind ?_ (fun _ => ?_)) | apply ih0 | apply ih1 | apply ih2 | apply spec_l1Bits.mono | apply spec_l1Power.mono | apply LeO.none | refine LeO.ite ?_ ?_ | refine LeO.bind ?_ (fun _ => ?_)
set_option maxHeartbeats 8000000 in
set_option maxRecDepth 100000 in
theorem spec_l1Exact.calls (k : Nat) (a0 : Int) (a1 : Int) (a2 : Int) (r : Int) (w : World) (h : spec_l1Exact.f k a0 a1 a2 = some r) :
  Calls Try.prog 63 #[.int .i64 a0, .int .i64 a1, .int .i64 a2] w fun e w' => e = .returned (.int .i64 r) ∧ Drawn0 w w' := by
 have H : (if a0 = 1 then (spec_l1Exact.j0 k a0 a1 a2 true) else (spec_l1Exact.j0 k a0 a1 a2 (a0 == 11))) = some r := h
 clear h
 have C1 := am H
 clear H
 go_enter Try.func63, Try.ntmps63
 go_upto_region 1 with (fail)
 go_cut [12] (fun v1 wc => ∃ (kq : Nat) (x1 : Bool), v1 = .bool x1 ∧ Aside0 (spec_l1Exact.j0 kq a0 a1 a2 x1 = some r) ∧ Aside0 (kq ≤ k) ∧ Drawn0 w wc)
 case first =>
  have H := C1.out
  clear C1
  by_cases c1 : a0 = 1
  rotate_left
  ·rw [if_neg c1] at H
   have d1 := eF c1
   have d2 := nT c1
   (first | rw [d1] | (simp only [i64_w, i32_w]; rw [d1]) | skip)
   have H' := am H
   clear H
   go_wp2
   go_meet
   case rel => exact ⟨_, ((a0 == 11)), ey, H', le0, by repeat (first | exact Drawn0.refl _ | apply Drawn0.step)⟩
  rw [if_pos c1] at H
  have d1 := eT c1
  have d2 := nF c1
  clear c1
  (first | rw [d1] | (simp only [i64_w, i32_w]; rw [d1]) | skip)
  have H' := am H
  clear H
  go_wp2
  go_meet
  case rel => exact ⟨_, (true), ey, H', le0, by repeat (first | exact Drawn0.refl _ | apply Drawn0.step)⟩
 case rest =>
  clear C1
  obtain ⟨kq, x1, rfl, HA, J1, ⟨mc3, rfl⟩⟩ := hcut
  cases kq with
  | zero => exact absurd HA.out (by simp [spec_l1Exact.j0])
  | succ k1 =>
   have H := HA.out
   clear HA
   simp only [spec_l1Exact.j0] at H
   by_cases c1 : x1 = true
   ·subst c1
    rw [if_pos rfl] at H
    obtain rfl := Option.some.inj H
    go_wp2
    go_ret
    exact ⟨by first | rfl | (simp; done) | (simp [*]; done), by repeat (first | exact Drawn0.refl _ | apply Drawn0.step)⟩
   replace c1 := Bool.eq_false_iff.mpr c1
   subst c1
   rw [if_neg ff] at H
   have C2 := am H
   clear H
   go_upto_region 3 with (fail)
   go_cut [21] (fun v2 wc => ∃ (kq : Nat) (x2 : Bool), v2 = .bool x2 ∧ Aside0 (spec_l1Exact.j1 kq a0 a1 a2 x2 = some r) ∧ Aside0 (kq ≤ k1) ∧ Drawn0 w wc)
   case first =>
    have H := C2.out
    clear C2
    by_cases c2 : a0 = 2
    rotate_left
    ·rw [if_neg c2] at H
     have d1 := eF c2
     have d2 := nT c2
     (first | rw [d1] | (simp only [i64_w, i32_w]; rw [d1]) | skip)
     have H' := am H
     clear H
     go_wp2
     go_meet
     case rel => exact ⟨_, ((a0 == 12)), ey, H', le1 J1, by repeat (first | exact Drawn0.refl _ | apply Drawn0.step)⟩
    rw [if_pos c2] at H
    have d1 := eT c2
    have d2 := nF c2
    clear c2
    (first | rw [d1] | (simp only [i64_w, i32_w]; rw [d1]) | skip)
    have H' := am H
    clear H
    go_wp2
    go_meet
    case rel => exact ⟨_, (true), ey, H', le1 J1, by repeat (first | exact Drawn0.refl _ | apply Drawn0.step)⟩
   case rest =>
    clear C2
    try clear c1
    obtain ⟨kq, x2, rfl, HA, J2, ⟨mc6, rfl⟩⟩ := hcut
    cases kq with
    | zero => exact absurd HA.out (by simp [spec_l1Exact.j1])
    | succ k2 =>
     have H := HA.out
     clear HA
     simp only [spec_l1Exact.j1] at H
     by_cases c2 : x2 = true
     ·subst c2
      rw [if_pos rfl] at H
      obtain rfl := Option.some.inj H
      go_wp2
      go_ret
      exact ⟨by first | rfl | (simp; done) | (simp [*]; done), by repeat (first | exact Drawn0.refl _ | apply Drawn0.step)⟩
     replace c2 := Bool.eq_false_iff.mpr c2
     subst c2
     rw [if_neg ff] at H
     have C3 := am H
     clear H
     go_upto_region 5 with (fail)
     go_cut [30] (fun v3 wc => ∃ (kq : Nat) (x3 : Bool), v3 = .bool x3 ∧ Aside0 (spec_l1Exact.j2 kq a0 a1 a2 x3 = some r) ∧ Aside0 (kq ≤ k2) ∧ Drawn0 w wc)
     case first =>
      have H := C3.out
      clear C3
      by_cases c3 : a0 = 3
      rotate_left
      ·rw [if_neg c3] at H
       have d1 := eF c3
       have d2 := nT c3
       (first | rw [d1] | (simp only [i64_w, i32_w]; rw [d1]) | skip)
       have H' := am H
       clear H
       go_wp2
       go_meet
       case rel => exact ⟨_, ((a0 == 13)), ey, H', ⟨by have := J1.out; have := J2.out; first | omega | exact Nat.le_refl _⟩, by repeat (first | exact Drawn0.refl _ | apply Drawn0.step)⟩
      rw [if_pos c3] at H
      have d1 := eT c3
      have d2 := nF c3
      clear c3
      (first | rw [d1] | (simp only [i64_w, i32_w]; rw [d1]) | skip)
      have H' := am H
      clear H
      go_wp2
      go_meet
      case rel => exact ⟨_, (true), ey, H', ⟨by have := J1.out; have := J2.out; first | omega | exact Nat.le_refl _⟩, by repeat (first | exact Drawn0.refl _ | apply Drawn0.step)⟩
     case rest =>
      clear C3
      try clear c2
      obtain ⟨kq, x3, rfl, HA, J3, ⟨mc9, rfl⟩⟩ := hcut
      cases kq with
      | zero => exact absurd HA.out (by simp [spec_l1Exact.j2])
      | succ k3 =>
       have H := HA.out
       clear HA
       simp only [spec_l1Exact.j2] at H
       by_cases c3 : x3 = true
       ·subst c3
        rw [if_pos rfl] at H
        obtain rfl := Option.some.inj H
        go_wp2
        go_ret
        exact ⟨by first | rfl | (simp; done) | (simp [*]; done), by repeat (first | exact Drawn0.refl _ | apply Drawn0.step)⟩
       replace c3 := Bool.eq_false_iff.mpr c3
       subst c3
       rw [if_neg ff] at H
       by_cases c4 : a0 = 4
       ·rw [if_pos c4] at H
        have d1 := eT c4
        have d2 := nF c4
        clear c4
        by_cases c5 : a2 = 0
        ·rw [if_pos c5] at H
         exact absurd H (by simp)
        rw [if_neg c5] at H
        have d3 := eF c5
        have d4 := nT c5
        obtain rfl := Option.some.inj H
        go_wp2
        go_ret
        exact ⟨by first | rfl | (simp; done) | (simp [*]; done), by repeat (first | exact Drawn0.refl _ | apply Drawn0.step)⟩
       rw [if_neg c4] at H
       have d1 := eF c4
       have d2 := nT c4
       by_cases c5 : a0 = 5
       ·rw [if_pos c5] at H
        have d3 := eT c5
        have d4 := nF c5
        clear c5
        by_cases c6 : a2 = 0
        ·rw [if_pos c6] at H
         exact absurd H (by simp)
        rw [if_neg c6] at H
        have d5 := eF c6
        have d6 := nT c6
        obtain rfl := Option.some.inj H
        go_wp2
        go_ret
        exact ⟨by first | rfl | (simp; done) | (simp [*]; done), by repeat (first | exact Drawn0.refl _ | apply Drawn0.step)⟩
       rw [if_neg c5] at H
       have d3 := eF c5
       have d4 := nT c5
       by_cases c6 : a0 = 9
       ·rw [if_pos c6] at H
        have d5 := eT c6
        have d6 := nF c6
        clear c6
        obtain ⟨t1, A1, H⟩ := bd H
        try dsimp only at H
        obtain rfl := Option.some.inj H
        go_wp2_with (first | ((with_reducible refine gate_callee (f := 98) rfl ?_); refine goesL_ (some 48) rfl rfl Try.func98 (by kernel_rfl) rfl #[.int .i64 a2] rfl mz ?_; (with_reducible refine (spec_l1Power.calls _ _ _ _ A1.out).mono ?_); rintro e w' ⟨rfl, ⟨nd, rfl⟩⟩; refine ⟨_, rfl, ?_⟩))
        go_ret
        exact ⟨by first | rfl | (simp; done) | (simp [*]; done), by repeat (first | exact Drawn0.refl _ | apply Drawn0.step)⟩
       rw [if_neg c6] at H
       have d5 := eF c6
       have d6 := nT c6
       by_cases c7 : a0 = 10
       rotate_left
       ·rw [if_neg c7] at H
        have d7 := eF c7
        have d8 := nT c7
        obtain ⟨t1, A1, H⟩ := bd H
        try dsimp only at H
        obtain rfl := Option.some.inj H
        go_wp2_with (first | ((with_reducible refine gate_callee (f := 90) rfl ?_); refine goesL_ (some 59) rfl rfl Try.func90 (by kernel_rfl) rfl #[.int .i64 a0, .int .i64 a1, .int .i64 a2] rfl mz ?_; (with_reducible refine (spec_l1Bits.calls _ _ _ _ _ _ A1.out).mono ?_); rintro e w' ⟨rfl, ⟨nd, rfl⟩⟩; refine ⟨_, rfl, ?_⟩))
        go_ret
        exact ⟨by first | rfl | (simp; done) | (simp [*]; done), by repeat (first | exact Drawn0.refl _ | apply Drawn0.step)⟩
       rw [if_pos c7] at H
       have d7 := eT c7
       have d8 := nF c7
       clear c7
       obtain ⟨t1, A1, H⟩ := bd H
       try dsimp only at H
       obtain ⟨t2, A2, H⟩ := bd H
       try dsimp only at H
       obtain rfl := Option.some.inj H
       go_wp2_with (first | ((with_reducible refine gate_callee (f := 98) rfl ?_); refine goesL_ (some 54) rfl rfl Try.func98 (by kernel_rfl) rfl #[.int .i64 a2] rfl mz ?_; (with_reducible refine (spec_l1Power.calls _ _ _ _ A1.out).mono ?_); rintro e w' ⟨rfl, ⟨nd, rfl⟩⟩; refine ⟨_, rfl, ?_⟩) | ((with_reducible refine gate_callee (f := 99) rfl ?_); refine goesL_ (some 55) rfl rfl Try.func99 (by kernel_rfl) rfl #[.int .i64 a1, .int .i64 t1] rfl mz ?_; (with_reducible refine (spec_l1Floor.calls _ _ _ _ A2.out).mono ?_); rintro e w' ⟨rfl, ⟨nd, rfl⟩⟩; refine ⟨_, rfl, ?_⟩))
       go_ret
       exact ⟨by first | rfl | (simp; done) | (simp [*]; done), by repeat (first | exact Drawn0.refl _ | apply Drawn0.step)⟩
end
end Go.Proofs.Ythbkakcchgnhpaa.PFnExactValDo
