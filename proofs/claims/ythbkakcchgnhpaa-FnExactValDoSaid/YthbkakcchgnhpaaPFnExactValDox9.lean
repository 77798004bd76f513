/- Written by this session's own driver (wip/dprint.py): the functions that the law FnExactValDo reaches, as Lean functions, each with its contract. -/
import Derived.Test.YthbkakcchgnhpaaPFnExactValDox0
import Derived.Test.YthbkakcchgnhpaaPFnExactValDox1
import Derived.Test.YthbkakcchgnhpaaPFnExactValDox4
import Derived.Test.YthbkakcchgnhpaaPFnExactValDox5
import Derived.Test.YthbkakcchgnhpaaPFnExactValDox8
import Derived.Test.YthbkakcchgnhpaaSv
namespace Go.Proofs.Ythbkakcchgnhpaa.PFnExactValDo
open Go.RowKit Go.Proofs.YthbkakcchgnhpaaV.PrintWords Go.Proofs.YthbkakcchgnhpaaV.PrintLast Go.Proofs.YthbkakcchgnhpaaV.PrintMore Go.Proofs.YthbkakcchgnhpaaSv
set_option linter.unusedVariables false
set_option linter.unusedSimpArgs false
section
attribute [local go_sem] max2_int min2_int max_two min_two max_three min_three max_four min_four
attribute [local go_sem] Go.Proofs.YthbkakcchgnhpaaSet.isSome_setCell
mutual
def laws_FnExactValDo.j0 : Nat → Int → List Int → List Int → Bool → Int → Int → Int → Int → Int → Int → Int → Int → Int → Int → Int → Int → Option (Bool)
 | 0, _, _, _, _, _, _, _, _, _, _, _, _, _, _, _, _ => none
 | k + 1, x1, x2, x3, x4, x5, x6, x7, x8, x9, x10, x11, x12, x13, x14, x15, x16 => if x4 = true then (none) else ((laws_markIntS.f k x3 1).bind fun u1 => ((laws_heldIntS.f k u1.2 1).bind fun t1 => (if t1 < 0 then (none) else (if t1 = u1.1 then ((laws_toVal.f x5 x6 x7 x8).bind fun u2 => ((laws_toVal.f x9 x10 x11 x12).bind fun u3 => ((impl_ValDo.f k x1 u2.1 u2.2.1 u2.2.2.1 u2.2.2.2 u3.1 u3.2.1 u3.2.2.1 u3.2.2.2).bind fun u4 => ((laws_eqVal.f u4.1 u4.2.1 u4.2.2.1 u4.2.2.2.1 x13 x14 x15 x16).bind fun t2 => (if t2 = true then ((laws_eqIntS.f k u4.2.2.2.2 x2).bind fun t3 => (laws_FnExactValDo.j1 k u1.2 u1.1 (!t3))) else (laws_FnExactValDo.j1 k u1.2 u1.1 true)))))) else (none)))))
def laws_FnExactValDo.j1 : Nat → List Int → Int → Bool → Option (Bool)
 | 0, _, _, _ => none
 | k + 1, x1, x2, x3 => if x3 = true then (none) else ((laws_heldIntS.f k x1 1).bind fun t1 => (if t1 < 0 then (none) else (if t1 = x2 then (some true) else (none))))
end
def laws_FnExactValDo.f (k : Nat) (a0 : Int) (a1_0 : Int) (a1_1 : Int) (a1_2 : Int) (a1_3 : Int) (a2_0 : Int) (a2_1 : Int) (a2_2 : Int) (a2_3 : Int) : Option (Bool) := (laws_toVal.f a1_0 a1_1 a1_2 a1_3).bind fun u1 => ((laws_toVal.f a2_0 a2_1 a2_2 a2_3).bind fun u2 => ((spec_ValDo.f k a0 u1.1 u1.2.1 u1.2.2.1 u1.2.2.2 u2.1 u2.2.1 u2.2.2.1 u2.2.2.2).bind fun u3 => ((laws_toVal.f a1_0 a1_1 a1_2 a1_3).bind fun u4 => ((laws_toVal.f a2_0 a2_1 a2_2 a2_3).bind fun u5 => ((impl_ValDo.f k a0 u4.1 u4.2.1 u4.2.2.1 u4.2.2.2 u5.1 u5.2.1 u5.2.2.1 u5.2.2.2).bind fun u6 => ((laws_eqVal.f u6.1 u6.2.1 u6.2.2.1 u6.2.2.2.1 u3.1 u3.2.1 u3.2.2.1 u3.2.2.2.1).bind fun t1 => (if t1 = true then ((laws_eqIntS.f k u6.2.2.2.2 u3.2.2.2.2).bind fun t2 => (laws_FnExactValDo.j0 k a0 u3.2.2.2.2 u6.2.2.2.2 (!t2) a1_0 a1_1 a1_2 a1_3 a2_0 a2_1 a2_2 a2_3 u3.1 u3.2.1 u3.2.2.1 u3.2.2.2.1)) else (laws_FnExactValDo.j0 k a0 u3.2.2.2.2 u6.2.2.2.2 true a1_0 a1_1 a1_2 a1_3 a2_0 a2_1 a2_2 a2_3 u3.1 u3.2.1 u3.2.2.1 u3.2.2.2.1))))))))
theorem laws_FnExactValDo.mono_l : ∀ k, (∀ y0 y1 y2 y3 y4 y5 y6 y7 y8 y9 y10 y11 y12 y13 y14 y15, LeO (laws_FnExactValDo.j0 k y0 y1 y2 y3 y4 y5 y6 y7 y8 y9 y10 y11 y12 y13 y14 y15) (laws_FnExactValDo.j0 (k + 1) y0 y1 y2 y3 y4 y5 y6 y7 y8 y9 y10 y11 y12 y13 y14 y15)) ∧ (∀ y0 y1 y2, LeO (laws_FnExactValDo.j1 k y0 y1 y2) (laws_FnExactValDo.j1 (k + 1) y0 y1 y2))
 | 0 => ⟨fun _ _ _ _ _ _ _ _ _ _ _ _ _ _ _ _ r h => by simp [laws_FnExactValDo.j0] at h, fun _ _ _ r h => by simp [laws_FnExactValDo.j1] at h⟩
 | k + 1 => by
  obtain ⟨ih0, ih1⟩ := laws_FnExactValDo.mono_l k
  refine ⟨?_, ?_⟩ <;> (intros; (first | unfold laws_FnExactValDo.j0 | unfold laws_FnExactValDo.j1); repeat' first | (with_reducible first | apply ih0 | apply ih1 | apply impl_ValDo.mono | apply laws_eqIntS.mono | apply laws_heldIntS.mono | apply laws_markIntS.mono | apply spec_ValDo.mono | apply LeO.refl | apply LeO.none | refine LeO.ite ?_ ?_ | refine LeO.bind ?_ (fun _ => ?_)) | apply ih0 | apply ih1 | apply impl_ValDo.mono | apply laws_eqIntS.mono | apply laws_heldIntS.mono | apply laws_markIntS.mono | apply spec_ValDo.mono | apply LeO.none | refine LeO.ite ?_ ?_ | refine LeO.bind ?_ (fun _ => ?_))
theorem laws_FnExactValDo.mono : ∀ a0 a1 a2 a3 a4 a5 a6 a7 a8 k, LeO (laws_FnExactValDo.f k a0 a1 a2 a3 a4 a5 a6 a7 a8) (laws_FnExactValDo.f (k + 1) a0 a1 a2 a3 a4 a5 a6 a7 a8) := by
 intro a0 a1 a2 a3 a4 a5 a6 a7 a8 k
 obtain ⟨ih0, ih1⟩ := laws_FnExactValDo.mono_l k
 unfold laws_FnExactValDo.f
 repeat' first | (with_reducible first | apply ih0 | apply ih1 | apply impl_ValDo.mono | apply laws_eqIntS.mono | apply laws_heldIntS.mono | apply laws_markIntS.mono | apply spec_ValDo.mono | apply LeO.refl | apply LeO.none | refine LeO.ite ?_ ?_ | refine LeO.bind ?_ (fun _ => ?_)) | apply ih0 | apply ih1 | apply impl_ValDo.mono | apply laws_eqIntS.mono | apply laws_heldIntS.mono | apply laws_markIntS.mono | apply spec_ValDo.mono | apply LeO.none | refine LeO.ite ?_ ?_ | refine LeO.bind ?_ (fun _ => ?_)
def laws_FnExactValDo.T1 : Bool × List (List Nat × List Nat) := (true, [([], []), ([], []), ([1], [1]), ([], []), ([3, 2], [3]), ([0, 2, 4, 4], [0, 2, 4]), ([5], [5]), ([6], [6]), ([6], [6]), ([], []), ([9, 7, 5, 0, 1, 2, 3, 4, 5, 6, 7, 9], [7, 9]), ([8, 10, 0, 1, 2, 3, 4, 5, 6, 7, 8, 9, 10], [8])])
def laws_FnExactValDo.B1 : List Nat := [0, 0, 2, 0, 14, 31, 63, 127, 127, 0, 767, 2047]
theorem laws_FnExactValDo.tab1 : rtab .any (opsOf Try.f7 1) = laws_FnExactValDo.T1 := by kernel_rfl
theorem laws_FnExactValDo.bits1 : waitsOk laws_FnExactValDo.T1.2 laws_FnExactValDo.B1 = true := by kernel_rfl
def laws_FnExactValDo.T2 : Bool × List (List Nat × List Nat) := (true, [([], []), ([], []), ([1], [1]), ([], []), ([3, 2], [3]), ([0, 2, 4, 4], [0, 2, 4]), ([5], [5]), ([6], [6]), ([6], [6]), ([], []), ([9, 7, 5, 0, 1, 2, 3, 4, 5, 6, 7, 9], [7, 9]), ([8, 10, 0, 1, 2, 3, 4, 5, 6, 7, 8, 9, 10], [8])])
def laws_FnExactValDo.B2 : List Nat := [0, 0, 2, 0, 14, 31, 63, 127, 127, 0, 767, 2047]
theorem laws_FnExactValDo.tab2 : rtab .any (opsOf Try.f7 2) = laws_FnExactValDo.T2 := by kernel_rfl
theorem laws_FnExactValDo.bits2 : waitsOk laws_FnExactValDo.T2.2 laws_FnExactValDo.B2 = true := by kernel_rfl
def laws_FnExactValDo.T13 : Bool × List (List Nat × List Nat) := (true, [([], []), ([], []), ([1], [1]), ([], []), ([3, 2], [3]), ([0, 2, 4, 4], [0, 2, 4]), ([5], [5]), ([6], [6]), ([6], [6]), ([], []), ([9, 7, 5, 0, 1, 2, 3, 4, 5, 6, 7, 9], [7, 9]), ([8, 10, 0, 1, 2, 3, 4, 5, 6, 7, 8, 9, 10], [8])])
def laws_FnExactValDo.B13 : List Nat := [0, 0, 2, 0, 14, 31, 63, 127, 127, 0, 767, 2047]
theorem laws_FnExactValDo.tab13 : rtab .any (opsOf Try.f7 13) = laws_FnExactValDo.T13 := by kernel_rfl
theorem laws_FnExactValDo.bits13 : waitsOk laws_FnExactValDo.T13.2 laws_FnExactValDo.B13 = true := by kernel_rfl
set_option maxHeartbeats 8000000 in
set_option maxRecDepth 100000 in
theorem laws_FnExactValDo.calls (k : Nat) (a0 : Int) (a1_0 : Int) (a1_1 : Int) (a1_2 : Int) (a1_3 : Int) (a2_0 : Int) (a2_1 : Int) (a2_2 : Int) (a2_3 : Int) (r : Bool) (w : World) (h : laws_FnExactValDo.f k a0 a1_0 a1_1 a1_2 a1_3 a2_0 a2_1 a2_2 a2_3 = some r) :
  Calls Try.prog 7 #[.int .i64 a0, .agg #[.int .i64 a1_0, .int .i64 a1_1, .int .i64 a1_2, .int .i64 a1_3], .agg #[.int .i64 a2_0, .int .i64 a2_1, .int .i64 a2_2, .int .i64 a2_3]] w fun e w' => e = .returned (.bool r) ∧ Below w.heap.size w w' := by
 have hu49 := Try.underlying49
 have hu50 := Try.underlying50
 have HB := am (Below.refl w.heap.size w)
 have H : ((laws_toVal.f a1_0 a1_1 a1_2 a1_3).bind fun u1 => ((laws_toVal.f a2_0 a2_1 a2_2 a2_3).bind fun u2 => ((spec_ValDo.f k a0 u1.1 u1.2.1 u1.2.2.1 u1.2.2.2 u2.1 u2.2.1 u2.2.2.1 u2.2.2.2).bind fun u3 => ((laws_toVal.f a1_0 a1_1 a1_2 a1_3).bind fun u4 => ((laws_toVal.f a2_0 a2_1 a2_2 a2_3).bind fun u5 => ((impl_ValDo.f k a0 u4.1 u4.2.1 u4.2.2.1 u4.2.2.2 u5.1 u5.2.1 u5.2.2.1 u5.2.2.2).bind fun u6 => ((laws_eqVal.f u6.1 u6.2.1 u6.2.2.1 u6.2.2.2.1 u3.1 u3.2.1 u3.2.2.1 u3.2.2.2.1).bind fun t1 => (if t1 = true then ((laws_eqIntS.f k u6.2.2.2.2 u3.2.2.2.2).bind fun t2 => (laws_FnExactValDo.j0 k a0 u3.2.2.2.2 u6.2.2.2.2 (!t2) a1_0 a1_1 a1_2 a1_3 a2_0 a2_1 a2_2 a2_3 u3.1 u3.2.1 u3.2.2.1 u3.2.2.2.1)) else (laws_FnExactValDo.j0 k a0 u3.2.2.2.2 u6.2.2.2.2 true a1_0 a1_1 a1_2 a1_3 a2_0 a2_1 a2_2 a2_3 u3.1 u3.2.1 u3.2.2.1 u3.2.2.2.1))))))))) = some r := h
 clear h
 obtain ⟨⟨t3, t4, t5, t6⟩, A1, H⟩ := bd H
 try dsimp only at H
 obtain ⟨⟨t7, t8, t9, t10⟩, A2, H⟩ := bd H
 try dsimp only at H
 obtain ⟨⟨t11, t12, t13, t14, t15⟩, A3, H⟩ := bd H
 try dsimp only at H
 obtain ⟨⟨t16, t17, t18, t19⟩, A4, H⟩ := bd H
 try dsimp only at H
 obtain ⟨⟨t20, t21, t22, t23⟩, A5, H⟩ := bd H
 try dsimp only at H
 obtain ⟨⟨t24, t25, t26, t27, t28⟩, A6, H⟩ := bd H
 try dsimp only at H
 have C1 := am H
 clear H
 go_enter Try.func7, Try.ntmps7
 try go_wp2_with (first | ((with_reducible refine gate_dst (N := 4) rfl ?_); refine bxn 4 #[.int .i64 a1_0, .int .i64 a1_1, .int .i64 a1_2, .int .i64 a1_3] 49 HB fun g1 w2 K1 G1 hg hb => ?_; replace HB := am (below_step (YA HB) hb); clear hb hg) | ((with_reducible refine gate_dst (N := 5) rfl ?_); refine bxn 5 #[.int .i64 a2_0, .int .i64 a2_1, .int .i64 a2_2, .int .i64 a2_3] 49 HB fun g2 w3 K2 G2 hg hb => ?_; obtain ⟨N1,N2⟩ := ne_ hg K1; obtain ⟨K1, HB⟩ := bk1 K1 HB hb; clear hb hg))
 obtain ⟨K1, K2, HB⟩ := dk2 K1 K2 HB
 refine start_ (n := 12) (S := fun w' => w'.cell? ⟨g1, 0, none⟩ = some (.int .i64 a1_0) ∧ w'.cell? ⟨g1, 1, none⟩ = some (.int .i64 a1_1) ∧ w'.cell? ⟨g1, 2, none⟩ = some (.int .i64 a1_2) ∧ w'.cell? ⟨g1, 3, none⟩ = some (.int .i64 a1_3) ∧ w'.cell? ⟨g2, 0, none⟩ = some (.int .i64 a2_0) ∧ w'.cell? ⟨g2, 1, none⟩ = some (.int .i64 a2_1) ∧ w'.cell? ⟨g2, 2, none⟩ = some (.int .i64 a2_2) ∧ w'.cell? ⟨g2, 3, none⟩ = some (.int .i64 a2_3)) (ds := []) (lb 12 0) (by kernel_rfl) rfl rfl ⟨bc K1 0, bc K1 1, bc K1 2, bc K1 3, bc K2 0, bc K2 1, bc K2 2, bc K2 3⟩ (fun hHeld => ?_); refine with_tabW laws_FnExactValDo.tab1 laws_FnExactValDo.bits1 (fun HT_ HW_ => ?_)
 generalize w3.drew = w4 at K1 K2 HB hHeld ⊢
 refine pk 0 16 1 ?_
 refine tk 1 17 3 hHeld ?_
 refine tk 3 19 11 hHeld ?_
 refine join_ (σ := Value × Nat) 2 (lb 12 1023) (fun s_ => [(18, .agg #[.int .i64 t3, .int .i64 t4, .int .i64 t5, .int .i64 t6]), (20, .agg #[.int .i64 t7, .int .i64 t8, .int .i64 t9, .int .i64 t10]), (21, .tuple #[.agg #[.int .i64 t11, .int .i64 t12, .int .i64 t13, .int .i64 t14], s_.1]), (7, .pointer (some ⟨s_.2, 0, none⟩)), (15, .tuple #[.agg #[.int .i64 t11, .int .i64 t12, .int .i64 t13, .int .i64 t14], s_.1]), (22, .agg #[.int .i64 t11, .int .i64 t12, .int .i64 t13, .int .i64 t14]), (23, s_.1)]) (fun s_ w' => (w'.cell? ⟨g1, 0, none⟩ = some (.int .i64 a1_0) ∧ w'.cell? ⟨g1, 1, none⟩ = some (.int .i64 a1_1) ∧ w'.cell? ⟨g1, 2, none⟩ = some (.int .i64 a1_2) ∧ w'.cell? ⟨g1, 3, none⟩ = some (.int .i64 a1_3) ∧ w'.cell? ⟨g2, 0, none⟩ = some (.int .i64 a2_0) ∧ w'.cell? ⟨g2, 1, none⟩ = some (.int .i64 a2_1) ∧ w'.cell? ⟨g2, 2, none⟩ = some (.int .i64 a2_2) ∧ w'.cell? ⟨g2, 3, none⟩ = some (.int .i64 a2_3)) ∧ (Kd.R (Kd.int .i64) 3 w' w.heap.size (fun _ => True) s_.1 t15) ∧ (w'.heap[g1]? = some (.cells #[.int .i64 a1_0, .int .i64 a1_1, .int .i64 a1_2, .int .i64 a1_3] 49 (0, 0))) ∧ (w'.heap[g2]? = some (.cells #[.int .i64 a2_0, .int .i64 a2_1, .int .i64 a2_2, .int .i64 a2_3] 49 (0, 0))) ∧ (w'.heap[s_.2]? = some (.cells #[.int .i64 0, .int .i64 0, .int .i64 0, .int .i64 0] 50 (0, 0))) ∧ (w.heap.size ≤ s_.2) ∧ (w.heap.size ≤ s_.2) ∧ (g1 ≠ s_.2) ∧ (s_.2 ≠ g1) ∧ (g2 ≠ s_.2) ∧ (s_.2 ≠ g2) ∧ (Below w.heap.size w w')) ?_ ?_
 rotate_left
 ·intro hCont
  refine two_ (i := 2) (j := 9) (Ni := some 18) (Nj := some 7) (lb 12 15) (lb 12 523) rfl rfl rfl rfl (two_of HT_.out (by kernel_rfl)) (by decide) (by decide) (fun K hK => ?_) (fun K hK => ?_)
  rotate_left
  ·skip
   refine box_step ?hg (N := 7) ?hd (cs := #[.int .i64 0, .int .i64 0, .int .i64 0, .int .i64 0]) (t := 50) ?hr ?_; (case hd => rfl); (case hg => rfl); (case hr => first | (go_simp; done) | (go_simp; rfl))
   intro g3 hg w5 hbox hb
   have K3 := am (hbox)
   have G3 := am (bs hg (YA HB))
   have G4 := am (bs hg (YA HB))
   obtain ⟨N3,N4⟩ := ne_ hg K1
   obtain ⟨N5,N6⟩ := ne_ hg K2
   obtain ⟨K1, K2, HB⟩ := bk2 K1 K2 HB hb
   clear hb hbox hg
   refine kk hK ⟨bc K1 0, bc K1 1, bc K1 2, bc K1 3, bc K2 0, bc K2 1, bc K2 2, bc K2 3⟩ fun hHeld => ?_
   clear hK K
   refine on 2 (some 18) 527 fun K hK => ?_
   refine ck hK Try.func29 (laws_toVal.calls _ _ _ _ _ _ _ _ _ A1.out) (fun _ b => bk3 K1 K2 K3 HB b) fun w6 Q_ hHeld => ?_
   clear hK K
   obtain ⟨K1, K2, K3, HB⟩ := Q_
   refine on 4 (some 20) 543 fun K hK => ?_
   refine ck hK Try.func29 (laws_toVal.calls _ _ _ _ _ _ _ _ _ A2.out) (fun _ b => bk3 K1 K2 K3 HB b) fun w7 Q_ hHeld => ?_
   clear hK K
   obtain ⟨K1, K2, K3, HB⟩ := Q_
   refine on 5 (some 21) 575 fun K hK => ?_
   refine goes_ Try.func28 (by kernel_rfl) rfl #[.int .i64 a0, .agg #[.int .i64 t3, .int .i64 t4, .int .i64 t5, .int .i64 t6], .agg #[.int .i64 t7, .int .i64 t8, .int .i64 t9, .int .i64 t10]] (by rfl) rfl rfl mz ?_
   with_reducible refine (spec_ValDo.calls _ _ _ _ _ _ _ _ _ _ _ _ _ _ _ _ A3.out).mono ?_
   rintro e w8 ⟨v1, rfl, o1, hb⟩
   refine ⟨_, rfl, ?_⟩
   have O1 := am (Kd.R_lower o1 (below_size (YA HB)))
   obtain ⟨K1, K2, K3, HB⟩ := bk3 K1 K2 K3 HB hb
   clear hb
   (try clear o1)
   refine kk hK ⟨bc K1 0, bc K1 1, bc K1 2, bc K1 3, bc K2 0, bc K2 1, bc K2 2, bc K2 3⟩ fun hHeld => ?_
   clear hK K
   refine pk 6 15 639 ?_
   refine pk 7 22 767 ?_
   refine pk 8 23 1023 ?_
   exact norm_ nz (hCont (v1, g3) _ ⟨hHeld, (RZ O1), (Z K1), (Z K2), (Z K3), G3.out, G4.out, N3.out, N4.out, N5.out, N6.out, (YA HB)⟩)
  skip
  refine ck hK Try.func29 (laws_toVal.calls _ _ _ _ _ _ _ _ _ A1.out) (fun _ b => bk2 K1 K2 HB b) fun w5 Q_ hHeld => ?_
  clear hK K
  obtain ⟨K1, K2, HB⟩ := Q_
  refine two_ (i := 4) (j := 9) (Ni := some 20) (Nj := some 7) (lb 12 31) (lb 12 527) rfl rfl rfl rfl (two_of HT_.out (by kernel_rfl)) (by decide) (by decide) (fun K hK => ?_) (fun K hK => ?_)
  rotate_left
  ·skip
   refine box_step ?hg (N := 7) ?hd (cs := #[.int .i64 0, .int .i64 0, .int .i64 0, .int .i64 0]) (t := 50) ?hr ?_; (case hd => rfl); (case hg => rfl); (case hr => first | (go_simp; done) | (go_simp; rfl))
   intro g3 hg w6 hbox hb
   have K3 := am (hbox)
   have G3 := am (bs hg (YA HB))
   have G4 := am (bs hg (YA HB))
   obtain ⟨N3,N4⟩ := ne_ hg K1
   obtain ⟨N5,N6⟩ := ne_ hg K2
   obtain ⟨K1, K2, HB⟩ := bk2 K1 K2 HB hb
   clear hb hbox hg
   refine kk hK ⟨bc K1 0, bc K1 1, bc K1 2, bc K1 3, bc K2 0, bc K2 1, bc K2 2, bc K2 3⟩ fun hHeld => ?_
   clear hK K
   refine on 4 (some 20) 543 fun K hK => ?_
   refine ck hK Try.func29 (laws_toVal.calls _ _ _ _ _ _ _ _ _ A2.out) (fun _ b => bk3 K1 K2 K3 HB b) fun w7 Q_ hHeld => ?_
   clear hK K
   obtain ⟨K1, K2, K3, HB⟩ := Q_
   refine on 5 (some 21) 575 fun K hK => ?_
   refine goes_ Try.func28 (by kernel_rfl) rfl #[.int .i64 a0, .agg #[.int .i64 t3, .int .i64 t4, .int .i64 t5, .int .i64 t6], .agg #[.int .i64 t7, .int .i64 t8, .int .i64 t9, .int .i64 t10]] (by rfl) rfl rfl mz ?_
   with_reducible refine (spec_ValDo.calls _ _ _ _ _ _ _ _ _ _ _ _ _ _ _ _ A3.out).mono ?_
   rintro e w8 ⟨v1, rfl, o1, hb⟩
   refine ⟨_, rfl, ?_⟩
   have O1 := am (Kd.R_lower o1 (below_size (YA HB)))
   obtain ⟨K1, K2, K3, HB⟩ := bk3 K1 K2 K3 HB hb
   clear hb
   (try clear o1)
   refine kk hK ⟨bc K1 0, bc K1 1, bc K1 2, bc K1 3, bc K2 0, bc K2 1, bc K2 2, bc K2 3⟩ fun hHeld => ?_
   clear hK K
   refine pk 6 15 639 ?_
   refine pk 7 22 767 ?_
   refine pk 8 23 1023 ?_
   exact norm_ nz (hCont (v1, g3) _ ⟨hHeld, (RZ O1), (Z K1), (Z K2), (Z K3), G3.out, G4.out, N3.out, N4.out, N5.out, N6.out, (YA HB)⟩)
  skip
  refine ck hK Try.func29 (laws_toVal.calls _ _ _ _ _ _ _ _ _ A2.out) (fun _ b => bk2 K1 K2 HB b) fun w6 Q_ hHeld => ?_
  clear hK K
  obtain ⟨K1, K2, HB⟩ := Q_
  refine two_ (i := 5) (j := 9) (Ni := some 21) (Nj := some 7) (lb 12 63) (lb 12 543) rfl rfl rfl rfl (two_of HT_.out (by kernel_rfl)) (by decide) (by decide) (fun K hK => ?_) (fun K hK => ?_)
  rotate_left
  ·skip
   refine box_step ?hg (N := 7) ?hd (cs := #[.int .i64 0, .int .i64 0, .int .i64 0, .int .i64 0]) (t := 50) ?hr ?_; (case hd => rfl); (case hg => rfl); (case hr => first | (go_simp; done) | (go_simp; rfl))
   intro g3 hg w7 hbox hb
   have K3 := am (hbox)
   have G3 := am (bs hg (YA HB))
   have G4 := am (bs hg (YA HB))
   obtain ⟨N3,N4⟩ := ne_ hg K1
   obtain ⟨N5,N6⟩ := ne_ hg K2
   obtain ⟨K1, K2, HB⟩ := bk2 K1 K2 HB hb
   clear hb hbox hg
   refine kk hK ⟨bc K1 0, bc K1 1, bc K1 2, bc K1 3, bc K2 0, bc K2 1, bc K2 2, bc K2 3⟩ fun hHeld => ?_
   clear hK K
   refine on 5 (some 21) 575 fun K hK => ?_
   refine goes_ Try.func28 (by kernel_rfl) rfl #[.int .i64 a0, .agg #[.int .i64 t3, .int .i64 t4, .int .i64 t5, .int .i64 t6], .agg #[.int .i64 t7, .int .i64 t8, .int .i64 t9, .int .i64 t10]] (by rfl) rfl rfl mz ?_
   with_reducible refine (spec_ValDo.calls _ _ _ _ _ _ _ _ _ _ _ _ _ _ _ _ A3.out).mono ?_
   rintro e w8 ⟨v1, rfl, o1, hb⟩
   refine ⟨_, rfl, ?_⟩
   have O1 := am (Kd.R_lower o1 (below_size (YA HB)))
   obtain ⟨K1, K2, K3, HB⟩ := bk3 K1 K2 K3 HB hb
   clear hb
   (try clear o1)
   refine kk hK ⟨bc K1 0, bc K1 1, bc K1 2, bc K1 3, bc K2 0, bc K2 1, bc K2 2, bc K2 3⟩ fun hHeld => ?_
   clear hK K
   refine pk 6 15 639 ?_
   refine pk 7 22 767 ?_
   refine pk 8 23 1023 ?_
   exact norm_ nz (hCont (v1, g3) _ ⟨hHeld, (RZ O1), (Z K1), (Z K2), (Z K3), G3.out, G4.out, N3.out, N4.out, N5.out, N6.out, (YA HB)⟩)
  skip
  refine goes_ Try.func28 (by kernel_rfl) rfl #[.int .i64 a0, .agg #[.int .i64 t3, .int .i64 t4, .int .i64 t5, .int .i64 t6], .agg #[.int .i64 t7, .int .i64 t8, .int .i64 t9, .int .i64 t10]] (by rfl) rfl rfl mz ?_
  with_reducible refine (spec_ValDo.calls _ _ _ _ _ _ _ _ _ _ _ _ _ _ _ _ A3.out).mono ?_
  rintro e w7 ⟨v1, rfl, o1, hb⟩
  refine ⟨_, rfl, ?_⟩
  have O1 := am (Kd.R_lower o1 (below_size (YA HB)))
  obtain ⟨K1, K2, HB⟩ := bk2 K1 K2 HB hb
  clear hb
  (try clear o1)
  refine kk hK ⟨bc K1 0, bc K1 1, bc K1 2, bc K1 3, bc K2 0, bc K2 1, bc K2 2, bc K2 3⟩ fun hHeld => ?_
  clear hK K
  refine pk 6 15 127 ?_
  refine pk 7 22 255 ?_
  refine pk 8 23 511 ?_
  refine on 9 (some 7) 1023 fun K hK => ?_
  refine box_step ?hg (N := 7) ?hd (cs := #[.int .i64 0, .int .i64 0, .int .i64 0, .int .i64 0]) (t := 50) ?hr ?_; (case hd => rfl); (case hg => rfl); (case hr => first | (go_simp; done) | (go_simp; rfl))
  intro g3 hg w8 hbox hb
  have K3 := am (hbox)
  have G3 := am (bs hg (YA HB))
  have G4 := am (bs hg (YA HB))
  obtain ⟨N3,N4⟩ := ne_ hg K1
  obtain ⟨N5,N6⟩ := ne_ hg K2
  replace O1 := am (Kd.R_below (RZ O1) hb)
  obtain ⟨K1, K2, HB⟩ := bk2 K1 K2 HB hb
  clear hb hbox hg
  refine kk hK ⟨bc K1 0, bc K1 1, bc K1 2, bc K1 3, bc K2 0, bc K2 1, bc K2 2, bc K2 3⟩ fun hHeld => ?_
  clear hK K
  exact norm_ nz (hCont (v1, g3) _ ⟨hHeld, (RZ O1), (Z K1), (Z K2), (Z K3), G3.out, G4.out, N3.out, N4.out, N5.out, N6.out, (YA HB)⟩)
 rintro ⟨v1, g3⟩ w5 ⟨hS_, h0_, h1_, h2_, h3_, h4_, h5_, h6_, h7_, h8_, h9_, h10_⟩
 have O1 : Aside0 (Kd.R (Kd.int .i64) 3 w5 w.heap.size (fun _ => True) v1 t15) := ⟨h0_⟩
 have K3 : Bx4 w5 g3 0 0 0 0 50 := ⟨h3_⟩
 have G3 : Aside0 (w.heap.size ≤ g3) := ⟨h4_⟩
 have G4 : Aside0 (w.heap.size ≤ g3) := ⟨h5_⟩
 have N3 : Aside0 (g1 ≠ g3) := ⟨h6_⟩
 have N4 : Aside0 (g3 ≠ g1) := ⟨h7_⟩
 have N5 : Aside0 (g2 ≠ g3) := ⟨h8_⟩
 have N6 : Aside0 (g3 ≠ g2) := ⟨h9_⟩
 replace K1 : Bx4 w5 g1 a1_0 a1_1 a1_2 a1_3 49 := ⟨h1_⟩
 replace K2 : Bx4 w5 g2 a2_0 a2_1 a2_2 a2_3 49 := ⟨h2_⟩
 replace HB : Aside0 (Below w.heap.size w w5) := ⟨h10_⟩
 clear h0_ h1_ h2_ h3_ h4_ h5_ h6_ h7_ h8_ h9_ h10_
 have hHeld : w5.cell? ⟨g1, 0, none⟩ = some (.int .i64 a1_0) ∧ w5.cell? ⟨g1, 1, none⟩ = some (.int .i64 a1_1) ∧ w5.cell? ⟨g1, 2, none⟩ = some (.int .i64 a1_2) ∧ w5.cell? ⟨g1, 3, none⟩ = some (.int .i64 a1_3) ∧ w5.cell? ⟨g2, 0, none⟩ = some (.int .i64 a2_0) ∧ w5.cell? ⟨g2, 1, none⟩ = some (.int .i64 a2_1) ∧ w5.cell? ⟨g2, 2, none⟩ = some (.int .i64 a2_2) ∧ w5.cell? ⟨g2, 3, none⟩ = some (.int .i64 a2_3) := hS_
 refine norm_ (a' := ?_) ?_ ?_
 rotate_left
 ·simp only [putAll, Act.put, List.setIfInBounds_toArray, List.set_cons_zero, List.set_cons_succ]
  rfl
 refine on 10 none 2047 fun K hK => ?_
 have s1 : w5.cell? ⟨g3, 0, none⟩ = some (.int .i64 0) := bc K3 0
 have hfs19 := blk_frozen K3.out 0
 have z_ := ns4 N3 N5 N4 N6
 have s2 : w5.cell? ⟨g3, 1, none⟩ = some (.int .i64 0) := bc K3 1
 have hfs20 := blk_frozen K3.out 1
 have z_ := ns4 N3 N5 N4 N6
 have s3 : w5.cell? ⟨g3, 2, none⟩ = some (.int .i64 0) := bc K3 2
 have hfs21 := blk_frozen K3.out 2
 have z_ := ns4 N3 N5 N4 N6
 have s4 : w5.cell? ⟨g3, 3, none⟩ = some (.int .i64 0) := bc K3 3
 have hfs22 := blk_frozen K3.out 3
 have z_ := ns4 N3 N5 N4 N6
 refine skip_ (w1 := ?_) (by rfl) rfl ?_ ?_
 rotate_left
 ·go_simp
  rfl
 refine hK.out _ _ ⟨(cf N3 ((cf N3 ((cf N3 ((cf N3 (hHeld.1)))))))), (cf N3 ((cf N3 ((cf N3 ((cf N3 (hHeld.2.1)))))))), (cf N3 ((cf N3 ((cf N3 ((cf N3 (hHeld.2.2.1)))))))), (cf N3 ((cf N3 ((cf N3 ((cf N3 (hHeld.2.2.2.1)))))))), (cf N5 ((cf N5 ((cf N5 ((cf N5 (hHeld.2.2.2.2.1)))))))), (cf N5 ((cf N5 ((cf N5 ((cf N5 (hHeld.2.2.2.2.2.1)))))))), (cf N5 ((cf N5 ((cf N5 ((cf N5 (hHeld.2.2.2.2.2.2.1)))))))), (cf N5 ((cf N5 ((cf N5 ((cf N5 (hHeld.2.2.2.2.2.2.2))))))))⟩ (fun hHeld => ?_)
 clear hK K
 refine pk 11 8 4095 ?_
 refine done_ (done_of HT_.out (by kernel_rfl)) ?_
 try go_wp2
 have n0_ : Aside0 (Kd.R (Kd.int .i64) 3 ((((w5.setCell ⟨g3, 0, none⟩ (.int .i64 t11)).setCell ⟨g3, 1, none⟩ (.int .i64 t12)).setCell ⟨g3, 2, none⟩ (.int .i64 t13)).setCell ⟨g3, 3, none⟩ (.int .i64 t14)) w.heap.size (fun _ => True) v1 t15) := ⟨by (with_reducible repeat (first | apply Kd.R_alloc | apply Kd.R_drewN | apply Kd.R_drew)); exact Kd.R_mono (Kd.R_far (p := ⟨g3, 3, none⟩) (Kd.R_far (p := ⟨g3, 2, none⟩) (Kd.R_far (p := ⟨g3, 1, none⟩) (Kd.R_far (p := ⟨g3, 0, none⟩) (Kd.R_types O1.out K3.out (by decide)) (fun _ hk => hk.2) (.int .i64 t11)) (fun _ hk => hk.2) (.int .i64 t12)) (fun _ hk => hk.2) (.int .i64 t13)) (fun _ hk => hk.2) (.int .i64 t14)) (fun _ hk => trivial)⟩
 have n1_ : Aside0 (((((w5.setCell ⟨g3, 0, none⟩ (.int .i64 t11)).setCell ⟨g3, 1, none⟩ (.int .i64 t12)).setCell ⟨g3, 2, none⟩ (.int .i64 t13)).setCell ⟨g3, 3, none⟩ (.int .i64 t14)).heap[g1]? = some (.cells #[.int .i64 a1_0, .int .i64 a1_1, .int .i64 a1_2, .int .i64 a1_3] 49 (0, 0))) := ⟨by refine fa N3 ?_; refine fa N3 ?_; refine fa N3 ?_; refine fa N3 ?_; exact Z K1⟩
 have n2_ : Aside0 (((((w5.setCell ⟨g3, 0, none⟩ (.int .i64 t11)).setCell ⟨g3, 1, none⟩ (.int .i64 t12)).setCell ⟨g3, 2, none⟩ (.int .i64 t13)).setCell ⟨g3, 3, none⟩ (.int .i64 t14)).heap[g2]? = some (.cells #[.int .i64 a2_0, .int .i64 a2_1, .int .i64 a2_2, .int .i64 a2_3] 49 (0, 0))) := ⟨by refine fa N5 ?_; refine fa N5 ?_; refine fa N5 ?_; refine fa N5 ?_; exact Z K2⟩
 have n3_ : Aside0 (((((w5.setCell ⟨g3, 0, none⟩ (.int .i64 t11)).setCell ⟨g3, 1, none⟩ (.int .i64 t12)).setCell ⟨g3, 2, none⟩ (.int .i64 t13)).setCell ⟨g3, 3, none⟩ (.int .i64 t14)).heap[g3]? = some (.cells #[.int .i64 t11, .int .i64 t12, .int .i64 t13, .int .i64 t14] 50 (0, 0))) := ⟨by refine pf ?_; refine blk_put (cs := #[.int .i64 t11, .int .i64 t12, .int .i64 t13, .int .i64 0]) ?_ 3 _ rfl; refine pf ?_; refine blk_put (cs := #[.int .i64 t11, .int .i64 t12, .int .i64 0, .int .i64 0]) ?_ 2 _ rfl; refine pf ?_; refine blk_put (cs := #[.int .i64 t11, .int .i64 0, .int .i64 0, .int .i64 0]) ?_ 1 _ rfl; refine pf ?_; refine blk_put (cs := #[.int .i64 0, .int .i64 0, .int .i64 0, .int .i64 0]) ?_ 0 _ rfl; exact Z K3⟩
 have n4_ : Aside0 (Below w.heap.size w ((((w5.setCell ⟨g3, 0, none⟩ (.int .i64 t11)).setCell ⟨g3, 1, none⟩ (.int .i64 t12)).setCell ⟨g3, 2, none⟩ (.int .i64 t13)).setCell ⟨g3, 3, none⟩ (.int .i64 t14))) := ⟨YA HB⟩
 (try clear O1)
 (try clear K1)
 (try clear K2)
 (try clear K3)
 (try clear HB)
 generalize ((((w5.setCell ⟨g3, 0, none⟩ (.int .i64 t11)).setCell ⟨g3, 1, none⟩ (.int .i64 t12)).setCell ⟨g3, 2, none⟩ (.int .i64 t13)).setCell ⟨g3, 3, none⟩ (.int .i64 t14)) = w6 at n0_ n1_ n2_ n3_ n4_ ⊢
 have O1 := n0_
 have K1 := n1_
 have K2 := n2_
 have K3 := n3_
 have HB := n4_
 clear n0_ n1_ n2_ n3_ n4_
 replace O1 := am (Kd.R_drew O1.out)
 obtain ⟨K1, K2, K3, HB⟩ := dk3 K1 K2 K3 HB
 refine start_ (n := 12) (S := fun w' => w'.cell? ⟨g1, 0, none⟩ = some (.int .i64 a1_0) ∧ w'.cell? ⟨g1, 1, none⟩ = some (.int .i64 a1_1) ∧ w'.cell? ⟨g1, 2, none⟩ = some (.int .i64 a1_2) ∧ w'.cell? ⟨g1, 3, none⟩ = some (.int .i64 a1_3) ∧ w'.cell? ⟨g2, 0, none⟩ = some (.int .i64 a2_0) ∧ w'.cell? ⟨g2, 1, none⟩ = some (.int .i64 a2_1) ∧ w'.cell? ⟨g2, 2, none⟩ = some (.int .i64 a2_2) ∧ w'.cell? ⟨g2, 3, none⟩ = some (.int .i64 a2_3)) (ds := []) (lb 12 0) (by kernel_rfl) rfl rfl ⟨bc K1 0, bc K1 1, bc K1 2, bc K1 3, bc K2 0, bc K2 1, bc K2 2, bc K2 3⟩ (fun hHeld => ?_); refine with_tabW laws_FnExactValDo.tab2 laws_FnExactValDo.bits2 (fun HT_ HW_ => ?_)
 generalize w6.drew = w7 at O1 K1 K2 K3 HB hHeld ⊢
 refine pk 0 25 1 ?_
 refine tk 1 26 3 hHeld ?_
 refine tk 3 28 11 hHeld ?_
 refine join_ (σ := Value × Nat) 2 (lb 12 1023) (fun s_ => [(27, .agg #[.int .i64 t16, .int .i64 t17, .int .i64 t18, .int .i64 t19]), (29, .agg #[.int .i64 t20, .int .i64 t21, .int .i64 t22, .int .i64 t23]), (30, .tuple #[.agg #[.int .i64 t24, .int .i64 t25, .int .i64 t26, .int .i64 t27], s_.1]), (9, .pointer (some ⟨s_.2, 0, none⟩)), (24, .tuple #[.agg #[.int .i64 t24, .int .i64 t25, .int .i64 t26, .int .i64 t27], s_.1]), (31, .agg #[.int .i64 t24, .int .i64 t25, .int .i64 t26, .int .i64 t27]), (32, s_.1)]) (fun s_ w' => (w'.cell? ⟨g1, 0, none⟩ = some (.int .i64 a1_0) ∧ w'.cell? ⟨g1, 1, none⟩ = some (.int .i64 a1_1) ∧ w'.cell? ⟨g1, 2, none⟩ = some (.int .i64 a1_2) ∧ w'.cell? ⟨g1, 3, none⟩ = some (.int .i64 a1_3) ∧ w'.cell? ⟨g2, 0, none⟩ = some (.int .i64 a2_0) ∧ w'.cell? ⟨g2, 1, none⟩ = some (.int .i64 a2_1) ∧ w'.cell? ⟨g2, 2, none⟩ = some (.int .i64 a2_2) ∧ w'.cell? ⟨g2, 3, none⟩ = some (.int .i64 a2_3)) ∧ (Kd.R (Kd.int .i64) 3 w' w.heap.size (fun k_ => some k_ ≠ (s_.1 : Value).ownBlock) v1 t15) ∧ (Kd.R (Kd.int .i64) 3 w' w.heap.size (fun k_ => some k_ ≠ (v1 : Value).ownBlock) s_.1 t28) ∧ (w'.heap[g1]? = some (.cells #[.int .i64 a1_0, .int .i64 a1_1, .int .i64 a1_2, .int .i64 a1_3] 49 (0, 0))) ∧ (w'.heap[g2]? = some (.cells #[.int .i64 a2_0, .int .i64 a2_1, .int .i64 a2_2, .int .i64 a2_3] 49 (0, 0))) ∧ (w'.heap[g3]? = some (.cells #[.int .i64 t11, .int .i64 t12, .int .i64 t13, .int .i64 t14] 50 (0, 0))) ∧ (w'.heap[s_.2]? = some (.cells #[.int .i64 0, .int .i64 0, .int .i64 0, .int .i64 0] 50 (0, 0))) ∧ (w.heap.size ≤ s_.2) ∧ (w.heap.size ≤ s_.2) ∧ (g1 ≠ s_.2) ∧ (s_.2 ≠ g1) ∧ (g2 ≠ s_.2) ∧ (s_.2 ≠ g2) ∧ (g3 ≠ s_.2) ∧ (s_.2 ≠ g3) ∧ (Below w.heap.size w w')) ?_ ?_
 rotate_left
 ·intro hCont
  refine two_ (i := 2) (j := 9) (Ni := some 27) (Nj := some 9) (lb 12 15) (lb 12 523) rfl rfl rfl rfl (two_of HT_.out (by kernel_rfl)) (by decide) (by decide) (fun K hK => ?_) (fun K hK => ?_)
  rotate_left
  ·skip
   refine box_step ?hg (N := 9) ?hd (cs := #[.int .i64 0, .int .i64 0, .int .i64 0, .int .i64 0]) (t := 50) ?hr ?_; (case hd => rfl); (case hg => rfl); (case hr => first | (go_simp; done) | (go_simp; rfl))
   intro g4 hg w8 hbox hb
   have K4 := am (hbox)
   have G5 := am (bs hg (YA HB))
   have G6 := am (bs hg (YA HB))
   obtain ⟨N7,N8⟩ := ne_ hg K1
   obtain ⟨N9,N10⟩ := ne_ hg K2
   obtain ⟨N11,N12⟩ := ne_ hg K3
   replace O1 := am (Kd.R_below (RZ O1) hb)
   obtain ⟨K1, K2, K3, HB⟩ := bk3 K1 K2 K3 HB hb
   clear hb hbox hg
   refine kk hK ⟨bc K1 0, bc K1 1, bc K1 2, bc K1 3, bc K2 0, bc K2 1, bc K2 2, bc K2 3⟩ fun hHeld => ?_
   clear hK K
   refine on 2 (some 27) 527 fun K hK => ?_
   refine gq Try.func29 (laws_toVal.calls _ _ _ _ _ _ _ _ _ A4.out) fun w9 hb => ?_
   replace O1 := am (Kd.R_below (RZ O1) hb)
   obtain ⟨K1, K2, K3, K4, HB⟩ := bk4 K1 K2 K3 K4 HB hb
   clear hb
   refine kk hK ⟨bc K1 0, bc K1 1, bc K1 2, bc K1 3, bc K2 0, bc K2 1, bc K2 2, bc K2 3⟩ fun hHeld => ?_
   clear hK K
   refine on 4 (some 29) 543 fun K hK => ?_
   refine gq Try.func29 (laws_toVal.calls _ _ _ _ _ _ _ _ _ A5.out) fun w10 hb => ?_
   replace O1 := am (Kd.R_below (RZ O1) hb)
   obtain ⟨K1, K2, K3, K4, HB⟩ := bk4 K1 K2 K3 K4 HB hb
   clear hb
   refine kk hK ⟨bc K1 0, bc K1 1, bc K1 2, bc K1 3, bc K2 0, bc K2 1, bc K2 2, bc K2 3⟩ fun hHeld => ?_
   clear hK K
   refine on 5 (some 30) 575 fun K hK => ?_
   refine goes_ Try.func30 (by kernel_rfl) rfl #[.int .i64 a0, .agg #[.int .i64 t16, .int .i64 t17, .int .i64 t18, .int .i64 t19], .agg #[.int .i64 t20, .int .i64 t21, .int .i64 t22, .int .i64 t23]] (by rfl) rfl rfl mz ?_
   with_reducible refine (impl_ValDo.calls _ _ _ _ _ _ _ _ _ _ _ _ _ _ _ _ A6.out).mono ?_
   rintro e w11 ⟨v2, rfl, o1, hb⟩
   refine ⟨_, rfl, ?_⟩
   have O2 := am (Kd.R_lower (Kd.R_new' o1 (Kd.R_lt (RZ O1))) (below_size (YA HB)))
   replace O1 := am (Kd.R_elder' (RZ O1) (Kd.R_base o1) hb)
   obtain ⟨K1, K2, K3, K4, HB⟩ := bk4 K1 K2 K3 K4 HB hb
   clear hb
   (try clear o1)
   refine kk hK ⟨bc K1 0, bc K1 1, bc K1 2, bc K1 3, bc K2 0, bc K2 1, bc K2 2, bc K2 3⟩ fun hHeld => ?_
   clear hK K
   refine pk 6 24 639 ?_
   refine pk 7 31 767 ?_
   refine pk 8 32 1023 ?_
   exact norm_ nz (hCont (v2, g4) _ ⟨hHeld, (by (with_reducible repeat (first | apply Kd.R_alloc | apply Kd.R_drewN | apply Kd.R_drew)); exact Kd.R_mono O1.out (fun _ hk => hk.2)), (by (with_reducible repeat (first | apply Kd.R_alloc | apply Kd.R_drewN | apply Kd.R_drew)); exact Kd.R_mono O2.out (fun _ hk => hk.2)), (Z K1), (Z K2), (Z K3), (Z K4), G5.out, G6.out, N7.out, N8.out, N9.out, N10.out, N11.out, N12.out, (YA HB)⟩)
  skip
  refine gq Try.func29 (laws_toVal.calls _ _ _ _ _ _ _ _ _ A4.out) fun w8 hb => ?_
  replace O1 := am (Kd.R_below (RZ O1) hb)
  obtain ⟨K1, K2, K3, HB⟩ := bk3 K1 K2 K3 HB hb
  clear hb
  refine kk hK ⟨bc K1 0, bc K1 1, bc K1 2, bc K1 3, bc K2 0, bc K2 1, bc K2 2, bc K2 3⟩ fun hHeld => ?_
  clear hK K
  refine two_ (i := 4) (j := 9) (Ni := some 29) (Nj := some 9) (lb 12 31) (lb 12 527) rfl rfl rfl rfl (two_of HT_.out (by kernel_rfl)) (by decide) (by decide) (fun K hK => ?_) (fun K hK => ?_)
  rotate_left
  ·skip
   refine box_step ?hg (N := 9) ?hd (cs := #[.int .i64 0, .int .i64 0, .int .i64 0, .int .i64 0]) (t := 50) ?hr ?_; (case hd => rfl); (case hg => rfl); (case hr => first | (go_simp; done) | (go_simp; rfl))
   intro g4 hg w9 hbox hb
   have K4 := am (hbox)
   have G5 := am (bs hg (YA HB))
   have G6 := am (bs hg (YA HB))
   obtain ⟨N7,N8⟩ := ne_ hg K1
   obtain ⟨N9,N10⟩ := ne_ hg K2
   obtain ⟨N11,N12⟩ := ne_ hg K3
   replace O1 := am (Kd.R_below (RZ O1) hb)
   obtain ⟨K1, K2, K3, HB⟩ := bk3 K1 K2 K3 HB hb
   clear hb hbox hg
   refine kk hK ⟨bc K1 0, bc K1 1, bc K1 2, bc K1 3, bc K2 0, bc K2 1, bc K2 2, bc K2 3⟩ fun hHeld => ?_
   clear hK K
   refine on 4 (some 29) 543 fun K hK => ?_
   refine gq Try.func29 (laws_toVal.calls _ _ _ _ _ _ _ _ _ A5.out) fun w10 hb => ?_
   replace O1 := am (Kd.R_below (RZ O1) hb)
   obtain ⟨K1, K2, K3, K4, HB⟩ := bk4 K1 K2 K3 K4 HB hb
   clear hb
   refine kk hK ⟨bc K1 0, bc K1 1, bc K1 2, bc K1 3, bc K2 0, bc K2 1, bc K2 2, bc K2 3⟩ fun hHeld => ?_
   clear hK K
   refine on 5 (some 30) 575 fun K hK => ?_
   refine goes_ Try.func30 (by kernel_rfl) rfl #[.int .i64 a0, .agg #[.int .i64 t16, .int .i64 t17, .int .i64 t18, .int .i64 t19], .agg #[.int .i64 t20, .int .i64 t21, .int .i64 t22, .int .i64 t23]] (by rfl) rfl rfl mz ?_
   with_reducible refine (impl_ValDo.calls _ _ _ _ _ _ _ _ _ _ _ _ _ _ _ _ A6.out).mono ?_
   rintro e w11 ⟨v2, rfl, o1, hb⟩
   refine ⟨_, rfl, ?_⟩
   have O2 := am (Kd.R_lower (Kd.R_new' o1 (Kd.R_lt (RZ O1))) (below_size (YA HB)))
   replace O1 := am (Kd.R_elder' (RZ O1) (Kd.R_base o1) hb)
   obtain ⟨K1, K2, K3, K4, HB⟩ := bk4 K1 K2 K3 K4 HB hb
   clear hb
   (try clear o1)
   refine kk hK ⟨bc K1 0, bc K1 1, bc K1 2, bc K1 3, bc K2 0, bc K2 1, bc K2 2, bc K2 3⟩ fun hHeld => ?_
   clear hK K
   refine pk 6 24 639 ?_
   refine pk 7 31 767 ?_
   refine pk 8 32 1023 ?_
   exact norm_ nz (hCont (v2, g4) _ ⟨hHeld, (by (with_reducible repeat (first | apply Kd.R_alloc | apply Kd.R_drewN | apply Kd.R_drew)); exact Kd.R_mono O1.out (fun _ hk => hk.2)), (by (with_reducible repeat (first | apply Kd.R_alloc | apply Kd.R_drewN | apply Kd.R_drew)); exact Kd.R_mono O2.out (fun _ hk => hk.2)), (Z K1), (Z K2), (Z K3), (Z K4), G5.out, G6.out, N7.out, N8.out, N9.out, N10.out, N11.out, N12.out, (YA HB)⟩)
  skip
  refine gq Try.func29 (laws_toVal.calls _ _ _ _ _ _ _ _ _ A5.out) fun w9 hb => ?_
  replace O1 := am (Kd.R_below (RZ O1) hb)
  obtain ⟨K1, K2, K3, HB⟩ := bk3 K1 K2 K3 HB hb
  clear hb
  refine kk hK ⟨bc K1 0, bc K1 1, bc K1 2, bc K1 3, bc K2 0, bc K2 1, bc K2 2, bc K2 3⟩ fun hHeld => ?_
  clear hK K
  refine two_ (i := 5) (j := 9) (Ni := some 30) (Nj := some 9) (lb 12 63) (lb 12 543) rfl rfl rfl rfl (two_of HT_.out (by kernel_rfl)) (by decide) (by decide) (fun K hK => ?_) (fun K hK => ?_)
  rotate_left
  ·skip
   refine box_step ?hg (N := 9) ?hd (cs := #[.int .i64 0, .int .i64 0, .int .i64 0, .int .i64 0]) (t := 50) ?hr ?_; (case hd => rfl); (case hg => rfl); (case hr => first | (go_simp; done) | (go_simp; rfl))
   intro g4 hg w10 hbox hb
   have K4 := am (hbox)
   have G5 := am (bs hg (YA HB))
   have G6 := am (bs hg (YA HB))
   obtain ⟨N7,N8⟩ := ne_ hg K1
   obtain ⟨N9,N10⟩ := ne_ hg K2
   obtain ⟨N11,N12⟩ := ne_ hg K3
   replace O1 := am (Kd.R_below (RZ O1) hb)
   obtain ⟨K1, K2, K3, HB⟩ := bk3 K1 K2 K3 HB hb
   clear hb hbox hg
   refine kk hK ⟨bc K1 0, bc K1 1, bc K1 2, bc K1 3, bc K2 0, bc K2 1, bc K2 2, bc K2 3⟩ fun hHeld => ?_
   clear hK K
   refine on 5 (some 30) 575 fun K hK => ?_
   refine goes_ Try.func30 (by kernel_rfl) rfl #[.int .i64 a0, .agg #[.int .i64 t16, .int .i64 t17, .int .i64 t18, .int .i64 t19], .agg #[.int .i64 t20, .int .i64 t21, .int .i64 t22, .int .i64 t23]] (by rfl) rfl rfl mz ?_
   with_reducible refine (impl_ValDo.calls _ _ _ _ _ _ _ _ _ _ _ _ _ _ _ _ A6.out).mono ?_
   rintro e w11 ⟨v2, rfl, o1, hb⟩
   refine ⟨_, rfl, ?_⟩
   have O2 := am (Kd.R_lower (Kd.R_new' o1 (Kd.R_lt (RZ O1))) (below_size (YA HB)))
   replace O1 := am (Kd.R_elder' (RZ O1) (Kd.R_base o1) hb)
   obtain ⟨K1, K2, K3, K4, HB⟩ := bk4 K1 K2 K3 K4 HB hb
   clear hb
   (try clear o1)
   refine kk hK ⟨bc K1 0, bc K1 1, bc K1 2, bc K1 3, bc K2 0, bc K2 1, bc K2 2, bc K2 3⟩ fun hHeld => ?_
   clear hK K
   refine pk 6 24 639 ?_
   refine pk 7 31 767 ?_
   refine pk 8 32 1023 ?_
   exact norm_ nz (hCont (v2, g4) _ ⟨hHeld, (by (with_reducible repeat (first | apply Kd.R_alloc | apply Kd.R_drewN | apply Kd.R_drew)); exact Kd.R_mono O1.out (fun _ hk => hk.2)), (by (with_reducible repeat (first | apply Kd.R_alloc | apply Kd.R_drewN | apply Kd.R_drew)); exact Kd.R_mono O2.out (fun _ hk => hk.2)), (Z K1), (Z K2), (Z K3), (Z K4), G5.out, G6.out, N7.out, N8.out, N9.out, N10.out, N11.out, N12.out, (YA HB)⟩)
  skip
  refine goes_ Try.func30 (by kernel_rfl) rfl #[.int .i64 a0, .agg #[.int .i64 t16, .int .i64 t17, .int .i64 t18, .int .i64 t19], .agg #[.int .i64 t20, .int .i64 t21, .int .i64 t22, .int .i64 t23]] (by rfl) rfl rfl mz ?_
  with_reducible refine (impl_ValDo.calls _ _ _ _ _ _ _ _ _ _ _ _ _ _ _ _ A6.out).mono ?_
  rintro e w10 ⟨v2, rfl, o1, hb⟩
  refine ⟨_, rfl, ?_⟩
  have O2 := am (Kd.R_lower (Kd.R_new' o1 (Kd.R_lt (RZ O1))) (below_size (YA HB)))
  replace O1 := am (Kd.R_elder' (RZ O1) (Kd.R_base o1) hb)
  obtain ⟨K1, K2, K3, HB⟩ := bk3 K1 K2 K3 HB hb
  clear hb
  (try clear o1)
  refine kk hK ⟨bc K1 0, bc K1 1, bc K1 2, bc K1 3, bc K2 0, bc K2 1, bc K2 2, bc K2 3⟩ fun hHeld => ?_
  clear hK K
  refine pk 6 24 127 ?_
  refine pk 7 31 255 ?_
  refine pk 8 32 511 ?_
  refine on 9 (some 9) 1023 fun K hK => ?_
  refine box_step ?hg (N := 9) ?hd (cs := #[.int .i64 0, .int .i64 0, .int .i64 0, .int .i64 0]) (t := 50) ?hr ?_; (case hd => rfl); (case hg => rfl); (case hr => first | (go_simp; done) | (go_simp; rfl))
  intro g4 hg w11 hbox hb
  have K4 := am (hbox)
  have G5 := am (bs hg (YA HB))
  have G6 := am (bs hg (YA HB))
  obtain ⟨N7,N8⟩ := ne_ hg K1
  obtain ⟨N9,N10⟩ := ne_ hg K2
  obtain ⟨N11,N12⟩ := ne_ hg K3
  replace O1 := am (Kd.R_below (RZ O1) hb)
  replace O2 := am (Kd.R_below (RZ O2) hb)
  obtain ⟨K1, K2, K3, HB⟩ := bk3 K1 K2 K3 HB hb
  clear hb hbox hg
  refine kk hK ⟨bc K1 0, bc K1 1, bc K1 2, bc K1 3, bc K2 0, bc K2 1, bc K2 2, bc K2 3⟩ fun hHeld => ?_
  clear hK K
  exact norm_ nz (hCont (v2, g4) _ ⟨hHeld, (by (with_reducible repeat (first | apply Kd.R_alloc | apply Kd.R_drewN | apply Kd.R_drew)); exact Kd.R_mono O1.out (fun _ hk => hk.2)), (by (with_reducible repeat (first | apply Kd.R_alloc | apply Kd.R_drewN | apply Kd.R_drew)); exact Kd.R_mono O2.out (fun _ hk => hk.2)), (Z K1), (Z K2), (Z K3), (Z K4), G5.out, G6.out, N7.out, N8.out, N9.out, N10.out, N11.out, N12.out, (YA HB)⟩)
 rintro ⟨v2, g4⟩ w8 ⟨hS_, h0_, h1_, h2_, h3_, h4_, h5_, h6_, h7_, h8_, h9_, h10_, h11_, h12_, h13_, h14_⟩
 have O2 : Aside0 (Kd.R (Kd.int .i64) 3 w8 w.heap.size (fun k_ => some k_ ≠ (v1 : Value).ownBlock) v2 t28) := ⟨h1_⟩
 have K4 : Bx4 w8 g4 0 0 0 0 50 := ⟨h5_⟩
 have G5 : Aside0 (w.heap.size ≤ g4) := ⟨h6_⟩
 have G6 : Aside0 (w.heap.size ≤ g4) := ⟨h7_⟩
 have N7 : Aside0 (g1 ≠ g4) := ⟨h8_⟩
 have N8 : Aside0 (g4 ≠ g1) := ⟨h9_⟩
 have N9 : Aside0 (g2 ≠ g4) := ⟨h10_⟩
 have N10 : Aside0 (g4 ≠ g2) := ⟨h11_⟩
 have N11 : Aside0 (g3 ≠ g4) := ⟨h12_⟩
 have N12 : Aside0 (g4 ≠ g3) := ⟨h13_⟩
 replace O1 : Aside0 (Kd.R (Kd.int .i64) 3 w8 w.heap.size (fun k_ => some k_ ≠ (v2 : Value).ownBlock) v1 t15) := ⟨h0_⟩
 replace K1 : Bx4 w8 g1 a1_0 a1_1 a1_2 a1_3 49 := ⟨h2_⟩
 replace K2 : Bx4 w8 g2 a2_0 a2_1 a2_2 a2_3 49 := ⟨h3_⟩
 replace K3 : Bx4 w8 g3 t11 t12 t13 t14 50 := ⟨h4_⟩
 replace HB : Aside0 (Below w.heap.size w w8) := ⟨h14_⟩
 clear h0_ h1_ h2_ h3_ h4_ h5_ h6_ h7_ h8_ h9_ h10_ h11_ h12_ h13_ h14_
 have hHeld : w8.cell? ⟨g1, 0, none⟩ = some (.int .i64 a1_0) ∧ w8.cell? ⟨g1, 1, none⟩ = some (.int .i64 a1_1) ∧ w8.cell? ⟨g1, 2, none⟩ = some (.int .i64 a1_2) ∧ w8.cell? ⟨g1, 3, none⟩ = some (.int .i64 a1_3) ∧ w8.cell? ⟨g2, 0, none⟩ = some (.int .i64 a2_0) ∧ w8.cell? ⟨g2, 1, none⟩ = some (.int .i64 a2_1) ∧ w8.cell? ⟨g2, 2, none⟩ = some (.int .i64 a2_2) ∧ w8.cell? ⟨g2, 3, none⟩ = some (.int .i64 a2_3) := hS_
 refine norm_ (a' := ?_) ?_ ?_
 rotate_left
 ·simp only [putAll, Act.put, List.setIfInBounds_toArray, List.set_cons_zero, List.set_cons_succ]
  rfl
 refine on 10 none 2047 fun K hK => ?_
 have s5 : w8.cell? ⟨g4, 0, none⟩ = some (.int .i64 0) := bc K4 0
 have hfs30 := blk_frozen K4.out 0
 have z_ := ns6 N7 N9 N11 N8 N10 N12
 have s6 : w8.cell? ⟨g4, 1, none⟩ = some (.int .i64 0) := bc K4 1
 have hfs31 := blk_frozen K4.out 1
 have z_ := ns6 N7 N9 N11 N8 N10 N12
 have s7 : w8.cell? ⟨g4, 2, none⟩ = some (.int .i64 0) := bc K4 2
 have hfs32 := blk_frozen K4.out 2
 have z_ := ns6 N7 N9 N11 N8 N10 N12
 have s8 : w8.cell? ⟨g4, 3, none⟩ = some (.int .i64 0) := bc K4 3
 have hfs33 := blk_frozen K4.out 3
 have z_ := ns6 N7 N9 N11 N8 N10 N12
 refine skip_ (w1 := ?_) (by rfl) rfl ?_ ?_
 rotate_left
 ·go_simp
  rfl
 refine hK.out _ _ ⟨(cf N7 ((cf N7 ((cf N7 ((cf N7 (hHeld.1)))))))), (cf N7 ((cf N7 ((cf N7 ((cf N7 (hHeld.2.1)))))))), (cf N7 ((cf N7 ((cf N7 ((cf N7 (hHeld.2.2.1)))))))), (cf N7 ((cf N7 ((cf N7 ((cf N7 (hHeld.2.2.2.1)))))))), (cf N9 ((cf N9 ((cf N9 ((cf N9 (hHeld.2.2.2.2.1)))))))), (cf N9 ((cf N9 ((cf N9 ((cf N9 (hHeld.2.2.2.2.2.1)))))))), (cf N9 ((cf N9 ((cf N9 ((cf N9 (hHeld.2.2.2.2.2.2.1)))))))), (cf N9 ((cf N9 ((cf N9 ((cf N9 (hHeld.2.2.2.2.2.2.2))))))))⟩ (fun hHeld => ?_)
 clear hK K
 refine pk 11 10 4095 ?_
 refine done_ (done_of HT_.out (by kernel_rfl)) ?_
 go_upto_region 3 with (fail)
 go_cut [42] (fun v3 wc => ∃ (kq : Nat) (x1 : Bool), v3 = .bool x1 ∧ Aside0 (laws_FnExactValDo.j0 kq a0 t15 t28 x1 a1_0 a1_1 a1_2 a1_3 a2_0 a2_1 a2_2 a2_3 t11 t12 t13 t14 = some r) ∧ Aside0 (kq ≤ k) ∧ Aside0 (Kd.R (Kd.int .i64) 3 wc w.heap.size (fun k_ => some k_ ≠ (v2 : Value).ownBlock) v1 t15) ∧ Aside0 (Kd.R (Kd.int .i64) 3 wc w.heap.size (fun k_ => some k_ ≠ (v1 : Value).ownBlock) v2 t28) ∧ Bx4 wc g1 a1_0 a1_1 a1_2 a1_3 49 ∧ Bx4 wc g2 a2_0 a2_1 a2_2 a2_3 49 ∧ Bx4 wc g3 t11 t12 t13 t14 50 ∧ Bx4 wc g4 t24 t25 t26 t27 50 ∧ Aside0 (Below w.heap.size w wc))
 case first =>
  have H := C1.out
  clear C1
  obtain ⟨t1, A7, H⟩ := bd H
  try dsimp only at H
  by_cases c1 : t1 = true
  rotate_left
  ·replace c1 := Bool.eq_false_iff.mpr c1
   subst c1
   rw [if_neg ff] at H
   have H' := am H
   clear H
   have z_ := ns5 N8 N10 N12 N4 N6
   have z_ := cB4 K4
   have z_ := cB4 K3
   go_wp2_with (first | ((with_reducible refine gate_callee (f := 31) rfl ?_); refine gL 35 Try.func31 (laws_eqVal.calls _ _ _ _ _ _ _ _ _ _ A7.out) fun w9 hb => ?_; replace O1 := am (Kd.R_below (by (with_reducible repeat (first | apply Kd.R_alloc | apply Kd.R_drewN | apply Kd.R_drew)); exact (Kd.R_mono (Kd.R_far (p := ⟨g4, 3, none⟩) (Kd.R_far (p := ⟨g4, 2, none⟩) (Kd.R_far (p := ⟨g4, 1, none⟩) (Kd.R_far (p := ⟨g4, 0, none⟩) (Kd.R_types O1.out K4.out (by decide)) (fun _ hk => hk.2) (.int .i64 t24)) (fun _ hk => hk.2) (.int .i64 t25)) (fun _ hk => hk.2) (.int .i64 t26)) (fun _ hk => hk.2) (.int .i64 t27)) (fun _ h_ => h_.1))) hb); replace O2 := am (Kd.R_below (by (with_reducible repeat (first | apply Kd.R_alloc | apply Kd.R_drewN | apply Kd.R_drew)); exact (Kd.R_mono (Kd.R_far (p := ⟨g4, 3, none⟩) (Kd.R_far (p := ⟨g4, 2, none⟩) (Kd.R_far (p := ⟨g4, 1, none⟩) (Kd.R_far (p := ⟨g4, 0, none⟩) (Kd.R_types O2.out K4.out (by decide)) (fun _ hk => hk.2) (.int .i64 t24)) (fun _ hk => hk.2) (.int .i64 t25)) (fun _ hk => hk.2) (.int .i64 t26)) (fun _ hk => hk.2) (.int .i64 t27)) (fun _ h_ => h_.1))) hb); replace K1 := am (blk_below (g := g1) (o := b4 a1_0 a1_1 a1_2 a1_3 49) (by refine fa N7 ?_; refine fa N7 ?_; refine fa N7 ?_; refine fa N7 ?_; exact Z K1) hb); replace K2 := am (blk_below (g := g2) (o := b4 a2_0 a2_1 a2_2 a2_3 49) (by refine fa N9 ?_; refine fa N9 ?_; refine fa N9 ?_; refine fa N9 ?_; exact Z K2) hb); replace K3 := am (blk_below (g := g3) (o := b4 t11 t12 t13 t14 50) (by refine fa N11 ?_; refine fa N11 ?_; refine fa N11 ?_; refine fa N11 ?_; exact Z K3) hb); replace K4 := am (blk_below (g := g4) (o := b4 t24 t25 t26 t27 50) (by refine pf ?_; refine blk_put (cs := #[.int .i64 t24, .int .i64 t25, .int .i64 t26, .int .i64 0]) ?_ 3 _ rfl; refine pf ?_; refine blk_put (cs := #[.int .i64 t24, .int .i64 t25, .int .i64 0, .int .i64 0]) ?_ 2 _ rfl; refine pf ?_; refine blk_put (cs := #[.int .i64 t24, .int .i64 0, .int .i64 0, .int .i64 0]) ?_ 1 _ rfl; refine pf ?_; refine blk_put (cs := #[.int .i64 0, .int .i64 0, .int .i64 0, .int .i64 0]) ?_ 0 _ rfl; exact Z K4) hb); replace HB := am (below_step (YA HB) hb); (try clear hb)))
   go_meet
   case rel => exact ⟨_, (true), ey, H', le0, ⟨by exact RZ O1⟩, ⟨by exact RZ O2⟩, ⟨Z K1⟩, ⟨Z K2⟩, ⟨Z K3⟩, ⟨Z K4⟩, ⟨YA HB⟩⟩
  subst c1
  rw [if_pos rfl] at H
  obtain ⟨t2, A8, H⟩ := bd H
  try dsimp only at H
  have H' := am H
  clear H
  have z_ := ns5 N8 N10 N12 N4 N6
  have z_ := cB4 K4
  have z_ := cB4 K3
  go_wp2_with (first | ((with_reducible refine gate_callee (f := 31) rfl ?_); refine gL 35 Try.func31 (laws_eqVal.calls _ _ _ _ _ _ _ _ _ _ A7.out) fun w9 hb => ?_; replace O1 := am (Kd.R_below (by (with_reducible repeat (first | apply Kd.R_alloc | apply Kd.R_drewN | apply Kd.R_drew)); exact (Kd.R_mono (Kd.R_far (p := ⟨g4, 3, none⟩) (Kd.R_far (p := ⟨g4, 2, none⟩) (Kd.R_far (p := ⟨g4, 1, none⟩) (Kd.R_far (p := ⟨g4, 0, none⟩) (Kd.R_types O1.out K4.out (by decide)) (fun _ hk => hk.2) (.int .i64 t24)) (fun _ hk => hk.2) (.int .i64 t25)) (fun _ hk => hk.2) (.int .i64 t26)) (fun _ hk => hk.2) (.int .i64 t27)) (fun _ h_ => h_.1))) hb); replace O2 := am (Kd.R_below (by (with_reducible repeat (first | apply Kd.R_alloc | apply Kd.R_drewN | apply Kd.R_drew)); exact (Kd.R_mono (Kd.R_far (p := ⟨g4, 3, none⟩) (Kd.R_far (p := ⟨g4, 2, none⟩) (Kd.R_far (p := ⟨g4, 1, none⟩) (Kd.R_far (p := ⟨g4, 0, none⟩) (Kd.R_types O2.out K4.out (by decide)) (fun _ hk => hk.2) (.int .i64 t24)) (fun _ hk => hk.2) (.int .i64 t25)) (fun _ hk => hk.2) (.int .i64 t26)) (fun _ hk => hk.2) (.int .i64 t27)) (fun _ h_ => h_.1))) hb); replace K1 := am (blk_below (g := g1) (o := b4 a1_0 a1_1 a1_2 a1_3 49) (by refine fa N7 ?_; refine fa N7 ?_; refine fa N7 ?_; refine fa N7 ?_; exact Z K1) hb); replace K2 := am (blk_below (g := g2) (o := b4 a2_0 a2_1 a2_2 a2_3 49) (by refine fa N9 ?_; refine fa N9 ?_; refine fa N9 ?_; refine fa N9 ?_; exact Z K2) hb); replace K3 := am (blk_below (g := g3) (o := b4 t11 t12 t13 t14 50) (by refine fa N11 ?_; refine fa N11 ?_; refine fa N11 ?_; refine fa N11 ?_; exact Z K3) hb); replace K4 := am (blk_below (g := g4) (o := b4 t24 t25 t26 t27 50) (by refine pf ?_; refine blk_put (cs := #[.int .i64 t24, .int .i64 t25, .int .i64 t26, .int .i64 0]) ?_ 3 _ rfl; refine pf ?_; refine blk_put (cs := #[.int .i64 t24, .int .i64 t25, .int .i64 0, .int .i64 0]) ?_ 2 _ rfl; refine pf ?_; refine blk_put (cs := #[.int .i64 t24, .int .i64 0, .int .i64 0, .int .i64 0]) ?_ 1 _ rfl; refine pf ?_; refine blk_put (cs := #[.int .i64 0, .int .i64 0, .int .i64 0, .int .i64 0]) ?_ 0 _ rfl; exact Z K4) hb); replace HB := am (below_step (YA HB) hb); (try clear hb); obtain ⟨q1, f1, e1⟩ := Kd.R_slice O2.out; subst e1; obtain ⟨q2, f2, e2⟩ := Kd.R_slice O1.out; subst e2) | (go_at_call 13; (with_reducible refine (laws_eqIntS.calls k _ _ t28 _ _ t15 t2 _ ?side1 ?side2 ?side3 ?side4 A8.out).mono ?_); (case side1 => repeat (first | exact (Kd.R_reads' O2.out).2.2 | (with_reducible refine Kd.C_alloc ?_ _) | (with_reducible refine Kd.C_drewN ?_ _) | (with_reducible refine Kd.C_drew ?_))); (case side2 => exact (Kd.R_reads' O2.out).2.1); (case side3 => repeat (first | exact (Kd.R_reads' O1.out).2.2 | (with_reducible refine Kd.C_alloc ?_ _) | (with_reducible refine Kd.C_drewN ?_ _) | (with_reducible refine Kd.C_drew ?_))); (case side4 => exact (Kd.R_reads' O1.out).2.1); rintro e w' ⟨rfl, ⟨nd, rfl⟩⟩))
  go_meet
  case rel => exact ⟨_, (!t2), ey, H', le0, ⟨by exact RZ O1⟩, ⟨by exact RZ O2⟩, ⟨Z K1⟩, ⟨Z K2⟩, ⟨Z K3⟩, ⟨Z K4⟩, ⟨YA HB⟩⟩
 case rest =>
  clear C1
  obtain ⟨kq, x1, rfl, HA, J1, O3, O4, K1, K2, K3, K4, HB⟩ := hcut
  cases kq with
  | zero => exact absurd HA.out (by simp [laws_FnExactValDo.j0])
  | succ k1 =>
   have H := HA.out
   clear HA
   simp only [laws_FnExactValDo.j0] at H
   by_cases c1 : x1 = true
   ·subst c1
    rw [if_pos rfl] at H
    exact absurd H (by simp)
   replace c1 := Bool.eq_false_iff.mpr c1
   subst c1
   rw [if_neg ff] at H
   obtain ⟨⟨t29, t30⟩, A7, H⟩ := bd H
   try dsimp only at H
   obtain ⟨t31, A8, H⟩ := bd H
   try dsimp only at H
   by_cases c2 : t31 < 0
   ·rw [if_pos c2] at H
    exact absurd H (by simp)
   rw [if_neg c2] at H
   have d1 := dF c2
   clear c2
   by_cases c3 : t31 = t29
   rotate_left
   ·rw [if_neg c3] at H
    exact absurd H (by simp)
   rw [if_pos c3] at H
   have d2 := eT c3
   have d3 := nF c3
   clear c3
   obtain ⟨⟨t32, t33, t34, t35⟩, A9, H⟩ := bd H
   try dsimp only at H
   obtain ⟨⟨t36, t37, t38, t39⟩, A10, H⟩ := bd H
   try dsimp only at H
   obtain ⟨⟨t40, t41, t42, t43, t44⟩, A11, H⟩ := bd H
   try dsimp only at H
   have C2 := am H
   clear H
   obtain ⟨q1, f1, e1⟩ := Kd.R_slice O4.out
   subst e1
   try go_wp2_with (first | ((with_reducible refine gate_callee (f := 14) rfl ?_); refine goesL_ (some 45) rfl rfl Try.func14 (by kernel_rfl) rfl #[.slice q1 t28.length f1, .int .i64 1] rfl mz ?_; (with_reducible refine (laws_markIntS.calls k1 (fun k_ => some k_ = (.slice q1 t28.length f1 : Value).ownBlock) (.slice q1 t28.length f1) t28 1 t29 t30 w _ ?side1 ?side2 A7.out).mono ?_); (case side1 => repeat (first | (with_reducible first | exact HB.out | apply below_alloc | apply pw_below_drewN | apply below_drew1 | refine below_set ?_ G1.out | refine below_set ?_ G2.out | refine below_set ?_ G4.out | refine below_set ?_ G6.out) | exact HB.out)); (case side2 => exact Kd.R_tight rfl O4.out); rintro e w9 ⟨rfl, y1, hb, hkp⟩; refine ⟨_, rfl, ?_⟩; replace O3 := am (Kd.R_mono (ok' := fun k_ => some k_ ≠ (.slice q1 t28.length f1 : Value).ownBlock) (Kd.R_keptB (O3.out) hkp (fun k_ hk_ hs_ => (hk_) hs_)) (fun k_ hk_ => hk_.1)); replace K1 := am (blk_kept (Z K1) hkp (fun hs_ => (fun e_ => (Kd.R_ne O4.out K1.out (by decide)) e_) hs_)); replace K2 := am (blk_kept (Z K2) hkp (fun hs_ => (fun e_ => (Kd.R_ne O4.out K2.out (by decide)) e_) hs_)); replace K3 := am (blk_kept (Z K3) hkp (fun hs_ => (fun e_ => (Kd.R_ne O4.out K3.out (by decide)) e_) hs_)); replace K4 := am (blk_kept (Z K4) hkp (fun hs_ => (fun e_ => (Kd.R_ne O4.out K4.out (by decide)) e_) hs_)); replace O4 := am (Kd.R_reok rfl y1 (fun k_ e_ => O4.out.1 k_ e_)); replace HB := am (hb); (try clear hb); (try clear hkp); (try clear y1)) | ((with_reducible refine gate_callee (f := 15) rfl ?_); refine goesL_ (some 48) rfl rfl Try.func15 (by kernel_rfl) rfl #[.slice q1 t30.length f1, .int .i64 1] rfl (by (try simp only [List.map_toArray, List.map_cons, List.map_nil]); first | done | (rw [show t30.length = t28.length from (Kd.R_reads' O4.out).1.symm] <;> rfl) | rfl | (simp only [List.length_drop, List.length_take]; rfl)) ?_; (with_reducible refine (laws_heldIntS.calls k1 _ _ t30 1 t31 _ ?side1 ?side2 A8.out).mono ?_); (case side1 => repeat (first | exact (Kd.R_reads' O4.out).2.2 | (with_reducible refine Kd.C_alloc ?_ _) | (with_reducible refine Kd.C_drewN ?_ _) | (with_reducible refine Kd.C_drew ?_))); (case side2 => rw [show t30.length = t28.length from (Kd.R_reads' O4.out).1.symm]; exact (Kd.R_reads' O4.out).2.1); rintro e w' ⟨rfl, ⟨nd, rfl⟩⟩; refine ⟨_, rfl, ?_⟩; (try (rw [drewN_self w9]; generalize hq_ : World.drewN w9 _ = w9; replace O4 : Aside0 (Kd.R (Kd.int .i64) 3 w9 w.heap.size (fun k_ => some k_ ≠ (v1 : Value).ownBlock) (.slice q1 t28.length f1) t30) := ⟨by rw [← hq_]; exact (RZ O4)⟩; replace O3 : Aside0 (Kd.R (Kd.int .i64) 3 w9 w.heap.size (fun k_ => some k_ ≠ (.slice q1 t28.length f1 : Value).ownBlock) v1 t15) := ⟨by rw [← hq_]; exact (RZ O3)⟩; replace K1 : Bx4 w9 g1 a1_0 a1_1 a1_2 a1_3 49 := ⟨by rw [← hq_]; exact (Z K1)⟩; replace K2 : Bx4 w9 g2 a2_0 a2_1 a2_2 a2_3 49 := ⟨by rw [← hq_]; exact (Z K2)⟩; replace K3 : Bx4 w9 g3 t11 t12 t13 t14 50 := ⟨by rw [← hq_]; exact (Z K3)⟩; replace K4 : Bx4 w9 g4 t24 t25 t26 t27 50 := ⟨by rw [← hq_]; exact (Z K4)⟩; replace HB : Aside0 (Below w.heap.size w w9) := ⟨by rw [← hq_]; exact (YA HB)⟩; clear hq_))))
   replace O3 := am (Kd.R_drew O3.out)
   replace O4 := am (Kd.R_drew O4.out)
   obtain ⟨K1, K2, K3, K4, HB⟩ := dk4 K1 K2 K3 K4 HB
   refine start_ (n := 12) (S := fun w' => w'.cell? ⟨g1, 0, none⟩ = some (.int .i64 a1_0) ∧ w'.cell? ⟨g1, 1, none⟩ = some (.int .i64 a1_1) ∧ w'.cell? ⟨g1, 2, none⟩ = some (.int .i64 a1_2) ∧ w'.cell? ⟨g1, 3, none⟩ = some (.int .i64 a1_3) ∧ w'.cell? ⟨g2, 0, none⟩ = some (.int .i64 a2_0) ∧ w'.cell? ⟨g2, 1, none⟩ = some (.int .i64 a2_1) ∧ w'.cell? ⟨g2, 2, none⟩ = some (.int .i64 a2_2) ∧ w'.cell? ⟨g2, 3, none⟩ = some (.int .i64 a2_3)) (ds := []) (lb 12 0) (by kernel_rfl) rfl rfl ⟨bc K1 0, bc K1 1, bc K1 2, bc K1 3, bc K2 0, bc K2 1, bc K2 2, bc K2 3⟩ (fun hHeld => ?_); refine with_tabW laws_FnExactValDo.tab13 laws_FnExactValDo.bits13 (fun HT_ HW_ => ?_)
   generalize w9.drew = w10 at O3 O4 K1 K2 K3 K4 HB hHeld ⊢
   refine pk 0 55 1 ?_
   refine tk 1 56 3 hHeld ?_
   refine tk 3 58 11 hHeld ?_
   refine join_ (σ := Value × Nat) 2 (lb 12 1023) (fun s_ => [(57, .agg #[.int .i64 t32, .int .i64 t33, .int .i64 t34, .int .i64 t35]), (59, .agg #[.int .i64 t36, .int .i64 t37, .int .i64 t38, .int .i64 t39]), (60, .tuple #[.agg #[.int .i64 t40, .int .i64 t41, .int .i64 t42, .int .i64 t43], s_.1]), (13, .pointer (some ⟨s_.2, 0, none⟩)), (54, .tuple #[.agg #[.int .i64 t40, .int .i64 t41, .int .i64 t42, .int .i64 t43], s_.1]), (61, .agg #[.int .i64 t40, .int .i64 t41, .int .i64 t42, .int .i64 t43]), (62, s_.1)]) (fun s_ w' => (w'.cell? ⟨g1, 0, none⟩ = some (.int .i64 a1_0) ∧ w'.cell? ⟨g1, 1, none⟩ = some (.int .i64 a1_1) ∧ w'.cell? ⟨g1, 2, none⟩ = some (.int .i64 a1_2) ∧ w'.cell? ⟨g1, 3, none⟩ = some (.int .i64 a1_3) ∧ w'.cell? ⟨g2, 0, none⟩ = some (.int .i64 a2_0) ∧ w'.cell? ⟨g2, 1, none⟩ = some (.int .i64 a2_1) ∧ w'.cell? ⟨g2, 2, none⟩ = some (.int .i64 a2_2) ∧ w'.cell? ⟨g2, 3, none⟩ = some (.int .i64 a2_3)) ∧ (Kd.R (Kd.int .i64) 3 w' w.heap.size (fun k_ => some k_ ≠ (.slice q1 t28.length f1 : Value).ownBlock ∧ some k_ ≠ (v1 : Value).ownBlock) s_.1 t44) ∧ (Kd.R (Kd.int .i64) 3 w' w.heap.size (fun k_ => some k_ ≠ (s_.1 : Value).ownBlock ∧ some k_ ≠ (v1 : Value).ownBlock) (.slice q1 t28.length f1) t30) ∧ (Kd.R (Kd.int .i64) 3 w' w.heap.size (fun k_ => some k_ ≠ (s_.1 : Value).ownBlock ∧ some k_ ≠ (.slice q1 t28.length f1 : Value).ownBlock) v1 t15) ∧ (w'.heap[g1]? = some (.cells #[.int .i64 a1_0, .int .i64 a1_1, .int .i64 a1_2, .int .i64 a1_3] 49 (0, 0))) ∧ (w'.heap[g2]? = some (.cells #[.int .i64 a2_0, .int .i64 a2_1, .int .i64 a2_2, .int .i64 a2_3] 49 (0, 0))) ∧ (w'.heap[g3]? = some (.cells #[.int .i64 t11, .int .i64 t12, .int .i64 t13, .int .i64 t14] 50 (0, 0))) ∧ (w'.heap[g4]? = some (.cells #[.int .i64 t24, .int .i64 t25, .int .i64 t26, .int .i64 t27] 50 (0, 0))) ∧ (w'.heap[s_.2]? = some (.cells #[.int .i64 0, .int .i64 0, .int .i64 0, .int .i64 0] 50 (0, 0))) ∧ (w.heap.size ≤ s_.2) ∧ (w.heap.size ≤ s_.2) ∧ (g1 ≠ s_.2) ∧ (s_.2 ≠ g1) ∧ (g2 ≠ s_.2) ∧ (s_.2 ≠ g2) ∧ (g3 ≠ s_.2) ∧ (s_.2 ≠ g3) ∧ (g4 ≠ s_.2) ∧ (s_.2 ≠ g4) ∧ (Below w.heap.size w w')) ?_ ?_
   rotate_left
   ·intro hCont
    refine two_ (i := 2) (j := 9) (Ni := some 57) (Nj := some 13) (lb 12 15) (lb 12 523) rfl rfl rfl rfl (two_of HT_.out (by kernel_rfl)) (by decide) (by decide) (fun K hK => ?_) (fun K hK => ?_)
    rotate_left
    ·skip
     refine box_step ?hg (N := 13) ?hd (cs := #[.int .i64 0, .int .i64 0, .int .i64 0, .int .i64 0]) (t := 50) ?hr ?_; (case hd => rfl); (case hg => rfl); (case hr => first | (go_simp; done) | (go_simp; rfl))
     intro g5 hg w11 hbox hb
     have K5 := am (hbox)
     have G7 := am (bs hg (YA HB))
     have G8 := am (bs hg (YA HB))
     obtain ⟨N13,N14⟩ := ne_ hg K1
     obtain ⟨N15,N16⟩ := ne_ hg K2
     obtain ⟨N17,N18⟩ := ne_ hg K3
     obtain ⟨N19,N20⟩ := ne_ hg K4
     replace O3 := am (Kd.R_below (RZ O3) hb)
     replace O4 := am (Kd.R_below (RZ O4) hb)
     obtain ⟨K1, K2, K3, K4, HB⟩ := bk4 K1 K2 K3 K4 HB hb
     clear hb hbox hg
     refine kk hK ⟨bc K1 0, bc K1 1, bc K1 2, bc K1 3, bc K2 0, bc K2 1, bc K2 2, bc K2 3⟩ fun hHeld => ?_
     clear hK K
     refine on 2 (some 57) 527 fun K hK => ?_
     refine gq Try.func29 (laws_toVal.calls _ _ _ _ _ _ _ _ _ A9.out) fun w12 hb => ?_
     replace O3 := am (Kd.R_below (RZ O3) hb)
     replace O4 := am (Kd.R_below (RZ O4) hb)
     obtain ⟨K1, K2, K3, K4, K5, HB⟩ := bk5 K1 K2 K3 K4 K5 HB hb
     clear hb
     refine kk hK ⟨bc K1 0, bc K1 1, bc K1 2, bc K1 3, bc K2 0, bc K2 1, bc K2 2, bc K2 3⟩ fun hHeld => ?_
     clear hK K
     refine on 4 (some 59) 543 fun K hK => ?_
     refine gq Try.func29 (laws_toVal.calls _ _ _ _ _ _ _ _ _ A10.out) fun w13 hb => ?_
     replace O3 := am (Kd.R_below (RZ O3) hb)
     replace O4 := am (Kd.R_below (RZ O4) hb)
     obtain ⟨K1, K2, K3, K4, K5, HB⟩ := bk5 K1 K2 K3 K4 K5 HB hb
     clear hb
     refine kk hK ⟨bc K1 0, bc K1 1, bc K1 2, bc K1 3, bc K2 0, bc K2 1, bc K2 2, bc K2 3⟩ fun hHeld => ?_
     clear hK K
     refine on 5 (some 60) 575 fun K hK => ?_
     refine goes_ Try.func30 (by kernel_rfl) rfl #[.int .i64 a0, .agg #[.int .i64 t32, .int .i64 t33, .int .i64 t34, .int .i64 t35], .agg #[.int .i64 t36, .int .i64 t37, .int .i64 t38, .int .i64 t39]] (by rfl) rfl rfl mz ?_
     with_reducible refine (impl_ValDo.calls _ _ _ _ _ _ _ _ _ _ _ _ _ _ _ _ A11.out).mono ?_
     rintro e w14 ⟨v4, rfl, o1, hb⟩
     refine ⟨_, rfl, ?_⟩
     have O5 := am (Kd.R_lower (Kd.R_new' (Kd.R_new' o1 (Kd.R_lt (RZ O3))) (Kd.R_lt (RZ O4))) (below_size (YA HB)))
     replace O3 := am (Kd.R_elder' (RZ O3) (Kd.R_base o1) hb)
     replace O4 := am (Kd.R_elder' (RZ O4) (Kd.R_base o1) hb)
     obtain ⟨K1, K2, K3, K4, K5, HB⟩ := bk5 K1 K2 K3 K4 K5 HB hb
     clear hb
     (try clear o1)
     refine kk hK ⟨bc K1 0, bc K1 1, bc K1 2, bc K1 3, bc K2 0, bc K2 1, bc K2 2, bc K2 3⟩ fun hHeld => ?_
     clear hK K
     refine pk 6 54 639 ?_
     refine pk 7 61 767 ?_
     refine pk 8 62 1023 ?_
     exact norm_ nz (hCont (v4, g5) _ ⟨hHeld, (by (with_reducible repeat (first | apply Kd.R_alloc | apply Kd.R_drewN | apply Kd.R_drew)); exact Kd.R_mono O5.out (fun _ hk => ⟨hk.2, hk.1.2⟩)), (by (with_reducible repeat (first | apply Kd.R_alloc | apply Kd.R_drewN | apply Kd.R_drew)); exact Kd.R_mono O4.out (fun _ hk => ⟨hk.2, hk.1⟩)), (by (with_reducible repeat (first | apply Kd.R_alloc | apply Kd.R_drewN | apply Kd.R_drew)); exact Kd.R_mono O3.out (fun _ hk => ⟨hk.2, hk.1⟩)), (Z K1), (Z K2), (Z K3), (Z K4), (Z K5), G7.out, G8.out, N13.out, N14.out, N15.out, N16.out, N17.out, N18.out, N19.out, N20.out, (YA HB)⟩)
    skip
    refine gq Try.func29 (laws_toVal.calls _ _ _ _ _ _ _ _ _ A9.out) fun w11 hb => ?_
    replace O3 := am (Kd.R_below (RZ O3) hb)
    replace O4 := am (Kd.R_below (RZ O4) hb)
    obtain ⟨K1, K2, K3, K4, HB⟩ := bk4 K1 K2 K3 K4 HB hb
    clear hb
    refine kk hK ⟨bc K1 0, bc K1 1, bc K1 2, bc K1 3, bc K2 0, bc K2 1, bc K2 2, bc K2 3⟩ fun hHeld => ?_
    clear hK K
    refine two_ (i := 4) (j := 9) (Ni := some 59) (Nj := some 13) (lb 12 31) (lb 12 527) rfl rfl rfl rfl (two_of HT_.out (by kernel_rfl)) (by decide) (by decide) (fun K hK => ?_) (fun K hK => ?_)
    rotate_left
    ·skip
     refine box_step ?hg (N := 13) ?hd (cs := #[.int .i64 0, .int .i64 0, .int .i64 0, .int .i64 0]) (t := 50) ?hr ?_; (case hd => rfl); (case hg => rfl); (case hr => first | (go_simp; done) | (go_simp; rfl))
     intro g5 hg w12 hbox hb
     have K5 := am (hbox)
     have G7 := am (bs hg (YA HB))
     have G8 := am (bs hg (YA HB))
     obtain ⟨N13,N14⟩ := ne_ hg K1
     obtain ⟨N15,N16⟩ := ne_ hg K2
     obtain ⟨N17,N18⟩ := ne_ hg K3
     obtain ⟨N19,N20⟩ := ne_ hg K4
     replace O3 := am (Kd.R_below (RZ O3) hb)
     replace O4 := am (Kd.R_below (RZ O4) hb)
     obtain ⟨K1, K2, K3, K4, HB⟩ := bk4 K1 K2 K3 K4 HB hb
     clear hb hbox hg
     refine kk hK ⟨bc K1 0, bc K1 1, bc K1 2, bc K1 3, bc K2 0, bc K2 1, bc K2 2, bc K2 3⟩ fun hHeld => ?_
     clear hK K
     refine on 4 (some 59) 543 fun K hK => ?_
     refine gq Try.func29 (laws_toVal.calls _ _ _ _ _ _ _ _ _ A10.out) fun w13 hb => ?_
     replace O3 := am (Kd.R_below (RZ O3) hb)
     replace O4 := am (Kd.R_below (RZ O4) hb)
     obtain ⟨K1, K2, K3, K4, K5, HB⟩ := bk5 K1 K2 K3 K4 K5 HB hb
     clear hb
     refine kk hK ⟨bc K1 0, bc K1 1, bc K1 2, bc K1 3, bc K2 0, bc K2 1, bc K2 2, bc K2 3⟩ fun hHeld => ?_
     clear hK K
     refine on 5 (some 60) 575 fun K hK => ?_
     refine goes_ Try.func30 (by kernel_rfl) rfl #[.int .i64 a0, .agg #[.int .i64 t32, .int .i64 t33, .int .i64 t34, .int .i64 t35], .agg #[.int .i64 t36, .int .i64 t37, .int .i64 t38, .int .i64 t39]] (by rfl) rfl rfl mz ?_
     with_reducible refine (impl_ValDo.calls _ _ _ _ _ _ _ _ _ _ _ _ _ _ _ _ A11.out).mono ?_
     rintro e w14 ⟨v4, rfl, o1, hb⟩
     refine ⟨_, rfl, ?_⟩
     have O5 := am (Kd.R_lower (Kd.R_new' (Kd.R_new' o1 (Kd.R_lt (RZ O3))) (Kd.R_lt (RZ O4))) (below_size (YA HB)))
     replace O3 := am (Kd.R_elder' (RZ O3) (Kd.R_base o1) hb)
     replace O4 := am (Kd.R_elder' (RZ O4) (Kd.R_base o1) hb)
     obtain ⟨K1, K2, K3, K4, K5, HB⟩ := bk5 K1 K2 K3 K4 K5 HB hb
     clear hb
     (try clear o1)
     refine kk hK ⟨bc K1 0, bc K1 1, bc K1 2, bc K1 3, bc K2 0, bc K2 1, bc K2 2, bc K2 3⟩ fun hHeld => ?_
     clear hK K
     refine pk 6 54 639 ?_
     refine pk 7 61 767 ?_
     refine pk 8 62 1023 ?_
     exact norm_ nz (hCont (v4, g5) _ ⟨hHeld, (by (with_reducible repeat (first | apply Kd.R_alloc | apply Kd.R_drewN | apply Kd.R_drew)); exact Kd.R_mono O5.out (fun _ hk => ⟨hk.2, hk.1.2⟩)), (by (with_reducible repeat (first | apply Kd.R_alloc | apply Kd.R_drewN | apply Kd.R_drew)); exact Kd.R_mono O4.out (fun _ hk => ⟨hk.2, hk.1⟩)), (by (with_reducible repeat (first | apply Kd.R_alloc | apply Kd.R_drewN | apply Kd.R_drew)); exact Kd.R_mono O3.out (fun _ hk => ⟨hk.2, hk.1⟩)), (Z K1), (Z K2), (Z K3), (Z K4), (Z K5), G7.out, G8.out, N13.out, N14.out, N15.out, N16.out, N17.out, N18.out, N19.out, N20.out, (YA HB)⟩)
    skip
    refine gq Try.func29 (laws_toVal.calls _ _ _ _ _ _ _ _ _ A10.out) fun w12 hb => ?_
    replace O3 := am (Kd.R_below (RZ O3) hb)
    replace O4 := am (Kd.R_below (RZ O4) hb)
    obtain ⟨K1, K2, K3, K4, HB⟩ := bk4 K1 K2 K3 K4 HB hb
    clear hb
    refine kk hK ⟨bc K1 0, bc K1 1, bc K1 2, bc K1 3, bc K2 0, bc K2 1, bc K2 2, bc K2 3⟩ fun hHeld => ?_
    clear hK K
    refine two_ (i := 5) (j := 9) (Ni := some 60) (Nj := some 13) (lb 12 63) (lb 12 543) rfl rfl rfl rfl (two_of HT_.out (by kernel_rfl)) (by decide) (by decide) (fun K hK => ?_) (fun K hK => ?_)
    rotate_left
    ·skip
     refine box_step ?hg (N := 13) ?hd (cs := #[.int .i64 0, .int .i64 0, .int .i64 0, .int .i64 0]) (t := 50) ?hr ?_; (case hd => rfl); (case hg => rfl); (case hr => first | (go_simp; done) | (go_simp; rfl))
     intro g5 hg w13 hbox hb
     have K5 := am (hbox)
     have G7 := am (bs hg (YA HB))
     have G8 := am (bs hg (YA HB))
     obtain ⟨N13,N14⟩ := ne_ hg K1
     obtain ⟨N15,N16⟩ := ne_ hg K2
     obtain ⟨N17,N18⟩ := ne_ hg K3
     obtain ⟨N19,N20⟩ := ne_ hg K4
     replace O3 := am (Kd.R_below (RZ O3) hb)
     replace O4 := am (Kd.R_below (RZ O4) hb)
     obtain ⟨K1, K2, K3, K4, HB⟩ := bk4 K1 K2 K3 K4 HB hb
     clear hb hbox hg
     refine kk hK ⟨bc K1 0, bc K1 1, bc K1 2, bc K1 3, bc K2 0, bc K2 1, bc K2 2, bc K2 3⟩ fun hHeld => ?_
     clear hK K
     refine on 5 (some 60) 575 fun K hK => ?_
     refine goes_ Try.func30 (by kernel_rfl) rfl #[.int .i64 a0, .agg #[.int .i64 t32, .int .i64 t33, .int .i64 t34, .int .i64 t35], .agg #[.int .i64 t36, .int .i64 t37, .int .i64 t38, .int .i64 t39]] (by rfl) rfl rfl mz ?_
     with_reducible refine (impl_ValDo.calls _ _ _ _ _ _ _ _ _ _ _ _ _ _ _ _ A11.out).mono ?_
     rintro e w14 ⟨v4, rfl, o1, hb⟩
     refine ⟨_, rfl, ?_⟩
     have O5 := am (Kd.R_lower (Kd.R_new' (Kd.R_new' o1 (Kd.R_lt (RZ O3))) (Kd.R_lt (RZ O4))) (below_size (YA HB)))
     replace O3 := am (Kd.R_elder' (RZ O3) (Kd.R_base o1) hb)
     replace O4 := am (Kd.R_elder' (RZ O4) (Kd.R_base o1) hb)
     obtain ⟨K1, K2, K3, K4, K5, HB⟩ := bk5 K1 K2 K3 K4 K5 HB hb
     clear hb
     (try clear o1)
     refine kk hK ⟨bc K1 0, bc K1 1, bc K1 2, bc K1 3, bc K2 0, bc K2 1, bc K2 2, bc K2 3⟩ fun hHeld => ?_
     clear hK K
     refine pk 6 54 639 ?_
     refine pk 7 61 767 ?_
     refine pk 8 62 1023 ?_
     exact norm_ nz (hCont (v4, g5) _ ⟨hHeld, (by (with_reducible repeat (first | apply Kd.R_alloc | apply Kd.R_drewN | apply Kd.R_drew)); exact Kd.R_mono O5.out (fun _ hk => ⟨hk.2, hk.1.2⟩)), (by (with_reducible repeat (first | apply Kd.R_alloc | apply Kd.R_drewN | apply Kd.R_drew)); exact Kd.R_mono O4.out (fun _ hk => ⟨hk.2, hk.1⟩)), (by (with_reducible repeat (first | apply Kd.R_alloc | apply Kd.R_drewN | apply Kd.R_drew)); exact Kd.R_mono O3.out (fun _ hk => ⟨hk.2, hk.1⟩)), (Z K1), (Z K2), (Z K3), (Z K4), (Z K5), G7.out, G8.out, N13.out, N14.out, N15.out, N16.out, N17.out, N18.out, N19.out, N20.out, (YA HB)⟩)
    skip
    refine goes_ Try.func30 (by kernel_rfl) rfl #[.int .i64 a0, .agg #[.int .i64 t32, .int .i64 t33, .int .i64 t34, .int .i64 t35], .agg #[.int .i64 t36, .int .i64 t37, .int .i64 t38, .int .i64 t39]] (by rfl) rfl rfl mz ?_
    with_reducible refine (impl_ValDo.calls _ _ _ _ _ _ _ _ _ _ _ _ _ _ _ _ A11.out).mono ?_
    rintro e w13 ⟨v4, rfl, o1, hb⟩
    refine ⟨_, rfl, ?_⟩
    have O5 := am (Kd.R_lower (Kd.R_new' (Kd.R_new' o1 (Kd.R_lt (RZ O3))) (Kd.R_lt (RZ O4))) (below_size (YA HB)))
    replace O3 := am (Kd.R_elder' (RZ O3) (Kd.R_base o1) hb)
    replace O4 := am (Kd.R_elder' (RZ O4) (Kd.R_base o1) hb)
    obtain ⟨K1, K2, K3, K4, HB⟩ := bk4 K1 K2 K3 K4 HB hb
    clear hb
    (try clear o1)
    refine kk hK ⟨bc K1 0, bc K1 1, bc K1 2, bc K1 3, bc K2 0, bc K2 1, bc K2 2, bc K2 3⟩ fun hHeld => ?_
    clear hK K
    refine pk 6 54 127 ?_
    refine pk 7 61 255 ?_
    refine pk 8 62 511 ?_
    refine on 9 (some 13) 1023 fun K hK => ?_
    refine box_step ?hg (N := 13) ?hd (cs := #[.int .i64 0, .int .i64 0, .int .i64 0, .int .i64 0]) (t := 50) ?hr ?_; (case hd => rfl); (case hg => rfl); (case hr => first | (go_simp; done) | (go_simp; rfl))
    intro g5 hg w14 hbox hb
    have K5 := am (hbox)
    have G7 := am (bs hg (YA HB))
    have G8 := am (bs hg (YA HB))
    obtain ⟨N13,N14⟩ := ne_ hg K1
    obtain ⟨N15,N16⟩ := ne_ hg K2
    obtain ⟨N17,N18⟩ := ne_ hg K3
    obtain ⟨N19,N20⟩ := ne_ hg K4
    replace O3 := am (Kd.R_below (RZ O3) hb)
    replace O4 := am (Kd.R_below (RZ O4) hb)
    replace O5 := am (Kd.R_below (RZ O5) hb)
    obtain ⟨K1, K2, K3, K4, HB⟩ := bk4 K1 K2 K3 K4 HB hb
    clear hb hbox hg
    refine kk hK ⟨bc K1 0, bc K1 1, bc K1 2, bc K1 3, bc K2 0, bc K2 1, bc K2 2, bc K2 3⟩ fun hHeld => ?_
    clear hK K
    exact norm_ nz (hCont (v4, g5) _ ⟨hHeld, (by (with_reducible repeat (first | apply Kd.R_alloc | apply Kd.R_drewN | apply Kd.R_drew)); exact Kd.R_mono O5.out (fun _ hk => ⟨hk.2, hk.1.2⟩)), (by (with_reducible repeat (first | apply Kd.R_alloc | apply Kd.R_drewN | apply Kd.R_drew)); exact Kd.R_mono O4.out (fun _ hk => ⟨hk.2, hk.1⟩)), (by (with_reducible repeat (first | apply Kd.R_alloc | apply Kd.R_drewN | apply Kd.R_drew)); exact Kd.R_mono O3.out (fun _ hk => ⟨hk.2, hk.1⟩)), (Z K1), (Z K2), (Z K3), (Z K4), (Z K5), G7.out, G8.out, N13.out, N14.out, N15.out, N16.out, N17.out, N18.out, N19.out, N20.out, (YA HB)⟩)
   rintro ⟨v4, g5⟩ w11 ⟨hS_, h0_, h1_, h2_, h3_, h4_, h5_, h6_, h7_, h8_, h9_, h10_, h11_, h12_, h13_, h14_, h15_, h16_, h17_, h18_⟩
   have O5 : Aside0 (Kd.R (Kd.int .i64) 3 w11 w.heap.size (fun k_ => some k_ ≠ (.slice q1 t28.length f1 : Value).ownBlock ∧ some k_ ≠ (v1 : Value).ownBlock) v4 t44) := ⟨h0_⟩
   have K5 : Bx4 w11 g5 0 0 0 0 50 := ⟨h7_⟩
   have G7 : Aside0 (w.heap.size ≤ g5) := ⟨h8_⟩
   have G8 : Aside0 (w.heap.size ≤ g5) := ⟨h9_⟩
   have N13 : Aside0 (g1 ≠ g5) := ⟨h10_⟩
   have N14 : Aside0 (g5 ≠ g1) := ⟨h11_⟩
   have N15 : Aside0 (g2 ≠ g5) := ⟨h12_⟩
   have N16 : Aside0 (g5 ≠ g2) := ⟨h13_⟩
   have N17 : Aside0 (g3 ≠ g5) := ⟨h14_⟩
   have N18 : Aside0 (g5 ≠ g3) := ⟨h15_⟩
   have N19 : Aside0 (g4 ≠ g5) := ⟨h16_⟩
   have N20 : Aside0 (g5 ≠ g4) := ⟨h17_⟩
   replace O4 : Aside0 (Kd.R (Kd.int .i64) 3 w11 w.heap.size (fun k_ => some k_ ≠ (v4 : Value).ownBlock ∧ some k_ ≠ (v1 : Value).ownBlock) (.slice q1 t28.length f1) t30) := ⟨h1_⟩
   replace O3 : Aside0 (Kd.R (Kd.int .i64) 3 w11 w.heap.size (fun k_ => some k_ ≠ (v4 : Value).ownBlock ∧ some k_ ≠ (.slice q1 t28.length f1 : Value).ownBlock) v1 t15) := ⟨h2_⟩
   replace K1 : Bx4 w11 g1 a1_0 a1_1 a1_2 a1_3 49 := ⟨h3_⟩
   replace K2 : Bx4 w11 g2 a2_0 a2_1 a2_2 a2_3 49 := ⟨h4_⟩
   replace K3 : Bx4 w11 g3 t11 t12 t13 t14 50 := ⟨h5_⟩
   replace K4 : Bx4 w11 g4 t24 t25 t26 t27 50 := ⟨h6_⟩
   replace HB : Aside0 (Below w.heap.size w w11) := ⟨h18_⟩
   clear h0_ h1_ h2_ h3_ h4_ h5_ h6_ h7_ h8_ h9_ h10_ h11_ h12_ h13_ h14_ h15_ h16_ h17_ h18_
   have hHeld : w11.cell? ⟨g1, 0, none⟩ = some (.int .i64 a1_0) ∧ w11.cell? ⟨g1, 1, none⟩ = some (.int .i64 a1_1) ∧ w11.cell? ⟨g1, 2, none⟩ = some (.int .i64 a1_2) ∧ w11.cell? ⟨g1, 3, none⟩ = some (.int .i64 a1_3) ∧ w11.cell? ⟨g2, 0, none⟩ = some (.int .i64 a2_0) ∧ w11.cell? ⟨g2, 1, none⟩ = some (.int .i64 a2_1) ∧ w11.cell? ⟨g2, 2, none⟩ = some (.int .i64 a2_2) ∧ w11.cell? ⟨g2, 3, none⟩ = some (.int .i64 a2_3) := hS_
   refine norm_ (a' := ?_) ?_ ?_
   rotate_left
   ·simp only [putAll, Act.put, List.setIfInBounds_toArray, List.set_cons_zero, List.set_cons_succ]
    rfl
   refine on 10 none 2047 fun K hK => ?_
   have s9 : w11.cell? ⟨g5, 0, none⟩ = some (.int .i64 0) := bc K5 0
   have hfs72 := blk_frozen K5.out 0
   have z_ := ns8 N13 N15 N17 N19 N14 N16 N18 N20
   have s10 : w11.cell? ⟨g5, 1, none⟩ = some (.int .i64 0) := bc K5 1
   have hfs73 := blk_frozen K5.out 1
   have z_ := ns8 N13 N15 N17 N19 N14 N16 N18 N20
   have s11 : w11.cell? ⟨g5, 2, none⟩ = some (.int .i64 0) := bc K5 2
   have hfs74 := blk_frozen K5.out 2
   have z_ := ns8 N13 N15 N17 N19 N14 N16 N18 N20
   have s12 : w11.cell? ⟨g5, 3, none⟩ = some (.int .i64 0) := bc K5 3
   have hfs75 := blk_frozen K5.out 3
   have z_ := ns8 N13 N15 N17 N19 N14 N16 N18 N20
   refine skip_ (w1 := ?_) (by rfl) rfl ?_ ?_
   rotate_left
   ·go_simp
    rfl
   refine hK.out _ _ ⟨(cf N13 ((cf N13 ((cf N13 ((cf N13 (hHeld.1)))))))), (cf N13 ((cf N13 ((cf N13 ((cf N13 (hHeld.2.1)))))))), (cf N13 ((cf N13 ((cf N13 ((cf N13 (hHeld.2.2.1)))))))), (cf N13 ((cf N13 ((cf N13 ((cf N13 (hHeld.2.2.2.1)))))))), (cf N15 ((cf N15 ((cf N15 ((cf N15 (hHeld.2.2.2.2.1)))))))), (cf N15 ((cf N15 ((cf N15 ((cf N15 (hHeld.2.2.2.2.2.1)))))))), (cf N15 ((cf N15 ((cf N15 ((cf N15 (hHeld.2.2.2.2.2.2.1)))))))), (cf N15 ((cf N15 ((cf N15 ((cf N15 (hHeld.2.2.2.2.2.2.2))))))))⟩ (fun hHeld => ?_)
   clear hK K
   refine pk 11 14 4095 ?_
   refine done_ (done_of HT_.out (by kernel_rfl)) ?_
   go_upto_region 14 with (fail)
   go_cut [72] (fun v5 wc => ∃ (kq : Nat) (x2 : Bool), v5 = .bool x2 ∧ Aside0 (laws_FnExactValDo.j1 kq t30 t29 x2 = some r) ∧ Aside0 (kq ≤ k1) ∧ Aside0 (Kd.R (Kd.int .i64) 3 wc w.heap.size (fun _ => True) (.slice q1 t28.length f1) t30) ∧ Bx4 wc g1 a1_0 a1_1 a1_2 a1_3 49 ∧ Bx4 wc g2 a2_0 a2_1 a2_2 a2_3 49 ∧ Bx4 wc g3 t11 t12 t13 t14 50 ∧ Bx4 wc g4 t24 t25 t26 t27 50 ∧ Bx4 wc g5 t40 t41 t42 t43 50 ∧ Aside0 (Below w.heap.size w wc))
   case first =>
    have H := C2.out
    clear C2
    obtain ⟨t45, A12, H⟩ := bd H
    try dsimp only at H
    by_cases c4 : t45 = true
    rotate_left
    ·replace c4 := Bool.eq_false_iff.mpr c4
     subst c4
     rw [if_neg ff] at H
     have H' := am H
     clear H
     have z_ := ns7 N14 N16 N18 N20 N4 N6 N11
     have z_ := cB4 K5
     have z_ := cB4 K3
     go_wp2_with (first | ((with_reducible refine gate_callee (f := 31) rfl ?_); refine gL 65 Try.func31 (laws_eqVal.calls _ _ _ _ _ _ _ _ _ _ A12.out) fun w12 hb => ?_; replace O3 := am (Kd.R_below (by (with_reducible repeat (first | apply Kd.R_alloc | apply Kd.R_drewN | apply Kd.R_drew)); exact (Kd.R_mono (Kd.R_far (p := ⟨g5, 3, none⟩) (Kd.R_far (p := ⟨g5, 2, none⟩) (Kd.R_far (p := ⟨g5, 1, none⟩) (Kd.R_far (p := ⟨g5, 0, none⟩) (Kd.R_types O3.out K5.out (by decide)) (fun _ hk => hk.2) (.int .i64 t40)) (fun _ hk => hk.2) (.int .i64 t41)) (fun _ hk => hk.2) (.int .i64 t42)) (fun _ hk => hk.2) (.int .i64 t43)) (fun _ h_ => h_.1))) hb); replace O4 := am (Kd.R_below (by (with_reducible repeat (first | apply Kd.R_alloc | apply Kd.R_drewN | apply Kd.R_drew)); exact (Kd.R_mono (Kd.R_far (p := ⟨g5, 3, none⟩) (Kd.R_far (p := ⟨g5, 2, none⟩) (Kd.R_far (p := ⟨g5, 1, none⟩) (Kd.R_far (p := ⟨g5, 0, none⟩) (Kd.R_types O4.out K5.out (by decide)) (fun _ hk => hk.2) (.int .i64 t40)) (fun _ hk => hk.2) (.int .i64 t41)) (fun _ hk => hk.2) (.int .i64 t42)) (fun _ hk => hk.2) (.int .i64 t43)) (fun _ h_ => h_.1))) hb); replace O5 := am (Kd.R_below (by (with_reducible repeat (first | apply Kd.R_alloc | apply Kd.R_drewN | apply Kd.R_drew)); exact (Kd.R_mono (Kd.R_far (p := ⟨g5, 3, none⟩) (Kd.R_far (p := ⟨g5, 2, none⟩) (Kd.R_far (p := ⟨g5, 1, none⟩) (Kd.R_far (p := ⟨g5, 0, none⟩) (Kd.R_types O5.out K5.out (by decide)) (fun _ hk => hk.2) (.int .i64 t40)) (fun _ hk => hk.2) (.int .i64 t41)) (fun _ hk => hk.2) (.int .i64 t42)) (fun _ hk => hk.2) (.int .i64 t43)) (fun _ h_ => h_.1))) hb); replace K1 := am (blk_below (g := g1) (o := b4 a1_0 a1_1 a1_2 a1_3 49) (by refine fa N13 ?_; refine fa N13 ?_; refine fa N13 ?_; refine fa N13 ?_; exact Z K1) hb); replace K2 := am (blk_below (g := g2) (o := b4 a2_0 a2_1 a2_2 a2_3 49) (by refine fa N15 ?_; refine fa N15 ?_; refine fa N15 ?_; refine fa N15 ?_; exact Z K2) hb); replace K3 := am (blk_below (g := g3) (o := b4 t11 t12 t13 t14 50) (by refine fa N17 ?_; refine fa N17 ?_; refine fa N17 ?_; refine fa N17 ?_; exact Z K3) hb); replace K4 := am (blk_below (g := g4) (o := b4 t24 t25 t26 t27 50) (by refine fa N19 ?_; refine fa N19 ?_; refine fa N19 ?_; refine fa N19 ?_; exact Z K4) hb); replace K5 := am (blk_below (g := g5) (o := b4 t40 t41 t42 t43 50) (by refine pf ?_; refine blk_put (cs := #[.int .i64 t40, .int .i64 t41, .int .i64 t42, .int .i64 0]) ?_ 3 _ rfl; refine pf ?_; refine blk_put (cs := #[.int .i64 t40, .int .i64 t41, .int .i64 0, .int .i64 0]) ?_ 2 _ rfl; refine pf ?_; refine blk_put (cs := #[.int .i64 t40, .int .i64 0, .int .i64 0, .int .i64 0]) ?_ 1 _ rfl; refine pf ?_; refine blk_put (cs := #[.int .i64 0, .int .i64 0, .int .i64 0, .int .i64 0]) ?_ 0 _ rfl; exact Z K5) hb); replace HB := am (below_step (YA HB) hb); (try clear hb)))
     go_meet
     case rel => exact ⟨_, (true), ey, H', le1 J1, ⟨by (with_reducible repeat (first | apply Kd.R_alloc | apply Kd.R_drewN | apply Kd.R_drew)); exact Kd.R_mono O4.out (fun _ hk => trivial)⟩, ⟨Z K1⟩, ⟨Z K2⟩, ⟨Z K3⟩, ⟨Z K4⟩, ⟨Z K5⟩, ⟨YA HB⟩⟩
    subst c4
    rw [if_pos rfl] at H
    obtain ⟨t46, A13, H⟩ := bd H
    try dsimp only at H
    have H' := am H
    clear H
    have z_ := ns7 N14 N16 N18 N20 N4 N6 N11
    have z_ := cB4 K5
    have z_ := cB4 K3
    go_wp2_with (first | ((with_reducible refine gate_callee (f := 31) rfl ?_); refine gL 65 Try.func31 (laws_eqVal.calls _ _ _ _ _ _ _ _ _ _ A12.out) fun w12 hb => ?_; replace O3 := am (Kd.R_below (by (with_reducible repeat (first | apply Kd.R_alloc | apply Kd.R_drewN | apply Kd.R_drew)); exact (Kd.R_mono (Kd.R_far (p := ⟨g5, 3, none⟩) (Kd.R_far (p := ⟨g5, 2, none⟩) (Kd.R_far (p := ⟨g5, 1, none⟩) (Kd.R_far (p := ⟨g5, 0, none⟩) (Kd.R_types O3.out K5.out (by decide)) (fun _ hk => hk.2) (.int .i64 t40)) (fun _ hk => hk.2) (.int .i64 t41)) (fun _ hk => hk.2) (.int .i64 t42)) (fun _ hk => hk.2) (.int .i64 t43)) (fun _ h_ => h_.1))) hb); replace O4 := am (Kd.R_below (by (with_reducible repeat (first | apply Kd.R_alloc | apply Kd.R_drewN | apply Kd.R_drew)); exact (Kd.R_mono (Kd.R_far (p := ⟨g5, 3, none⟩) (Kd.R_far (p := ⟨g5, 2, none⟩) (Kd.R_far (p := ⟨g5, 1, none⟩) (Kd.R_far (p := ⟨g5, 0, none⟩) (Kd.R_types O4.out K5.out (by decide)) (fun _ hk => hk.2) (.int .i64 t40)) (fun _ hk => hk.2) (.int .i64 t41)) (fun _ hk => hk.2) (.int .i64 t42)) (fun _ hk => hk.2) (.int .i64 t43)) (fun _ h_ => h_.1))) hb); replace O5 := am (Kd.R_below (by (with_reducible repeat (first | apply Kd.R_alloc | apply Kd.R_drewN | apply Kd.R_drew)); exact (Kd.R_mono (Kd.R_far (p := ⟨g5, 3, none⟩) (Kd.R_far (p := ⟨g5, 2, none⟩) (Kd.R_far (p := ⟨g5, 1, none⟩) (Kd.R_far (p := ⟨g5, 0, none⟩) (Kd.R_types O5.out K5.out (by decide)) (fun _ hk => hk.2) (.int .i64 t40)) (fun _ hk => hk.2) (.int .i64 t41)) (fun _ hk => hk.2) (.int .i64 t42)) (fun _ hk => hk.2) (.int .i64 t43)) (fun _ h_ => h_.1))) hb); replace K1 := am (blk_below (g := g1) (o := b4 a1_0 a1_1 a1_2 a1_3 49) (by refine fa N13 ?_; refine fa N13 ?_; refine fa N13 ?_; refine fa N13 ?_; exact Z K1) hb); replace K2 := am (blk_below (g := g2) (o := b4 a2_0 a2_1 a2_2 a2_3 49) (by refine fa N15 ?_; refine fa N15 ?_; refine fa N15 ?_; refine fa N15 ?_; exact Z K2) hb); replace K3 := am (blk_below (g := g3) (o := b4 t11 t12 t13 t14 50) (by refine fa N17 ?_; refine fa N17 ?_; refine fa N17 ?_; refine fa N17 ?_; exact Z K3) hb); replace K4 := am (blk_below (g := g4) (o := b4 t24 t25 t26 t27 50) (by refine fa N19 ?_; refine fa N19 ?_; refine fa N19 ?_; refine fa N19 ?_; exact Z K4) hb); replace K5 := am (blk_below (g := g5) (o := b4 t40 t41 t42 t43 50) (by refine pf ?_; refine blk_put (cs := #[.int .i64 t40, .int .i64 t41, .int .i64 t42, .int .i64 0]) ?_ 3 _ rfl; refine pf ?_; refine blk_put (cs := #[.int .i64 t40, .int .i64 t41, .int .i64 0, .int .i64 0]) ?_ 2 _ rfl; refine pf ?_; refine blk_put (cs := #[.int .i64 t40, .int .i64 0, .int .i64 0, .int .i64 0]) ?_ 1 _ rfl; refine pf ?_; refine blk_put (cs := #[.int .i64 0, .int .i64 0, .int .i64 0, .int .i64 0]) ?_ 0 _ rfl; exact Z K5) hb); replace HB := am (below_step (YA HB) hb); (try clear hb); obtain ⟨q2, f2, e2⟩ := Kd.R_slice O5.out; subst e2; obtain ⟨q3, f3, e3⟩ := Kd.R_slice O3.out; subst e3) | (go_at_call 13; (with_reducible refine (laws_eqIntS.calls k1 _ _ t44 _ _ t15 t46 _ ?side1 ?side2 ?side3 ?side4 A13.out).mono ?_); (case side1 => repeat (first | exact (Kd.R_reads' O5.out).2.2 | (with_reducible refine Kd.C_alloc ?_ _) | (with_reducible refine Kd.C_drewN ?_ _) | (with_reducible refine Kd.C_drew ?_))); (case side2 => exact (Kd.R_reads' O5.out).2.1); (case side3 => repeat (first | exact (Kd.R_reads' O3.out).2.2 | (with_reducible refine Kd.C_alloc ?_ _) | (with_reducible refine Kd.C_drewN ?_ _) | (with_reducible refine Kd.C_drew ?_))); (case side4 => exact (Kd.R_reads' O3.out).2.1); rintro e w' ⟨rfl, ⟨nd, rfl⟩⟩))
    go_meet
    case rel => exact ⟨_, (!t46), ey, H', le1 J1, ⟨by (with_reducible repeat (first | apply Kd.R_alloc | apply Kd.R_drewN | apply Kd.R_drew)); exact Kd.R_mono O4.out (fun _ hk => trivial)⟩, ⟨Z K1⟩, ⟨Z K2⟩, ⟨Z K3⟩, ⟨Z K4⟩, ⟨Z K5⟩, ⟨YA HB⟩⟩
   case rest =>
    clear C2
    obtain ⟨kq, x2, rfl, HA, J2, O4, K1, K2, K3, K4, K5, HB⟩ := hcut
    have hl10_62 := (Kd.R_reads' O4.out).1
    rw [hl10_62] at O4
    (try simp only [hl10_62])
    (try simp only [hl10_62] at K1)
    (try simp only [hl10_62] at K2)
    (try simp only [hl10_62] at K3)
    (try simp only [hl10_62] at K4)
    (try simp only [hl10_62] at K5)
    cases kq with
    | zero => exact absurd HA.out (by simp [laws_FnExactValDo.j1])
    | succ k2 =>
     have H := HA.out
     clear HA
     simp only [laws_FnExactValDo.j1] at H
     by_cases c4 : x2 = true
     ·subst c4
      rw [if_pos rfl] at H
      exact absurd H (by simp)
     replace c4 := Bool.eq_false_iff.mpr c4
     subst c4
     rw [if_neg ff] at H
     obtain ⟨t45, A12, H⟩ := bd H
     try dsimp only at H
     by_cases c5 : t45 < 0
     ·rw [if_pos c5] at H
      exact absurd H (by simp)
     rw [if_neg c5] at H
     have d4 := dF c5
     clear c5
     by_cases c6 : t45 = t29
     rotate_left
     ·rw [if_neg c6] at H
      exact absurd H (by simp)
     rw [if_pos c6] at H
     have d5 := eT c6
     have d6 := nF c6
     clear c6
     obtain rfl := Option.some.inj H
     go_wp2_with (first | ((with_reducible refine gate_callee (f := 15) rfl ?_); refine goesL_ (some 75) rfl rfl Try.func15 (by kernel_rfl) rfl #[.slice q1 t30.length f1, .int .i64 1] rfl mz ?_; (with_reducible refine (laws_heldIntS.calls k2 _ _ t30 1 t45 _ ?side1 ?side2 A12.out).mono ?_); (case side1 => repeat (first | exact (Kd.R_reads' O4.out).2.2 | (with_reducible refine Kd.C_alloc ?_ _) | (with_reducible refine Kd.C_drewN ?_ _) | (with_reducible refine Kd.C_drew ?_))); (case side2 => exact (Kd.R_reads' O4.out).2.1); rintro e w' ⟨rfl, ⟨nd, rfl⟩⟩; refine ⟨_, rfl, ?_⟩))
     go_ret
     exact ⟨ez, YA HB⟩
end
end Go.Proofs.Ythbkakcchgnhpaa.PFnExactValDo
