/- Written by this session's own driver (wip/dprint.py): the functions that the law FnExactValCmp reaches, as Lean functions, each with its contract. -/
import Derived.Test.YtdmadlfdibiejaaPFnExactValCmpx0
import Derived.Test.YtdmadlfdibiejaaPFnExactValCmpx4
import Derived.Test.YtdmadlfdibiejaaPFnExactValCmpx5
import Derived.Test.YtdmadlfdibiejaaPFnExactValCmpx7
import Derived.Test.YtdmadlfdibiejaaPFnExactValCmpx8
import Derived.Test.YtdmadlfdibiejaaSv
namespace Go.Proofs.Ytdmadlfdibiejaa.PFnExactValCmp
open Go.RowKit Go.Proofs.YtdmadlfdibiejaaV.PrintWords Go.Proofs.YtdmadlfdibiejaaV.PrintLast Go.Proofs.YtdmadlfdibiejaaV.PrintMore Go.Proofs.YtdmadlfdibiejaaSv
set_option linter.unusedVariables false
set_option linter.unusedSimpArgs false
section
attribute [local go_sem] max2_int min2_int max_two min_two max_three min_three max_four min_four
attribute [local go_sem] Go.Proofs.YtdmadlfdibiejaaSet.isSome_setCell
def laws_FnExactValCmp.f (k : Nat) (a0 : Int) (a1_0 : Int) (a1_1 : Int) (a1_2 : Int) (a1_3 : Int) (a2_0 : Int) (a2_1 : Int) (a2_2 : Int) (a2_3 : Int) : Option (Bool) := (laws_toVal.f a1_0 a1_1 a1_2 a1_3).bind fun u1 => ((laws_toVal.f a2_0 a2_1 a2_2 a2_3).bind fun u2 => ((spec_ValCmp.f k a0 u1.1 u1.2.1 u1.2.2.1 u1.2.2.2 u2.1 u2.2.1 u2.2.2.1 u2.2.2.2).bind fun u3 => ((laws_toVal.f a1_0 a1_1 a1_2 a1_3).bind fun u4 => ((laws_toVal.f a2_0 a2_1 a2_2 a2_3).bind fun u5 => ((impl_ValCmp.f k a0 u4.1 u4.2.1 u4.2.2.1 u4.2.2.2 u5.1 u5.2.1 u5.2.2.1 u5.2.2.2).bind fun u6 => ((laws_eqVal.f u6.1 u6.2.1 u6.2.2.1 u6.2.2.2.1 u3.1 u3.2.1 u3.2.2.1 u3.2.2.2.1).bind fun t1 => (if t1 = true then ((laws_eqVal.f u6.2.2.2.2.1 u6.2.2.2.2.2.1 u6.2.2.2.2.2.2.1 u6.2.2.2.2.2.2.2 u3.2.2.2.2.1 u3.2.2.2.2.2.1 u3.2.2.2.2.2.2.1 u3.2.2.2.2.2.2.2).bind fun t2 => (if t2 = true then (some true) else (none))) else (none))))))))
theorem laws_FnExactValCmp.mono : ∀ a0 a1 a2 a3 a4 a5 a6 a7 a8 k, LeO (laws_FnExactValCmp.f k a0 a1 a2 a3 a4 a5 a6 a7 a8) (laws_FnExactValCmp.f (k + 1) a0 a1 a2 a3 a4 a5 a6 a7 a8) := by
 intro a0 a1 a2 a3 a4 a5 a6 a7 a8 k
 unfold laws_FnExactValCmp.f
 repeat' first | (with_reducible first | apply impl_ValCmp.mono | apply spec_ValCmp.mono | apply LeO.refl | apply LeO.none | refine LeO.ite ?_ ?_ | refine LeO.bind ?_ (fun _ => ?_)) | apply impl_ValCmp.mono | apply spec_ValCmp.mono | apply LeO.none | refine LeO.ite ?_ ?_ | refine LeO.bind ?_ (fun _ => ?_)
def laws_FnExactValCmp.T1 : Bool × List (List Nat × List Nat) := (true, [([], []), ([], []), ([1], [1]), ([], []), ([3, 2], [3]), ([0, 2, 4, 4], [0, 2, 4]), ([5], [5]), ([6], [6]), ([6], [6]), ([], []), ([], []), ([9, 7, 5, 0, 1, 2, 3, 4, 5, 6, 7, 9, 10], [7, 9]), ([10, 8, 11, 0, 1, 2, 3, 4, 5, 6, 7, 8, 9, 10, 11], [8, 10])])
def laws_FnExactValCmp.B1 : List Nat := [0, 0, 2, 0, 14, 31, 63, 127, 127, 0, 0, 1791, 4095]
theorem laws_FnExactValCmp.tab1 : rtab .any (opsOf Try.f3 1) = laws_FnExactValCmp.T1 := by kernel_rfl
theorem laws_FnExactValCmp.bits1 : waitsOk laws_FnExactValCmp.T1.2 laws_FnExactValCmp.B1 = true := by kernel_rfl
def laws_FnExactValCmp.T2 : Bool × List (List Nat × List Nat) := (true, [([], []), ([], []), ([1], [1]), ([], []), ([3, 2], [3]), ([0, 2, 4, 4], [0, 2, 4]), ([5], [5]), ([6], [6]), ([6], [6]), ([], []), ([], []), ([9, 7, 5, 0, 1, 2, 3, 4, 5, 6, 7, 9, 10], [7, 9]), ([10, 8, 11, 0, 1, 2, 3, 4, 5, 6, 7, 8, 9, 10, 11], [8, 10])])
def laws_FnExactValCmp.B2 : List Nat := [0, 0, 2, 0, 14, 31, 63, 127, 127, 0, 0, 1791, 4095]
theorem laws_FnExactValCmp.tab2 : rtab .any (opsOf Try.f3 2) = laws_FnExactValCmp.T2 := by kernel_rfl
theorem laws_FnExactValCmp.bits2 : waitsOk laws_FnExactValCmp.T2.2 laws_FnExactValCmp.B2 = true := by kernel_rfl
set_option maxHeartbeats 8000000 in
set_option maxRecDepth 100000 in
theorem laws_FnExactValCmp.calls (k : Nat) (a0 : Int) (a1_0 : Int) (a1_1 : Int) (a1_2 : Int) (a1_3 : Int) (a2_0 : Int) (a2_1 : Int) (a2_2 : Int) (a2_3 : Int) (r : Bool) (w : World) (h : laws_FnExactValCmp.f k a0 a1_0 a1_1 a1_2 a1_3 a2_0 a2_1 a2_2 a2_3 = some r) :
  Calls Try.prog 3 #[.int .i64 a0, .agg #[.int .i64 a1_0, .int .i64 a1_1, .int .i64 a1_2, .int .i64 a1_3], .agg #[.int .i64 a2_0, .int .i64 a2_1, .int .i64 a2_2, .int .i64 a2_3]] w fun e w' => e = .returned (.bool r) ∧ Below w.heap.size w w' := by
 have hu23 := Try.underlying23
 have hu24 := Try.underlying24
 have HB := am (Below.refl w.heap.size w)
 have H : ((laws_toVal.f a1_0 a1_1 a1_2 a1_3).bind fun u1 => ((laws_toVal.f a2_0 a2_1 a2_2 a2_3).bind fun u2 => ((spec_ValCmp.f k a0 u1.1 u1.2.1 u1.2.2.1 u1.2.2.2 u2.1 u2.2.1 u2.2.2.1 u2.2.2.2).bind fun u3 => ((laws_toVal.f a1_0 a1_1 a1_2 a1_3).bind fun u4 => ((laws_toVal.f a2_0 a2_1 a2_2 a2_3).bind fun u5 => ((impl_ValCmp.f k a0 u4.1 u4.2.1 u4.2.2.1 u4.2.2.2 u5.1 u5.2.1 u5.2.2.1 u5.2.2.2).bind fun u6 => ((laws_eqVal.f u6.1 u6.2.1 u6.2.2.1 u6.2.2.2.1 u3.1 u3.2.1 u3.2.2.1 u3.2.2.2.1).bind fun t1 => (if t1 = true then ((laws_eqVal.f u6.2.2.2.2.1 u6.2.2.2.2.2.1 u6.2.2.2.2.2.2.1 u6.2.2.2.2.2.2.2 u3.2.2.2.2.1 u3.2.2.2.2.2.1 u3.2.2.2.2.2.2.1 u3.2.2.2.2.2.2.2).bind fun t2 => (if t2 = true then (some true) else (none))) else (none))))))))) = some r := h
 clear h
 obtain ⟨⟨t3, t4, t5, t6⟩, A1, H⟩ := bd H
 try dsimp only at H
 obtain ⟨⟨t7, t8, t9, t10⟩, A2, H⟩ := bd H
 try dsimp only at H
 obtain ⟨⟨t11, t12, t13, t14, t15, t16, t17, t18⟩, A3, H⟩ := bd H
 try dsimp only at H
 obtain ⟨⟨t19, t20, t21, t22⟩, A4, H⟩ := bd H
 try dsimp only at H
 obtain ⟨⟨t23, t24, t25, t26⟩, A5, H⟩ := bd H
 try dsimp only at H
 obtain ⟨⟨t27, t28, t29, t30, t31, t32, t33, t34⟩, A6, H⟩ := bd H
 try dsimp only at H
 obtain ⟨t1, A7, H⟩ := bd H
 try dsimp only at H
 by_cases c1 : t1 = true
 rotate_left
 ·replace c1 := Bool.eq_false_iff.mpr c1
  subst c1
  rw [if_neg ff] at H
  exact absurd H (by simp)
 subst c1
 rw [if_pos rfl] at H
 obtain ⟨t2, A8, H⟩ := bd H
 try dsimp only at H
 by_cases c2 : t2 = true
 rotate_left
 ·replace c2 := Bool.eq_false_iff.mpr c2
  subst c2
  rw [if_neg ff] at H
  exact absurd H (by simp)
 subst c2
 rw [if_pos rfl] at H
 obtain rfl := Option.some.inj H
 go_enter Try.func3, Try.ntmps3
 try go_wp2_with (first | ((with_reducible refine gate_dst (N := 4) rfl ?_); refine bxn 4 #[.int .i64 a1_0, .int .i64 a1_1, .int .i64 a1_2, .int .i64 a1_3] 23 HB fun g1 w2 K1 G1 hg hb => ?_; replace HB := am (below_step (YA HB) hb); clear hb hg) | ((with_reducible refine gate_dst (N := 5) rfl ?_); refine bxn 5 #[.int .i64 a2_0, .int .i64 a2_1, .int .i64 a2_2, .int .i64 a2_3] 23 HB fun g2 w3 K2 G2 hg hb => ?_; obtain ⟨N1,N2⟩ := ne_ hg K1; obtain ⟨K1, HB⟩ := bk1 K1 HB hb; clear hb hg))
 obtain ⟨K1, K2, HB⟩ := dk2 K1 K2 HB
 refine start_ (n := 13) (S := fun w' => w'.cell? ⟨g1, 0, none⟩ = some (.int .i64 a1_0) ∧ w'.cell? ⟨g1, 1, none⟩ = some (.int .i64 a1_1) ∧ w'.cell? ⟨g1, 2, none⟩ = some (.int .i64 a1_2) ∧ w'.cell? ⟨g1, 3, none⟩ = some (.int .i64 a1_3) ∧ w'.cell? ⟨g2, 0, none⟩ = some (.int .i64 a2_0) ∧ w'.cell? ⟨g2, 1, none⟩ = some (.int .i64 a2_1) ∧ w'.cell? ⟨g2, 2, none⟩ = some (.int .i64 a2_2) ∧ w'.cell? ⟨g2, 3, none⟩ = some (.int .i64 a2_3)) (ds := []) (lb 13 0) (by kernel_rfl) rfl rfl ⟨bc K1 0, bc K1 1, bc K1 2, bc K1 3, bc K2 0, bc K2 1, bc K2 2, bc K2 3⟩ (fun hHeld => ?_); refine with_tabW laws_FnExactValCmp.tab1 laws_FnExactValCmp.bits1 (fun HT_ HW_ => ?_)
 generalize w3.drew = w4 at K1 K2 HB hHeld ⊢
 refine pk 0 12 1 ?_
 refine tk 1 13 3 hHeld ?_
 refine tk 3 15 11 hHeld ?_
 refine join_ (σ := Nat × Nat) 2 (lb 13 2047) (fun s_ => [(14, .agg #[.int .i64 t3, .int .i64 t4, .int .i64 t5, .int .i64 t6]), (16, .agg #[.int .i64 t7, .int .i64 t8, .int .i64 t9, .int .i64 t10]), (17, .tuple #[.agg #[.int .i64 t11, .int .i64 t12, .int .i64 t13, .int .i64 t14], .agg #[.int .i64 t15, .int .i64 t16, .int .i64 t17, .int .i64 t18]]), (7, .pointer (some ⟨s_.1, 0, none⟩)), (8, .pointer (some ⟨s_.2, 0, none⟩)), (11, .tuple #[.agg #[.int .i64 t11, .int .i64 t12, .int .i64 t13, .int .i64 t14], .agg #[.int .i64 t15, .int .i64 t16, .int .i64 t17, .int .i64 t18]]), (18, .agg #[.int .i64 t11, .int .i64 t12, .int .i64 t13, .int .i64 t14]), (19, .agg #[.int .i64 t15, .int .i64 t16, .int .i64 t17, .int .i64 t18])]) (fun s_ w' => (w'.cell? ⟨g1, 0, none⟩ = some (.int .i64 a1_0) ∧ w'.cell? ⟨g1, 1, none⟩ = some (.int .i64 a1_1) ∧ w'.cell? ⟨g1, 2, none⟩ = some (.int .i64 a1_2) ∧ w'.cell? ⟨g1, 3, none⟩ = some (.int .i64 a1_3) ∧ w'.cell? ⟨g2, 0, none⟩ = some (.int .i64 a2_0) ∧ w'.cell? ⟨g2, 1, none⟩ = some (.int .i64 a2_1) ∧ w'.cell? ⟨g2, 2, none⟩ = some (.int .i64 a2_2) ∧ w'.cell? ⟨g2, 3, none⟩ = some (.int .i64 a2_3)) ∧ (w'.heap[g1]? = some (.cells #[.int .i64 a1_0, .int .i64 a1_1, .int .i64 a1_2, .int .i64 a1_3] 23 (0, 0))) ∧ (w'.heap[g2]? = some (.cells #[.int .i64 a2_0, .int .i64 a2_1, .int .i64 a2_2, .int .i64 a2_3] 23 (0, 0))) ∧ (w'.heap[s_.1]? = some (.cells #[.int .i64 0, .int .i64 0, .int .i64 0, .int .i64 0] 24 (0, 0))) ∧ (w'.heap[s_.2]? = some (.cells #[.int .i64 0, .int .i64 0, .int .i64 0, .int .i64 0] 24 (0, 0))) ∧ (w.heap.size ≤ s_.1) ∧ (w.heap.size ≤ s_.1) ∧ (g1 ≠ s_.1) ∧ (s_.1 ≠ g1) ∧ (g2 ≠ s_.1) ∧ (s_.1 ≠ g2) ∧ (s_.2 ≠ s_.1) ∧ (s_.1 ≠ s_.2) ∧ (w.heap.size ≤ s_.2) ∧ (w.heap.size ≤ s_.2) ∧ (g1 ≠ s_.2) ∧ (s_.2 ≠ g1) ∧ (g2 ≠ s_.2) ∧ (s_.2 ≠ g2) ∧ (Below w.heap.size w w')) ?_ ?_
 rotate_left
 ·intro hJ2_4_5_9_10
  refine join_ (σ := Nat) 3 (lb 13 1023) (fun s_ => [(14, .agg #[.int .i64 t3, .int .i64 t4, .int .i64 t5, .int .i64 t6]), (16, .agg #[.int .i64 t7, .int .i64 t8, .int .i64 t9, .int .i64 t10]), (17, .tuple #[.agg #[.int .i64 t11, .int .i64 t12, .int .i64 t13, .int .i64 t14], .agg #[.int .i64 t15, .int .i64 t16, .int .i64 t17, .int .i64 t18]]), (7, .pointer (some ⟨s_, 0, none⟩)), (11, .tuple #[.agg #[.int .i64 t11, .int .i64 t12, .int .i64 t13, .int .i64 t14], .agg #[.int .i64 t15, .int .i64 t16, .int .i64 t17, .int .i64 t18]]), (18, .agg #[.int .i64 t11, .int .i64 t12, .int .i64 t13, .int .i64 t14]), (19, .agg #[.int .i64 t15, .int .i64 t16, .int .i64 t17, .int .i64 t18])]) (fun s_ w' => (w'.cell? ⟨g1, 0, none⟩ = some (.int .i64 a1_0) ∧ w'.cell? ⟨g1, 1, none⟩ = some (.int .i64 a1_1) ∧ w'.cell? ⟨g1, 2, none⟩ = some (.int .i64 a1_2) ∧ w'.cell? ⟨g1, 3, none⟩ = some (.int .i64 a1_3) ∧ w'.cell? ⟨g2, 0, none⟩ = some (.int .i64 a2_0) ∧ w'.cell? ⟨g2, 1, none⟩ = some (.int .i64 a2_1) ∧ w'.cell? ⟨g2, 2, none⟩ = some (.int .i64 a2_2) ∧ w'.cell? ⟨g2, 3, none⟩ = some (.int .i64 a2_3)) ∧ (w'.heap[g1]? = some (.cells #[.int .i64 a1_0, .int .i64 a1_1, .int .i64 a1_2, .int .i64 a1_3] 23 (0, 0))) ∧ (w'.heap[g2]? = some (.cells #[.int .i64 a2_0, .int .i64 a2_1, .int .i64 a2_2, .int .i64 a2_3] 23 (0, 0))) ∧ (w'.heap[s_]? = some (.cells #[.int .i64 0, .int .i64 0, .int .i64 0, .int .i64 0] 24 (0, 0))) ∧ (w.heap.size ≤ s_) ∧ (w.heap.size ≤ s_) ∧ (g1 ≠ s_) ∧ (s_ ≠ g1) ∧ (g2 ≠ s_) ∧ (s_ ≠ g2) ∧ (Below w.heap.size w w')) ?_ ?_
  rotate_left
  rotate_left
  ·skip
   rintro g3 w5 ⟨hS_, h0_, h1_, h2_, h3_, h4_, h5_, h6_, h7_, h8_, h9_⟩
   have K3 : Bx4 w5 g3 0 0 0 0 24 := ⟨h2_⟩
   have G3 : Aside0 (w.heap.size ≤ g3) := ⟨h3_⟩
   have G4 : Aside0 (w.heap.size ≤ g3) := ⟨h4_⟩
   have N3 : Aside0 (g1 ≠ g3) := ⟨h5_⟩
   have N4 : Aside0 (g3 ≠ g1) := ⟨h6_⟩
   have N5 : Aside0 (g2 ≠ g3) := ⟨h7_⟩
   have N6 : Aside0 (g3 ≠ g2) := ⟨h8_⟩
   replace K1 : Bx4 w5 g1 a1_0 a1_1 a1_2 a1_3 23 := ⟨h0_⟩
   replace K2 : Bx4 w5 g2 a2_0 a2_1 a2_2 a2_3 23 := ⟨h1_⟩
   replace HB : Aside0 (Below w.heap.size w w5) := ⟨h9_⟩
   clear h0_ h1_ h2_ h3_ h4_ h5_ h6_ h7_ h8_ h9_
   have hHeld : w5.cell? ⟨g1, 0, none⟩ = some (.int .i64 a1_0) ∧ w5.cell? ⟨g1, 1, none⟩ = some (.int .i64 a1_1) ∧ w5.cell? ⟨g1, 2, none⟩ = some (.int .i64 a1_2) ∧ w5.cell? ⟨g1, 3, none⟩ = some (.int .i64 a1_3) ∧ w5.cell? ⟨g2, 0, none⟩ = some (.int .i64 a2_0) ∧ w5.cell? ⟨g2, 1, none⟩ = some (.int .i64 a2_1) ∧ w5.cell? ⟨g2, 2, none⟩ = some (.int .i64 a2_2) ∧ w5.cell? ⟨g2, 3, none⟩ = some (.int .i64 a2_3) := hS_
   refine norm_ (a' := ?_) ?_ ?_
   rotate_left
   ·simp only [putAll, Act.put, List.setIfInBounds_toArray, List.set_cons_zero, List.set_cons_succ]
    rfl
   refine on 10 (some 8) 2047 fun K hK => ?_
   refine box_step ?hg (N := 8) ?hd (cs := #[.int .i64 0, .int .i64 0, .int .i64 0, .int .i64 0]) (t := 24) ?hr ?_; (case hd => rfl); (case hg => rfl); (case hr => first | (go_simp; done) | (go_simp; rfl))
   intro g4 hg w6 hbox hb
   have K4 := am (hbox)
   have G5 := am (bs hg (YA HB))
   have G6 := am (bs hg (YA HB))
   obtain ⟨N7,N8⟩ := ne_ hg K1
   obtain ⟨N9,N10⟩ := ne_ hg K2
   obtain ⟨N11,N12⟩ := ne_ hg K3
   obtain ⟨K1, K2, K3, HB⟩ := bk3 K1 K2 K3 HB hb
   clear hb hbox hg
   refine kk hK ⟨bc K1 0, bc K1 1, bc K1 2, bc K1 3, bc K2 0, bc K2 1, bc K2 2, bc K2 3⟩ fun hHeld => ?_
   clear hK K
   exact norm_ nz (hJ2_4_5_9_10 (g3, g4) _ ⟨hHeld, (Z K1), (Z K2), (Z K3), (Z K4), G3.out, G4.out, N3.out, N4.out, N5.out, N6.out, N12.out, N11.out, G5.out, G6.out, N7.out, N8.out, N9.out, N10.out, (YA HB)⟩)
  intro hJ2_4_5_9
  refine join_ (σ := Nat) 3 (lb 13 1535) (fun s_ => [(14, .agg #[.int .i64 t3, .int .i64 t4, .int .i64 t5, .int .i64 t6]), (16, .agg #[.int .i64 t7, .int .i64 t8, .int .i64 t9, .int .i64 t10]), (17, .tuple #[.agg #[.int .i64 t11, .int .i64 t12, .int .i64 t13, .int .i64 t14], .agg #[.int .i64 t15, .int .i64 t16, .int .i64 t17, .int .i64 t18]]), (8, .pointer (some ⟨s_, 0, none⟩)), (11, .tuple #[.agg #[.int .i64 t11, .int .i64 t12, .int .i64 t13, .int .i64 t14], .agg #[.int .i64 t15, .int .i64 t16, .int .i64 t17, .int .i64 t18]]), (18, .agg #[.int .i64 t11, .int .i64 t12, .int .i64 t13, .int .i64 t14]), (19, .agg #[.int .i64 t15, .int .i64 t16, .int .i64 t17, .int .i64 t18])]) (fun s_ w' => (w'.cell? ⟨g1, 0, none⟩ = some (.int .i64 a1_0) ∧ w'.cell? ⟨g1, 1, none⟩ = some (.int .i64 a1_1) ∧ w'.cell? ⟨g1, 2, none⟩ = some (.int .i64 a1_2) ∧ w'.cell? ⟨g1, 3, none⟩ = some (.int .i64 a1_3) ∧ w'.cell? ⟨g2, 0, none⟩ = some (.int .i64 a2_0) ∧ w'.cell? ⟨g2, 1, none⟩ = some (.int .i64 a2_1) ∧ w'.cell? ⟨g2, 2, none⟩ = some (.int .i64 a2_2) ∧ w'.cell? ⟨g2, 3, none⟩ = some (.int .i64 a2_3)) ∧ (w'.heap[g1]? = some (.cells #[.int .i64 a1_0, .int .i64 a1_1, .int .i64 a1_2, .int .i64 a1_3] 23 (0, 0))) ∧ (w'.heap[g2]? = some (.cells #[.int .i64 a2_0, .int .i64 a2_1, .int .i64 a2_2, .int .i64 a2_3] 23 (0, 0))) ∧ (w'.heap[s_]? = some (.cells #[.int .i64 0, .int .i64 0, .int .i64 0, .int .i64 0] 24 (0, 0))) ∧ (w.heap.size ≤ s_) ∧ (w.heap.size ≤ s_) ∧ (g1 ≠ s_) ∧ (s_ ≠ g1) ∧ (g2 ≠ s_) ∧ (s_ ≠ g2) ∧ (Below w.heap.size w w')) ?_ ?_
  rotate_left
  rotate_left
  ·skip
   rintro g3 w5 ⟨hS_, h0_, h1_, h2_, h3_, h4_, h5_, h6_, h7_, h8_, h9_⟩
   have K3 : Bx4 w5 g3 0 0 0 0 24 := ⟨h2_⟩
   have G3 : Aside0 (w.heap.size ≤ g3) := ⟨h3_⟩
   have G4 : Aside0 (w.heap.size ≤ g3) := ⟨h4_⟩
   have N3 : Aside0 (g1 ≠ g3) := ⟨h5_⟩
   have N4 : Aside0 (g3 ≠ g1) := ⟨h6_⟩
   have N5 : Aside0 (g2 ≠ g3) := ⟨h7_⟩
   have N6 : Aside0 (g3 ≠ g2) := ⟨h8_⟩
   replace K1 : Bx4 w5 g1 a1_0 a1_1 a1_2 a1_3 23 := ⟨h0_⟩
   replace K2 : Bx4 w5 g2 a2_0 a2_1 a2_2 a2_3 23 := ⟨h1_⟩
   replace HB : Aside0 (Below w.heap.size w w5) := ⟨h9_⟩
   clear h0_ h1_ h2_ h3_ h4_ h5_ h6_ h7_ h8_ h9_
   have hHeld : w5.cell? ⟨g1, 0, none⟩ = some (.int .i64 a1_0) ∧ w5.cell? ⟨g1, 1, none⟩ = some (.int .i64 a1_1) ∧ w5.cell? ⟨g1, 2, none⟩ = some (.int .i64 a1_2) ∧ w5.cell? ⟨g1, 3, none⟩ = some (.int .i64 a1_3) ∧ w5.cell? ⟨g2, 0, none⟩ = some (.int .i64 a2_0) ∧ w5.cell? ⟨g2, 1, none⟩ = some (.int .i64 a2_1) ∧ w5.cell? ⟨g2, 2, none⟩ = some (.int .i64 a2_2) ∧ w5.cell? ⟨g2, 3, none⟩ = some (.int .i64 a2_3) := hS_
   refine norm_ (a' := ?_) ?_ ?_
   rotate_left
   ·simp only [putAll, Act.put, List.setIfInBounds_toArray, List.set_cons_zero, List.set_cons_succ]
    rfl
   refine on 9 (some 7) 2047 fun K hK => ?_
   refine box_step ?hg (N := 7) ?hd (cs := #[.int .i64 0, .int .i64 0, .int .i64 0, .int .i64 0]) (t := 24) ?hr ?_; (case hd => rfl); (case hg => rfl); (case hr => first | (go_simp; done) | (go_simp; rfl))
   intro g4 hg w6 hbox hb
   have K4 := am (hbox)
   have G5 := am (bs hg (YA HB))
   have G6 := am (bs hg (YA HB))
   obtain ⟨N7,N8⟩ := ne_ hg K1
   obtain ⟨N9,N10⟩ := ne_ hg K2
   obtain ⟨N11,N12⟩ := ne_ hg K3
   obtain ⟨K1, K2, K3, HB⟩ := bk3 K1 K2 K3 HB hb
   clear hb hbox hg
   refine kk hK ⟨bc K1 0, bc K1 1, bc K1 2, bc K1 3, bc K2 0, bc K2 1, bc K2 2, bc K2 3⟩ fun hHeld => ?_
   clear hK K
   exact norm_ nz (hJ2_4_5_9_10 (g4, g3) _ ⟨hHeld, (Z K1), (Z K2), (Z K4), (Z K3), G5.out, G6.out, N7.out, N8.out, N9.out, N10.out, N11.out, N12.out, G3.out, G4.out, N3.out, N4.out, N5.out, N6.out, (YA HB)⟩)
  intro hJ2_4_5_10
  refine join_ (σ := Nat × Nat) 6 (lb 13 1567) (fun s_ => [(14, .agg #[.int .i64 t3, .int .i64 t4, .int .i64 t5, .int .i64 t6]), (16, .agg #[.int .i64 t7, .int .i64 t8, .int .i64 t9, .int .i64 t10]), (7, .pointer (some ⟨s_.1, 0, none⟩)), (8, .pointer (some ⟨s_.2, 0, none⟩))]) (fun s_ w' => (w'.cell? ⟨g1, 0, none⟩ = some (.int .i64 a1_0) ∧ w'.cell? ⟨g1, 1, none⟩ = some (.int .i64 a1_1) ∧ w'.cell? ⟨g1, 2, none⟩ = some (.int .i64 a1_2) ∧ w'.cell? ⟨g1, 3, none⟩ = some (.int .i64 a1_3) ∧ w'.cell? ⟨g2, 0, none⟩ = some (.int .i64 a2_0) ∧ w'.cell? ⟨g2, 1, none⟩ = some (.int .i64 a2_1) ∧ w'.cell? ⟨g2, 2, none⟩ = some (.int .i64 a2_2) ∧ w'.cell? ⟨g2, 3, none⟩ = some (.int .i64 a2_3)) ∧ (w'.heap[g1]? = some (.cells #[.int .i64 a1_0, .int .i64 a1_1, .int .i64 a1_2, .int .i64 a1_3] 23 (0, 0))) ∧ (w'.heap[g2]? = some (.cells #[.int .i64 a2_0, .int .i64 a2_1, .int .i64 a2_2, .int .i64 a2_3] 23 (0, 0))) ∧ (w'.heap[s_.1]? = some (.cells #[.int .i64 0, .int .i64 0, .int .i64 0, .int .i64 0] 24 (0, 0))) ∧ (w'.heap[s_.2]? = some (.cells #[.int .i64 0, .int .i64 0, .int .i64 0, .int .i64 0] 24 (0, 0))) ∧ (w.heap.size ≤ s_.1) ∧ (w.heap.size ≤ s_.1) ∧ (g1 ≠ s_.1) ∧ (s_.1 ≠ g1) ∧ (g2 ≠ s_.1) ∧ (s_.1 ≠ g2) ∧ (s_.2 ≠ s_.1) ∧ (s_.1 ≠ s_.2) ∧ (w.heap.size ≤ s_.2) ∧ (w.heap.size ≤ s_.2) ∧ (g1 ≠ s_.2) ∧ (s_.2 ≠ g1) ∧ (g2 ≠ s_.2) ∧ (s_.2 ≠ g2) ∧ (Below w.heap.size w w')) ?_ ?_
  rotate_left
  rotate_left
  ·skip
   rintro ⟨g3, g4⟩ w5 ⟨hS_, h0_, h1_, h2_, h3_, h4_, h5_, h6_, h7_, h8_, h9_, h10_, h11_, h12_, h13_, h14_, h15_, h16_, h17_, h18_⟩
   have K3 : Bx4 w5 g3 0 0 0 0 24 := ⟨h2_⟩
   have K4 : Bx4 w5 g4 0 0 0 0 24 := ⟨h3_⟩
   have G3 : Aside0 (w.heap.size ≤ g3) := ⟨h4_⟩
   have G4 : Aside0 (w.heap.size ≤ g3) := ⟨h5_⟩
   have N3 : Aside0 (g1 ≠ g3) := ⟨h6_⟩
   have N4 : Aside0 (g3 ≠ g1) := ⟨h7_⟩
   have N5 : Aside0 (g2 ≠ g3) := ⟨h8_⟩
   have N6 : Aside0 (g3 ≠ g2) := ⟨h9_⟩
   have N7 : Aside0 (g4 ≠ g3) := ⟨h10_⟩
   have N8 : Aside0 (g3 ≠ g4) := ⟨h11_⟩
   have G5 : Aside0 (w.heap.size ≤ g4) := ⟨h12_⟩
   have G6 : Aside0 (w.heap.size ≤ g4) := ⟨h13_⟩
   have N9 : Aside0 (g1 ≠ g4) := ⟨h14_⟩
   have N10 : Aside0 (g4 ≠ g1) := ⟨h15_⟩
   have N11 : Aside0 (g2 ≠ g4) := ⟨h16_⟩
   have N12 : Aside0 (g4 ≠ g2) := ⟨h17_⟩
   replace K1 : Bx4 w5 g1 a1_0 a1_1 a1_2 a1_3 23 := ⟨h0_⟩
   replace K2 : Bx4 w5 g2 a2_0 a2_1 a2_2 a2_3 23 := ⟨h1_⟩
   replace HB : Aside0 (Below w.heap.size w w5) := ⟨h18_⟩
   clear h0_ h1_ h2_ h3_ h4_ h5_ h6_ h7_ h8_ h9_ h10_ h11_ h12_ h13_ h14_ h15_ h16_ h17_ h18_
   have hHeld : w5.cell? ⟨g1, 0, none⟩ = some (.int .i64 a1_0) ∧ w5.cell? ⟨g1, 1, none⟩ = some (.int .i64 a1_1) ∧ w5.cell? ⟨g1, 2, none⟩ = some (.int .i64 a1_2) ∧ w5.cell? ⟨g1, 3, none⟩ = some (.int .i64 a1_3) ∧ w5.cell? ⟨g2, 0, none⟩ = some (.int .i64 a2_0) ∧ w5.cell? ⟨g2, 1, none⟩ = some (.int .i64 a2_1) ∧ w5.cell? ⟨g2, 2, none⟩ = some (.int .i64 a2_2) ∧ w5.cell? ⟨g2, 3, none⟩ = some (.int .i64 a2_3) := hS_
   refine norm_ (a' := ?_) ?_ ?_
   rotate_left
   ·simp only [putAll, Act.put, List.setIfInBounds_toArray, List.set_cons_zero, List.set_cons_succ]
    rfl
   refine cl4 5 17 1599 Try.func4 (spec_ValCmp.calls _ _ _ _ _ _ _ _ _ _ _ _ _ _ _ _ _ _ _ A3.out) K1 K2 K3 K4 HB fun w6 K1 K2 K3 K4 HB hHeld => ?_
   refine pk 6 11 1663 ?_
   refine pk 7 18 1791 ?_
   refine pk 8 19 2047 ?_
   exact norm_ nz (hJ2_4_5_9_10 (g3, g4) _ ⟨hHeld, (Z K1), (Z K2), (Z K3), (Z K4), G3.out, G4.out, N3.out, N4.out, N5.out, N6.out, N7.out, N8.out, G5.out, G6.out, N9.out, N10.out, N11.out, N12.out, (YA HB)⟩)
  intro hJ2_4_9_10
  refine join_ (σ := Unit) 4 (lb 13 511) (fun s_ => [(14, .agg #[.int .i64 t3, .int .i64 t4, .int .i64 t5, .int .i64 t6]), (16, .agg #[.int .i64 t7, .int .i64 t8, .int .i64 t9, .int .i64 t10]), (17, .tuple #[.agg #[.int .i64 t11, .int .i64 t12, .int .i64 t13, .int .i64 t14], .agg #[.int .i64 t15, .int .i64 t16, .int .i64 t17, .int .i64 t18]]), (11, .tuple #[.agg #[.int .i64 t11, .int .i64 t12, .int .i64 t13, .int .i64 t14], .agg #[.int .i64 t15, .int .i64 t16, .int .i64 t17, .int .i64 t18]]), (18, .agg #[.int .i64 t11, .int .i64 t12, .int .i64 t13, .int .i64 t14]), (19, .agg #[.int .i64 t15, .int .i64 t16, .int .i64 t17, .int .i64 t18])]) (fun s_ w' => (w'.cell? ⟨g1, 0, none⟩ = some (.int .i64 a1_0) ∧ w'.cell? ⟨g1, 1, none⟩ = some (.int .i64 a1_1) ∧ w'.cell? ⟨g1, 2, none⟩ = some (.int .i64 a1_2) ∧ w'.cell? ⟨g1, 3, none⟩ = some (.int .i64 a1_3) ∧ w'.cell? ⟨g2, 0, none⟩ = some (.int .i64 a2_0) ∧ w'.cell? ⟨g2, 1, none⟩ = some (.int .i64 a2_1) ∧ w'.cell? ⟨g2, 2, none⟩ = some (.int .i64 a2_2) ∧ w'.cell? ⟨g2, 3, none⟩ = some (.int .i64 a2_3)) ∧ (w'.heap[g1]? = some (.cells #[.int .i64 a1_0, .int .i64 a1_1, .int .i64 a1_2, .int .i64 a1_3] 23 (0, 0))) ∧ (w'.heap[g2]? = some (.cells #[.int .i64 a2_0, .int .i64 a2_1, .int .i64 a2_2, .int .i64 a2_3] 23 (0, 0))) ∧ (Below w.heap.size w w')) ?_ ?_
  rotate_left
  rotate_left
  ·skip
   rintro _ w5 ⟨hS_, h0_, h1_, h2_⟩
   replace K1 : Bx4 w5 g1 a1_0 a1_1 a1_2 a1_3 23 := ⟨h0_⟩
   replace K2 : Bx4 w5 g2 a2_0 a2_1 a2_2 a2_3 23 := ⟨h1_⟩
   replace HB : Aside0 (Below w.heap.size w w5) := ⟨h2_⟩
   clear h0_ h1_ h2_
   have hHeld : w5.cell? ⟨g1, 0, none⟩ = some (.int .i64 a1_0) ∧ w5.cell? ⟨g1, 1, none⟩ = some (.int .i64 a1_1) ∧ w5.cell? ⟨g1, 2, none⟩ = some (.int .i64 a1_2) ∧ w5.cell? ⟨g1, 3, none⟩ = some (.int .i64 a1_3) ∧ w5.cell? ⟨g2, 0, none⟩ = some (.int .i64 a2_0) ∧ w5.cell? ⟨g2, 1, none⟩ = some (.int .i64 a2_1) ∧ w5.cell? ⟨g2, 2, none⟩ = some (.int .i64 a2_2) ∧ w5.cell? ⟨g2, 3, none⟩ = some (.int .i64 a2_3) := hS_
   refine norm_ (a' := ?_) ?_ ?_
   rotate_left
   ·simp only [putAll, Act.put, List.setIfInBounds_toArray, List.set_cons_zero, List.set_cons_succ]
    rfl
   refine two_ (i := 9) (j := 10) (Ni := some 7) (Nj := some 8) (lb 13 1023) (lb 13 1535) rfl rfl rfl rfl (two_of HT_.out (by kernel_rfl)) (by decide) (by decide) (fun K hK => ?_) (fun K hK => ?_)
   ·skip
    refine box_step ?hg (N := 7) ?hd (cs := #[.int .i64 0, .int .i64 0, .int .i64 0, .int .i64 0]) (t := 24) ?hr ?_; (case hd => rfl); (case hg => rfl); (case hr => first | (go_simp; done) | (go_simp; rfl))
    intro g3 hg w6 hbox hb
    have K3 := am (hbox)
    have G3 := am (bs hg (YA HB))
    have G4 := am (bs hg (YA HB))
    obtain ⟨N3,N4⟩ := ne_ hg K1
    obtain ⟨N5,N6⟩ := ne_ hg K2
    obtain ⟨K1, K2, HB⟩ := bk2 K1 K2 HB hb
    clear hb hbox hg
    refine kk hK ⟨bc K1 0, bc K1 1, bc K1 2, bc K1 3, bc K2 0, bc K2 1, bc K2 2, bc K2 3⟩ fun hHeld => ?_
    clear hK K
    exact norm_ nz (hJ2_4_5_9 (g3) _ ⟨hHeld, (Z K1), (Z K2), (Z K3), G3.out, G4.out, N3.out, N4.out, N5.out, N6.out, (YA HB)⟩)
   skip
   refine box_step ?hg (N := 8) ?hd (cs := #[.int .i64 0, .int .i64 0, .int .i64 0, .int .i64 0]) (t := 24) ?hr ?_; (case hd => rfl); (case hg => rfl); (case hr => first | (go_simp; done) | (go_simp; rfl))
   intro g3 hg w6 hbox hb
   have K3 := am (hbox)
   have G3 := am (bs hg (YA HB))
   have G4 := am (bs hg (YA HB))
   obtain ⟨N3,N4⟩ := ne_ hg K1
   obtain ⟨N5,N6⟩ := ne_ hg K2
   obtain ⟨K1, K2, HB⟩ := bk2 K1 K2 HB hb
   clear hb hbox hg
   refine kk hK ⟨bc K1 0, bc K1 1, bc K1 2, bc K1 3, bc K2 0, bc K2 1, bc K2 2, bc K2 3⟩ fun hHeld => ?_
   clear hK K
   exact norm_ nz (hJ2_4_5_10 (g3) _ ⟨hHeld, (Z K1), (Z K2), (Z K3), G3.out, G4.out, N3.out, N4.out, N5.out, N6.out, (YA HB)⟩)
  intro hJ2_4_5
  refine join_ (σ := Nat) 7 (lb 13 543) (fun s_ => [(14, .agg #[.int .i64 t3, .int .i64 t4, .int .i64 t5, .int .i64 t6]), (16, .agg #[.int .i64 t7, .int .i64 t8, .int .i64 t9, .int .i64 t10]), (7, .pointer (some ⟨s_, 0, none⟩))]) (fun s_ w' => (w'.cell? ⟨g1, 0, none⟩ = some (.int .i64 a1_0) ∧ w'.cell? ⟨g1, 1, none⟩ = some (.int .i64 a1_1) ∧ w'.cell? ⟨g1, 2, none⟩ = some (.int .i64 a1_2) ∧ w'.cell? ⟨g1, 3, none⟩ = some (.int .i64 a1_3) ∧ w'.cell? ⟨g2, 0, none⟩ = some (.int .i64 a2_0) ∧ w'.cell? ⟨g2, 1, none⟩ = some (.int .i64 a2_1) ∧ w'.cell? ⟨g2, 2, none⟩ = some (.int .i64 a2_2) ∧ w'.cell? ⟨g2, 3, none⟩ = some (.int .i64 a2_3)) ∧ (w'.heap[g1]? = some (.cells #[.int .i64 a1_0, .int .i64 a1_1, .int .i64 a1_2, .int .i64 a1_3] 23 (0, 0))) ∧ (w'.heap[g2]? = some (.cells #[.int .i64 a2_0, .int .i64 a2_1, .int .i64 a2_2, .int .i64 a2_3] 23 (0, 0))) ∧ (w'.heap[s_]? = some (.cells #[.int .i64 0, .int .i64 0, .int .i64 0, .int .i64 0] 24 (0, 0))) ∧ (w.heap.size ≤ s_) ∧ (w.heap.size ≤ s_) ∧ (g1 ≠ s_) ∧ (s_ ≠ g1) ∧ (g2 ≠ s_) ∧ (s_ ≠ g2) ∧ (Below w.heap.size w w')) ?_ ?_
  rotate_left
  rotate_left
  ·skip
   rintro g3 w5 ⟨hS_, h0_, h1_, h2_, h3_, h4_, h5_, h6_, h7_, h8_, h9_⟩
   have K3 : Bx4 w5 g3 0 0 0 0 24 := ⟨h2_⟩
   have G3 : Aside0 (w.heap.size ≤ g3) := ⟨h3_⟩
   have G4 : Aside0 (w.heap.size ≤ g3) := ⟨h4_⟩
   have N3 : Aside0 (g1 ≠ g3) := ⟨h5_⟩
   have N4 : Aside0 (g3 ≠ g1) := ⟨h6_⟩
   have N5 : Aside0 (g2 ≠ g3) := ⟨h7_⟩
   have N6 : Aside0 (g3 ≠ g2) := ⟨h8_⟩
   replace K1 : Bx4 w5 g1 a1_0 a1_1 a1_2 a1_3 23 := ⟨h0_⟩
   replace K2 : Bx4 w5 g2 a2_0 a2_1 a2_2 a2_3 23 := ⟨h1_⟩
   replace HB : Aside0 (Below w.heap.size w w5) := ⟨h9_⟩
   clear h0_ h1_ h2_ h3_ h4_ h5_ h6_ h7_ h8_ h9_
   have hHeld : w5.cell? ⟨g1, 0, none⟩ = some (.int .i64 a1_0) ∧ w5.cell? ⟨g1, 1, none⟩ = some (.int .i64 a1_1) ∧ w5.cell? ⟨g1, 2, none⟩ = some (.int .i64 a1_2) ∧ w5.cell? ⟨g1, 3, none⟩ = some (.int .i64 a1_3) ∧ w5.cell? ⟨g2, 0, none⟩ = some (.int .i64 a2_0) ∧ w5.cell? ⟨g2, 1, none⟩ = some (.int .i64 a2_1) ∧ w5.cell? ⟨g2, 2, none⟩ = some (.int .i64 a2_2) ∧ w5.cell? ⟨g2, 3, none⟩ = some (.int .i64 a2_3) := hS_
   refine norm_ (a' := ?_) ?_ ?_
   rotate_left
   ·simp only [putAll, Act.put, List.setIfInBounds_toArray, List.set_cons_zero, List.set_cons_succ]
    rfl
   refine two_ (i := 5) (j := 10) (Ni := some 17) (Nj := some 8) (lb 13 575) (lb 13 1567) rfl rfl rfl rfl (two_of HT_.out (by kernel_rfl)) (by decide) (by decide) (fun K hK => ?_) (fun K hK => ?_)
   ·skip
    refine ck3 hK Try.func4 (spec_ValCmp.calls _ _ _ _ _ _ _ _ _ _ _ _ _ _ _ _ _ _ _ A3.out) K1 K2 K3 HB fun w6 K1 K2 K3 HB hHeld => ?_
    clear hK K
    refine pk 6 11 639 ?_
    refine pk 7 18 767 ?_
    refine pk 8 19 1023 ?_
    exact norm_ nz (hJ2_4_5_9 (g3) _ ⟨hHeld, (Z K1), (Z K2), (Z K3), G3.out, G4.out, N3.out, N4.out, N5.out, N6.out, (YA HB)⟩)
   skip
   refine box_step ?hg (N := 8) ?hd (cs := #[.int .i64 0, .int .i64 0, .int .i64 0, .int .i64 0]) (t := 24) ?hr ?_; (case hd => rfl); (case hg => rfl); (case hr => first | (go_simp; done) | (go_simp; rfl))
   intro g4 hg w6 hbox hb
   have K4 := am (hbox)
   have G5 := am (bs hg (YA HB))
   have G6 := am (bs hg (YA HB))
   obtain ⟨N7,N8⟩ := ne_ hg K1
   obtain ⟨N9,N10⟩ := ne_ hg K2
   obtain ⟨N11,N12⟩ := ne_ hg K3
   obtain ⟨K1, K2, K3, HB⟩ := bk3 K1 K2 K3 HB hb
   clear hb hbox hg
   refine kk hK ⟨bc K1 0, bc K1 1, bc K1 2, bc K1 3, bc K2 0, bc K2 1, bc K2 2, bc K2 3⟩ fun hHeld => ?_
   clear hK K
   exact norm_ nz (hJ2_4_9_10 (g3, g4) _ ⟨hHeld, (Z K1), (Z K2), (Z K3), (Z K4), G3.out, G4.out, N3.out, N4.out, N5.out, N6.out, N12.out, N11.out, G5.out, G6.out, N7.out, N8.out, N9.out, N10.out, (YA HB)⟩)
  intro hJ2_4_9
  refine join_ (σ := Nat) 7 (lb 13 1055) (fun s_ => [(14, .agg #[.int .i64 t3, .int .i64 t4, .int .i64 t5, .int .i64 t6]), (16, .agg #[.int .i64 t7, .int .i64 t8, .int .i64 t9, .int .i64 t10]), (8, .pointer (some ⟨s_, 0, none⟩))]) (fun s_ w' => (w'.cell? ⟨g1, 0, none⟩ = some (.int .i64 a1_0) ∧ w'.cell? ⟨g1, 1, none⟩ = some (.int .i64 a1_1) ∧ w'.cell? ⟨g1, 2, none⟩ = some (.int .i64 a1_2) ∧ w'.cell? ⟨g1, 3, none⟩ = some (.int .i64 a1_3) ∧ w'.cell? ⟨g2, 0, none⟩ = some (.int .i64 a2_0) ∧ w'.cell? ⟨g2, 1, none⟩ = some (.int .i64 a2_1) ∧ w'.cell? ⟨g2, 2, none⟩ = some (.int .i64 a2_2) ∧ w'.cell? ⟨g2, 3, none⟩ = some (.int .i64 a2_3)) ∧ (w'.heap[g1]? = some (.cells #[.int .i64 a1_0, .int .i64 a1_1, .int .i64 a1_2, .int .i64 a1_3] 23 (0, 0))) ∧ (w'.heap[g2]? = some (.cells #[.int .i64 a2_0, .int .i64 a2_1, .int .i64 a2_2, .int .i64 a2_3] 23 (0, 0))) ∧ (w'.heap[s_]? = some (.cells #[.int .i64 0, .int .i64 0, .int .i64 0, .int .i64 0] 24 (0, 0))) ∧ (w.heap.size ≤ s_) ∧ (w.heap.size ≤ s_) ∧ (g1 ≠ s_) ∧ (s_ ≠ g1) ∧ (g2 ≠ s_) ∧ (s_ ≠ g2) ∧ (Below w.heap.size w w')) ?_ ?_
  rotate_left
  rotate_left
  ·skip
   rintro g3 w5 ⟨hS_, h0_, h1_, h2_, h3_, h4_, h5_, h6_, h7_, h8_, h9_⟩
   have K3 : Bx4 w5 g3 0 0 0 0 24 := ⟨h2_⟩
   have G3 : Aside0 (w.heap.size ≤ g3) := ⟨h3_⟩
   have G4 : Aside0 (w.heap.size ≤ g3) := ⟨h4_⟩
   have N3 : Aside0 (g1 ≠ g3) := ⟨h5_⟩
   have N4 : Aside0 (g3 ≠ g1) := ⟨h6_⟩
   have N5 : Aside0 (g2 ≠ g3) := ⟨h7_⟩
   have N6 : Aside0 (g3 ≠ g2) := ⟨h8_⟩
   replace K1 : Bx4 w5 g1 a1_0 a1_1 a1_2 a1_3 23 := ⟨h0_⟩
   replace K2 : Bx4 w5 g2 a2_0 a2_1 a2_2 a2_3 23 := ⟨h1_⟩
   replace HB : Aside0 (Below w.heap.size w w5) := ⟨h9_⟩
   clear h0_ h1_ h2_ h3_ h4_ h5_ h6_ h7_ h8_ h9_
   have hHeld : w5.cell? ⟨g1, 0, none⟩ = some (.int .i64 a1_0) ∧ w5.cell? ⟨g1, 1, none⟩ = some (.int .i64 a1_1) ∧ w5.cell? ⟨g1, 2, none⟩ = some (.int .i64 a1_2) ∧ w5.cell? ⟨g1, 3, none⟩ = some (.int .i64 a1_3) ∧ w5.cell? ⟨g2, 0, none⟩ = some (.int .i64 a2_0) ∧ w5.cell? ⟨g2, 1, none⟩ = some (.int .i64 a2_1) ∧ w5.cell? ⟨g2, 2, none⟩ = some (.int .i64 a2_2) ∧ w5.cell? ⟨g2, 3, none⟩ = some (.int .i64 a2_3) := hS_
   refine norm_ (a' := ?_) ?_ ?_
   rotate_left
   ·simp only [putAll, Act.put, List.setIfInBounds_toArray, List.set_cons_zero, List.set_cons_succ]
    rfl
   refine two_ (i := 5) (j := 9) (Ni := some 17) (Nj := some 7) (lb 13 1087) (lb 13 1567) rfl rfl rfl rfl (two_of HT_.out (by kernel_rfl)) (by decide) (by decide) (fun K hK => ?_) (fun K hK => ?_)
   ·skip
    refine ck3 hK Try.func4 (spec_ValCmp.calls _ _ _ _ _ _ _ _ _ _ _ _ _ _ _ _ _ _ _ A3.out) K1 K2 K3 HB fun w6 K1 K2 K3 HB hHeld => ?_
    clear hK K
    refine pk 6 11 1151 ?_
    refine pk 7 18 1279 ?_
    refine pk 8 19 1535 ?_
    exact norm_ nz (hJ2_4_5_10 (g3) _ ⟨hHeld, (Z K1), (Z K2), (Z K3), G3.out, G4.out, N3.out, N4.out, N5.out, N6.out, (YA HB)⟩)
   skip
   refine box_step ?hg (N := 7) ?hd (cs := #[.int .i64 0, .int .i64 0, .int .i64 0, .int .i64 0]) (t := 24) ?hr ?_; (case hd => rfl); (case hg => rfl); (case hr => first | (go_simp; done) | (go_simp; rfl))
   intro g4 hg w6 hbox hb
   have K4 := am (hbox)
   have G5 := am (bs hg (YA HB))
   have G6 := am (bs hg (YA HB))
   obtain ⟨N7,N8⟩ := ne_ hg K1
   obtain ⟨N9,N10⟩ := ne_ hg K2
   obtain ⟨N11,N12⟩ := ne_ hg K3
   obtain ⟨K1, K2, K3, HB⟩ := bk3 K1 K2 K3 HB hb
   clear hb hbox hg
   refine kk hK ⟨bc K1 0, bc K1 1, bc K1 2, bc K1 3, bc K2 0, bc K2 1, bc K2 2, bc K2 3⟩ fun hHeld => ?_
   clear hK K
   exact norm_ nz (hJ2_4_9_10 (g4, g3) _ ⟨hHeld, (Z K1), (Z K2), (Z K4), (Z K3), G5.out, G6.out, N7.out, N8.out, N9.out, N10.out, N11.out, N12.out, G3.out, G4.out, N3.out, N4.out, N5.out, N6.out, (YA HB)⟩)
  intro hJ2_4_10
  refine join_ (σ := Nat × Nat) 7 (lb 13 1551) (fun s_ => [(14, .agg #[.int .i64 t3, .int .i64 t4, .int .i64 t5, .int .i64 t6]), (7, .pointer (some ⟨s_.1, 0, none⟩)), (8, .pointer (some ⟨s_.2, 0, none⟩))]) (fun s_ w' => (w'.cell? ⟨g1, 0, none⟩ = some (.int .i64 a1_0) ∧ w'.cell? ⟨g1, 1, none⟩ = some (.int .i64 a1_1) ∧ w'.cell? ⟨g1, 2, none⟩ = some (.int .i64 a1_2) ∧ w'.cell? ⟨g1, 3, none⟩ = some (.int .i64 a1_3) ∧ w'.cell? ⟨g2, 0, none⟩ = some (.int .i64 a2_0) ∧ w'.cell? ⟨g2, 1, none⟩ = some (.int .i64 a2_1) ∧ w'.cell? ⟨g2, 2, none⟩ = some (.int .i64 a2_2) ∧ w'.cell? ⟨g2, 3, none⟩ = some (.int .i64 a2_3)) ∧ (w'.heap[g1]? = some (.cells #[.int .i64 a1_0, .int .i64 a1_1, .int .i64 a1_2, .int .i64 a1_3] 23 (0, 0))) ∧ (w'.heap[g2]? = some (.cells #[.int .i64 a2_0, .int .i64 a2_1, .int .i64 a2_2, .int .i64 a2_3] 23 (0, 0))) ∧ (w'.heap[s_.1]? = some (.cells #[.int .i64 0, .int .i64 0, .int .i64 0, .int .i64 0] 24 (0, 0))) ∧ (w'.heap[s_.2]? = some (.cells #[.int .i64 0, .int .i64 0, .int .i64 0, .int .i64 0] 24 (0, 0))) ∧ (w.heap.size ≤ s_.1) ∧ (w.heap.size ≤ s_.1) ∧ (g1 ≠ s_.1) ∧ (s_.1 ≠ g1) ∧ (g2 ≠ s_.1) ∧ (s_.1 ≠ g2) ∧ (s_.2 ≠ s_.1) ∧ (s_.1 ≠ s_.2) ∧ (w.heap.size ≤ s_.2) ∧ (w.heap.size ≤ s_.2) ∧ (g1 ≠ s_.2) ∧ (s_.2 ≠ g1) ∧ (g2 ≠ s_.2) ∧ (s_.2 ≠ g2) ∧ (Below w.heap.size w w')) ?_ ?_
  rotate_left
  rotate_left
  ·skip
   rintro ⟨g3, g4⟩ w5 ⟨hS_, h0_, h1_, h2_, h3_, h4_, h5_, h6_, h7_, h8_, h9_, h10_, h11_, h12_, h13_, h14_, h15_, h16_, h17_, h18_⟩
   have K3 : Bx4 w5 g3 0 0 0 0 24 := ⟨h2_⟩
   have K4 : Bx4 w5 g4 0 0 0 0 24 := ⟨h3_⟩
   have G3 : Aside0 (w.heap.size ≤ g3) := ⟨h4_⟩
   have G4 : Aside0 (w.heap.size ≤ g3) := ⟨h5_⟩
   have N3 : Aside0 (g1 ≠ g3) := ⟨h6_⟩
   have N4 : Aside0 (g3 ≠ g1) := ⟨h7_⟩
   have N5 : Aside0 (g2 ≠ g3) := ⟨h8_⟩
   have N6 : Aside0 (g3 ≠ g2) := ⟨h9_⟩
   have N7 : Aside0 (g4 ≠ g3) := ⟨h10_⟩
   have N8 : Aside0 (g3 ≠ g4) := ⟨h11_⟩
   have G5 : Aside0 (w.heap.size ≤ g4) := ⟨h12_⟩
   have G6 : Aside0 (w.heap.size ≤ g4) := ⟨h13_⟩
   have N9 : Aside0 (g1 ≠ g4) := ⟨h14_⟩
   have N10 : Aside0 (g4 ≠ g1) := ⟨h15_⟩
   have N11 : Aside0 (g2 ≠ g4) := ⟨h16_⟩
   have N12 : Aside0 (g4 ≠ g2) := ⟨h17_⟩
   replace K1 : Bx4 w5 g1 a1_0 a1_1 a1_2 a1_3 23 := ⟨h0_⟩
   replace K2 : Bx4 w5 g2 a2_0 a2_1 a2_2 a2_3 23 := ⟨h1_⟩
   replace HB : Aside0 (Below w.heap.size w w5) := ⟨h18_⟩
   clear h0_ h1_ h2_ h3_ h4_ h5_ h6_ h7_ h8_ h9_ h10_ h11_ h12_ h13_ h14_ h15_ h16_ h17_ h18_
   have hHeld : w5.cell? ⟨g1, 0, none⟩ = some (.int .i64 a1_0) ∧ w5.cell? ⟨g1, 1, none⟩ = some (.int .i64 a1_1) ∧ w5.cell? ⟨g1, 2, none⟩ = some (.int .i64 a1_2) ∧ w5.cell? ⟨g1, 3, none⟩ = some (.int .i64 a1_3) ∧ w5.cell? ⟨g2, 0, none⟩ = some (.int .i64 a2_0) ∧ w5.cell? ⟨g2, 1, none⟩ = some (.int .i64 a2_1) ∧ w5.cell? ⟨g2, 2, none⟩ = some (.int .i64 a2_2) ∧ w5.cell? ⟨g2, 3, none⟩ = some (.int .i64 a2_3) := hS_
   refine norm_ (a' := ?_) ?_ ?_
   rotate_left
   ·simp only [putAll, Act.put, List.setIfInBounds_toArray, List.set_cons_zero, List.set_cons_succ]
    rfl
   refine cl4 4 16 1567 Try.func5 (laws_toVal.calls _ _ _ _ _ _ _ _ _ A2.out) K1 K2 K3 K4 HB fun w6 K1 K2 K3 K4 HB hHeld => ?_
   exact norm_ nz (hJ2_4_9_10 (g3, g4) _ ⟨hHeld, (Z K1), (Z K2), (Z K3), (Z K4), G3.out, G4.out, N3.out, N4.out, N5.out, N6.out, N7.out, N8.out, G5.out, G6.out, N9.out, N10.out, N11.out, N12.out, (YA HB)⟩)
  intro hJ2_9_10
  refine join_ (σ := Unit) 8 (lb 13 31) (fun s_ => [(14, .agg #[.int .i64 t3, .int .i64 t4, .int .i64 t5, .int .i64 t6]), (16, .agg #[.int .i64 t7, .int .i64 t8, .int .i64 t9, .int .i64 t10])]) (fun s_ w' => (w'.cell? ⟨g1, 0, none⟩ = some (.int .i64 a1_0) ∧ w'.cell? ⟨g1, 1, none⟩ = some (.int .i64 a1_1) ∧ w'.cell? ⟨g1, 2, none⟩ = some (.int .i64 a1_2) ∧ w'.cell? ⟨g1, 3, none⟩ = some (.int .i64 a1_3) ∧ w'.cell? ⟨g2, 0, none⟩ = some (.int .i64 a2_0) ∧ w'.cell? ⟨g2, 1, none⟩ = some (.int .i64 a2_1) ∧ w'.cell? ⟨g2, 2, none⟩ = some (.int .i64 a2_2) ∧ w'.cell? ⟨g2, 3, none⟩ = some (.int .i64 a2_3)) ∧ (w'.heap[g1]? = some (.cells #[.int .i64 a1_0, .int .i64 a1_1, .int .i64 a1_2, .int .i64 a1_3] 23 (0, 0))) ∧ (w'.heap[g2]? = some (.cells #[.int .i64 a2_0, .int .i64 a2_1, .int .i64 a2_2, .int .i64 a2_3] 23 (0, 0))) ∧ (Below w.heap.size w w')) ?_ ?_
  rotate_left
  rotate_left
  ·skip
   rintro _ w5 ⟨hS_, h0_, h1_, h2_⟩
   replace K1 : Bx4 w5 g1 a1_0 a1_1 a1_2 a1_3 23 := ⟨h0_⟩
   replace K2 : Bx4 w5 g2 a2_0 a2_1 a2_2 a2_3 23 := ⟨h1_⟩
   replace HB : Aside0 (Below w.heap.size w w5) := ⟨h2_⟩
   clear h0_ h1_ h2_
   have hHeld : w5.cell? ⟨g1, 0, none⟩ = some (.int .i64 a1_0) ∧ w5.cell? ⟨g1, 1, none⟩ = some (.int .i64 a1_1) ∧ w5.cell? ⟨g1, 2, none⟩ = some (.int .i64 a1_2) ∧ w5.cell? ⟨g1, 3, none⟩ = some (.int .i64 a1_3) ∧ w5.cell? ⟨g2, 0, none⟩ = some (.int .i64 a2_0) ∧ w5.cell? ⟨g2, 1, none⟩ = some (.int .i64 a2_1) ∧ w5.cell? ⟨g2, 2, none⟩ = some (.int .i64 a2_2) ∧ w5.cell? ⟨g2, 3, none⟩ = some (.int .i64 a2_3) := hS_
   refine norm_ (a' := ?_) ?_ ?_
   rotate_left
   ·simp only [putAll, Act.put, List.setIfInBounds_toArray, List.set_cons_zero, List.set_cons_succ]
    rfl
   refine three_ (i := 5) (j := 9) (k := 10) (Ni := some 17) (Nj := some 7) (Nk := some 8) (lb 13 63) (lb 13 543) (lb 13 1055) rfl rfl rfl rfl rfl rfl (three_of HT_.out (by kernel_rfl)) (by decide) (by decide) (by decide) (fun K hK => ?_) (fun K hK => ?_) (fun K hK => ?_)
   ·skip
    refine ck2 hK Try.func4 (spec_ValCmp.calls _ _ _ _ _ _ _ _ _ _ _ _ _ _ _ _ _ _ _ A3.out) K1 K2 HB fun w6 K1 K2 HB hHeld => ?_
    clear hK K
    refine pk 6 11 127 ?_
    refine pk 7 18 255 ?_
    refine pk 8 19 511 ?_
    exact norm_ nz (hJ2_4_5 () _ ⟨hHeld, (Z K1), (Z K2), (YA HB)⟩)
   ·skip
    refine box_step ?hg (N := 7) ?hd (cs := #[.int .i64 0, .int .i64 0, .int .i64 0, .int .i64 0]) (t := 24) ?hr ?_; (case hd => rfl); (case hg => rfl); (case hr => first | (go_simp; done) | (go_simp; rfl))
    intro g3 hg w6 hbox hb
    have K3 := am (hbox)
    have G3 := am (bs hg (YA HB))
    have G4 := am (bs hg (YA HB))
    obtain ⟨N3,N4⟩ := ne_ hg K1
    obtain ⟨N5,N6⟩ := ne_ hg K2
    obtain ⟨K1, K2, HB⟩ := bk2 K1 K2 HB hb
    clear hb hbox hg
    refine kk hK ⟨bc K1 0, bc K1 1, bc K1 2, bc K1 3, bc K2 0, bc K2 1, bc K2 2, bc K2 3⟩ fun hHeld => ?_
    clear hK K
    exact norm_ nz (hJ2_4_9 (g3) _ ⟨hHeld, (Z K1), (Z K2), (Z K3), G3.out, G4.out, N3.out, N4.out, N5.out, N6.out, (YA HB)⟩)
   skip
   refine box_step ?hg (N := 8) ?hd (cs := #[.int .i64 0, .int .i64 0, .int .i64 0, .int .i64 0]) (t := 24) ?hr ?_; (case hd => rfl); (case hg => rfl); (case hr => first | (go_simp; done) | (go_simp; rfl))
   intro g3 hg w6 hbox hb
   have K3 := am (hbox)
   have G3 := am (bs hg (YA HB))
   have G4 := am (bs hg (YA HB))
   obtain ⟨N3,N4⟩ := ne_ hg K1
   obtain ⟨N5,N6⟩ := ne_ hg K2
   obtain ⟨K1, K2, HB⟩ := bk2 K1 K2 HB hb
   clear hb hbox hg
   refine kk hK ⟨bc K1 0, bc K1 1, bc K1 2, bc K1 3, bc K2 0, bc K2 1, bc K2 2, bc K2 3⟩ fun hHeld => ?_
   clear hK K
   exact norm_ nz (hJ2_4_10 (g3) _ ⟨hHeld, (Z K1), (Z K2), (Z K3), G3.out, G4.out, N3.out, N4.out, N5.out, N6.out, (YA HB)⟩)
  intro hJ2_4
  refine join_ (σ := Nat) 8 (lb 13 527) (fun s_ => [(14, .agg #[.int .i64 t3, .int .i64 t4, .int .i64 t5, .int .i64 t6]), (7, .pointer (some ⟨s_, 0, none⟩))]) (fun s_ w' => (w'.cell? ⟨g1, 0, none⟩ = some (.int .i64 a1_0) ∧ w'.cell? ⟨g1, 1, none⟩ = some (.int .i64 a1_1) ∧ w'.cell? ⟨g1, 2, none⟩ = some (.int .i64 a1_2) ∧ w'.cell? ⟨g1, 3, none⟩ = some (.int .i64 a1_3) ∧ w'.cell? ⟨g2, 0, none⟩ = some (.int .i64 a2_0) ∧ w'.cell? ⟨g2, 1, none⟩ = some (.int .i64 a2_1) ∧ w'.cell? ⟨g2, 2, none⟩ = some (.int .i64 a2_2) ∧ w'.cell? ⟨g2, 3, none⟩ = some (.int .i64 a2_3)) ∧ (w'.heap[g1]? = some (.cells #[.int .i64 a1_0, .int .i64 a1_1, .int .i64 a1_2, .int .i64 a1_3] 23 (0, 0))) ∧ (w'.heap[g2]? = some (.cells #[.int .i64 a2_0, .int .i64 a2_1, .int .i64 a2_2, .int .i64 a2_3] 23 (0, 0))) ∧ (w'.heap[s_]? = some (.cells #[.int .i64 0, .int .i64 0, .int .i64 0, .int .i64 0] 24 (0, 0))) ∧ (w.heap.size ≤ s_) ∧ (w.heap.size ≤ s_) ∧ (g1 ≠ s_) ∧ (s_ ≠ g1) ∧ (g2 ≠ s_) ∧ (s_ ≠ g2) ∧ (Below w.heap.size w w')) ?_ ?_
  rotate_left
  rotate_left
  ·skip
   rintro g3 w5 ⟨hS_, h0_, h1_, h2_, h3_, h4_, h5_, h6_, h7_, h8_, h9_⟩
   have K3 : Bx4 w5 g3 0 0 0 0 24 := ⟨h2_⟩
   have G3 : Aside0 (w.heap.size ≤ g3) := ⟨h3_⟩
   have G4 : Aside0 (w.heap.size ≤ g3) := ⟨h4_⟩
   have N3 : Aside0 (g1 ≠ g3) := ⟨h5_⟩
   have N4 : Aside0 (g3 ≠ g1) := ⟨h6_⟩
   have N5 : Aside0 (g2 ≠ g3) := ⟨h7_⟩
   have N6 : Aside0 (g3 ≠ g2) := ⟨h8_⟩
   replace K1 : Bx4 w5 g1 a1_0 a1_1 a1_2 a1_3 23 := ⟨h0_⟩
   replace K2 : Bx4 w5 g2 a2_0 a2_1 a2_2 a2_3 23 := ⟨h1_⟩
   replace HB : Aside0 (Below w.heap.size w w5) := ⟨h9_⟩
   clear h0_ h1_ h2_ h3_ h4_ h5_ h6_ h7_ h8_ h9_
   have hHeld : w5.cell? ⟨g1, 0, none⟩ = some (.int .i64 a1_0) ∧ w5.cell? ⟨g1, 1, none⟩ = some (.int .i64 a1_1) ∧ w5.cell? ⟨g1, 2, none⟩ = some (.int .i64 a1_2) ∧ w5.cell? ⟨g1, 3, none⟩ = some (.int .i64 a1_3) ∧ w5.cell? ⟨g2, 0, none⟩ = some (.int .i64 a2_0) ∧ w5.cell? ⟨g2, 1, none⟩ = some (.int .i64 a2_1) ∧ w5.cell? ⟨g2, 2, none⟩ = some (.int .i64 a2_2) ∧ w5.cell? ⟨g2, 3, none⟩ = some (.int .i64 a2_3) := hS_
   refine norm_ (a' := ?_) ?_ ?_
   rotate_left
   ·simp only [putAll, Act.put, List.setIfInBounds_toArray, List.set_cons_zero, List.set_cons_succ]
    rfl
   refine two_ (i := 4) (j := 10) (Ni := some 16) (Nj := some 8) (lb 13 543) (lb 13 1551) rfl rfl rfl rfl (two_of HT_.out (by kernel_rfl)) (by decide) (by decide) (fun K hK => ?_) (fun K hK => ?_)
   ·skip
    refine ck3 hK Try.func5 (laws_toVal.calls _ _ _ _ _ _ _ _ _ A2.out) K1 K2 K3 HB fun w6 K1 K2 K3 HB hHeld => ?_
    clear hK K
    exact norm_ nz (hJ2_4_9 (g3) _ ⟨hHeld, (Z K1), (Z K2), (Z K3), G3.out, G4.out, N3.out, N4.out, N5.out, N6.out, (YA HB)⟩)
   skip
   refine box_step ?hg (N := 8) ?hd (cs := #[.int .i64 0, .int .i64 0, .int .i64 0, .int .i64 0]) (t := 24) ?hr ?_; (case hd => rfl); (case hg => rfl); (case hr => first | (go_simp; done) | (go_simp; rfl))
   intro g4 hg w6 hbox hb
   have K4 := am (hbox)
   have G5 := am (bs hg (YA HB))
   have G6 := am (bs hg (YA HB))
   obtain ⟨N7,N8⟩ := ne_ hg K1
   obtain ⟨N9,N10⟩ := ne_ hg K2
   obtain ⟨N11,N12⟩ := ne_ hg K3
   obtain ⟨K1, K2, K3, HB⟩ := bk3 K1 K2 K3 HB hb
   clear hb hbox hg
   refine kk hK ⟨bc K1 0, bc K1 1, bc K1 2, bc K1 3, bc K2 0, bc K2 1, bc K2 2, bc K2 3⟩ fun hHeld => ?_
   clear hK K
   exact norm_ nz (hJ2_9_10 (g3, g4) _ ⟨hHeld, (Z K1), (Z K2), (Z K3), (Z K4), G3.out, G4.out, N3.out, N4.out, N5.out, N6.out, N12.out, N11.out, G5.out, G6.out, N7.out, N8.out, N9.out, N10.out, (YA HB)⟩)
  intro hJ2_9
  refine join_ (σ := Nat) 8 (lb 13 1039) (fun s_ => [(14, .agg #[.int .i64 t3, .int .i64 t4, .int .i64 t5, .int .i64 t6]), (8, .pointer (some ⟨s_, 0, none⟩))]) (fun s_ w' => (w'.cell? ⟨g1, 0, none⟩ = some (.int .i64 a1_0) ∧ w'.cell? ⟨g1, 1, none⟩ = some (.int .i64 a1_1) ∧ w'.cell? ⟨g1, 2, none⟩ = some (.int .i64 a1_2) ∧ w'.cell? ⟨g1, 3, none⟩ = some (.int .i64 a1_3) ∧ w'.cell? ⟨g2, 0, none⟩ = some (.int .i64 a2_0) ∧ w'.cell? ⟨g2, 1, none⟩ = some (.int .i64 a2_1) ∧ w'.cell? ⟨g2, 2, none⟩ = some (.int .i64 a2_2) ∧ w'.cell? ⟨g2, 3, none⟩ = some (.int .i64 a2_3)) ∧ (w'.heap[g1]? = some (.cells #[.int .i64 a1_0, .int .i64 a1_1, .int .i64 a1_2, .int .i64 a1_3] 23 (0, 0))) ∧ (w'.heap[g2]? = some (.cells #[.int .i64 a2_0, .int .i64 a2_1, .int .i64 a2_2, .int .i64 a2_3] 23 (0, 0))) ∧ (w'.heap[s_]? = some (.cells #[.int .i64 0, .int .i64 0, .int .i64 0, .int .i64 0] 24 (0, 0))) ∧ (w.heap.size ≤ s_) ∧ (w.heap.size ≤ s_) ∧ (g1 ≠ s_) ∧ (s_ ≠ g1) ∧ (g2 ≠ s_) ∧ (s_ ≠ g2) ∧ (Below w.heap.size w w')) ?_ ?_
  rotate_left
  rotate_left
  ·skip
   rintro g3 w5 ⟨hS_, h0_, h1_, h2_, h3_, h4_, h5_, h6_, h7_, h8_, h9_⟩
   have K3 : Bx4 w5 g3 0 0 0 0 24 := ⟨h2_⟩
   have G3 : Aside0 (w.heap.size ≤ g3) := ⟨h3_⟩
   have G4 : Aside0 (w.heap.size ≤ g3) := ⟨h4_⟩
   have N3 : Aside0 (g1 ≠ g3) := ⟨h5_⟩
   have N4 : Aside0 (g3 ≠ g1) := ⟨h6_⟩
   have N5 : Aside0 (g2 ≠ g3) := ⟨h7_⟩
   have N6 : Aside0 (g3 ≠ g2) := ⟨h8_⟩
   replace K1 : Bx4 w5 g1 a1_0 a1_1 a1_2 a1_3 23 := ⟨h0_⟩
   replace K2 : Bx4 w5 g2 a2_0 a2_1 a2_2 a2_3 23 := ⟨h1_⟩
   replace HB : Aside0 (Below w.heap.size w w5) := ⟨h9_⟩
   clear h0_ h1_ h2_ h3_ h4_ h5_ h6_ h7_ h8_ h9_
   have hHeld : w5.cell? ⟨g1, 0, none⟩ = some (.int .i64 a1_0) ∧ w5.cell? ⟨g1, 1, none⟩ = some (.int .i64 a1_1) ∧ w5.cell? ⟨g1, 2, none⟩ = some (.int .i64 a1_2) ∧ w5.cell? ⟨g1, 3, none⟩ = some (.int .i64 a1_3) ∧ w5.cell? ⟨g2, 0, none⟩ = some (.int .i64 a2_0) ∧ w5.cell? ⟨g2, 1, none⟩ = some (.int .i64 a2_1) ∧ w5.cell? ⟨g2, 2, none⟩ = some (.int .i64 a2_2) ∧ w5.cell? ⟨g2, 3, none⟩ = some (.int .i64 a2_3) := hS_
   refine norm_ (a' := ?_) ?_ ?_
   rotate_left
   ·simp only [putAll, Act.put, List.setIfInBounds_toArray, List.set_cons_zero, List.set_cons_succ]
    rfl
   refine two_ (i := 4) (j := 9) (Ni := some 16) (Nj := some 7) (lb 13 1055) (lb 13 1551) rfl rfl rfl rfl (two_of HT_.out (by kernel_rfl)) (by decide) (by decide) (fun K hK => ?_) (fun K hK => ?_)
   ·skip
    refine ck3 hK Try.func5 (laws_toVal.calls _ _ _ _ _ _ _ _ _ A2.out) K1 K2 K3 HB fun w6 K1 K2 K3 HB hHeld => ?_
    clear hK K
    exact norm_ nz (hJ2_4_10 (g3) _ ⟨hHeld, (Z K1), (Z K2), (Z K3), G3.out, G4.out, N3.out, N4.out, N5.out, N6.out, (YA HB)⟩)
   skip
   refine box_step ?hg (N := 7) ?hd (cs := #[.int .i64 0, .int .i64 0, .int .i64 0, .int .i64 0]) (t := 24) ?hr ?_; (case hd => rfl); (case hg => rfl); (case hr => first | (go_simp; done) | (go_simp; rfl))
   intro g4 hg w6 hbox hb
   have K4 := am (hbox)
   have G5 := am (bs hg (YA HB))
   have G6 := am (bs hg (YA HB))
   obtain ⟨N7,N8⟩ := ne_ hg K1
   obtain ⟨N9,N10⟩ := ne_ hg K2
   obtain ⟨N11,N12⟩ := ne_ hg K3
   obtain ⟨K1, K2, K3, HB⟩ := bk3 K1 K2 K3 HB hb
   clear hb hbox hg
   refine kk hK ⟨bc K1 0, bc K1 1, bc K1 2, bc K1 3, bc K2 0, bc K2 1, bc K2 2, bc K2 3⟩ fun hHeld => ?_
   clear hK K
   exact norm_ nz (hJ2_9_10 (g4, g3) _ ⟨hHeld, (Z K1), (Z K2), (Z K4), (Z K3), G5.out, G6.out, N7.out, N8.out, N9.out, N10.out, N11.out, N12.out, G3.out, G4.out, N3.out, N4.out, N5.out, N6.out, (YA HB)⟩)
  intro hJ2_10
  refine join_ (σ := Nat × Nat) 8 (lb 13 1547) (fun s_ => [(7, .pointer (some ⟨s_.1, 0, none⟩)), (8, .pointer (some ⟨s_.2, 0, none⟩))]) (fun s_ w' => (w'.cell? ⟨g1, 0, none⟩ = some (.int .i64 a1_0) ∧ w'.cell? ⟨g1, 1, none⟩ = some (.int .i64 a1_1) ∧ w'.cell? ⟨g1, 2, none⟩ = some (.int .i64 a1_2) ∧ w'.cell? ⟨g1, 3, none⟩ = some (.int .i64 a1_3) ∧ w'.cell? ⟨g2, 0, none⟩ = some (.int .i64 a2_0) ∧ w'.cell? ⟨g2, 1, none⟩ = some (.int .i64 a2_1) ∧ w'.cell? ⟨g2, 2, none⟩ = some (.int .i64 a2_2) ∧ w'.cell? ⟨g2, 3, none⟩ = some (.int .i64 a2_3)) ∧ (w'.heap[g1]? = some (.cells #[.int .i64 a1_0, .int .i64 a1_1, .int .i64 a1_2, .int .i64 a1_3] 23 (0, 0))) ∧ (w'.heap[g2]? = some (.cells #[.int .i64 a2_0, .int .i64 a2_1, .int .i64 a2_2, .int .i64 a2_3] 23 (0, 0))) ∧ (w'.heap[s_.1]? = some (.cells #[.int .i64 0, .int .i64 0, .int .i64 0, .int .i64 0] 24 (0, 0))) ∧ (w'.heap[s_.2]? = some (.cells #[.int .i64 0, .int .i64 0, .int .i64 0, .int .i64 0] 24 (0, 0))) ∧ (w.heap.size ≤ s_.1) ∧ (w.heap.size ≤ s_.1) ∧ (g1 ≠ s_.1) ∧ (s_.1 ≠ g1) ∧ (g2 ≠ s_.1) ∧ (s_.1 ≠ g2) ∧ (s_.2 ≠ s_.1) ∧ (s_.1 ≠ s_.2) ∧ (w.heap.size ≤ s_.2) ∧ (w.heap.size ≤ s_.2) ∧ (g1 ≠ s_.2) ∧ (s_.2 ≠ g1) ∧ (g2 ≠ s_.2) ∧ (s_.2 ≠ g2) ∧ (Below w.heap.size w w')) ?_ ?_
  rotate_left
  rotate_left
  ·skip
   rintro ⟨g3, g4⟩ w5 ⟨hS_, h0_, h1_, h2_, h3_, h4_, h5_, h6_, h7_, h8_, h9_, h10_, h11_, h12_, h13_, h14_, h15_, h16_, h17_, h18_⟩
   have K3 : Bx4 w5 g3 0 0 0 0 24 := ⟨h2_⟩
   have K4 : Bx4 w5 g4 0 0 0 0 24 := ⟨h3_⟩
   have G3 : Aside0 (w.heap.size ≤ g3) := ⟨h4_⟩
   have G4 : Aside0 (w.heap.size ≤ g3) := ⟨h5_⟩
   have N3 : Aside0 (g1 ≠ g3) := ⟨h6_⟩
   have N4 : Aside0 (g3 ≠ g1) := ⟨h7_⟩
   have N5 : Aside0 (g2 ≠ g3) := ⟨h8_⟩
   have N6 : Aside0 (g3 ≠ g2) := ⟨h9_⟩
   have N7 : Aside0 (g4 ≠ g3) := ⟨h10_⟩
   have N8 : Aside0 (g3 ≠ g4) := ⟨h11_⟩
   have G5 : Aside0 (w.heap.size ≤ g4) := ⟨h12_⟩
   have G6 : Aside0 (w.heap.size ≤ g4) := ⟨h13_⟩
   have N9 : Aside0 (g1 ≠ g4) := ⟨h14_⟩
   have N10 : Aside0 (g4 ≠ g1) := ⟨h15_⟩
   have N11 : Aside0 (g2 ≠ g4) := ⟨h16_⟩
   have N12 : Aside0 (g4 ≠ g2) := ⟨h17_⟩
   replace K1 : Bx4 w5 g1 a1_0 a1_1 a1_2 a1_3 23 := ⟨h0_⟩
   replace K2 : Bx4 w5 g2 a2_0 a2_1 a2_2 a2_3 23 := ⟨h1_⟩
   replace HB : Aside0 (Below w.heap.size w w5) := ⟨h18_⟩
   clear h0_ h1_ h2_ h3_ h4_ h5_ h6_ h7_ h8_ h9_ h10_ h11_ h12_ h13_ h14_ h15_ h16_ h17_ h18_
   have hHeld : w5.cell? ⟨g1, 0, none⟩ = some (.int .i64 a1_0) ∧ w5.cell? ⟨g1, 1, none⟩ = some (.int .i64 a1_1) ∧ w5.cell? ⟨g1, 2, none⟩ = some (.int .i64 a1_2) ∧ w5.cell? ⟨g1, 3, none⟩ = some (.int .i64 a1_3) ∧ w5.cell? ⟨g2, 0, none⟩ = some (.int .i64 a2_0) ∧ w5.cell? ⟨g2, 1, none⟩ = some (.int .i64 a2_1) ∧ w5.cell? ⟨g2, 2, none⟩ = some (.int .i64 a2_2) ∧ w5.cell? ⟨g2, 3, none⟩ = some (.int .i64 a2_3) := hS_
   refine norm_ (a' := ?_) ?_ ?_
   rotate_left
   ·simp only [putAll, Act.put, List.setIfInBounds_toArray, List.set_cons_zero, List.set_cons_succ]
    rfl
   refine cl4 2 14 1551 Try.func5 (laws_toVal.calls _ _ _ _ _ _ _ _ _ A1.out) K1 K2 K3 K4 HB fun w6 K1 K2 K3 K4 HB hHeld => ?_
   exact norm_ nz (hJ2_9_10 (g3, g4) _ ⟨hHeld, (Z K1), (Z K2), (Z K3), (Z K4), G3.out, G4.out, N3.out, N4.out, N5.out, N6.out, N7.out, N8.out, G5.out, G6.out, N9.out, N10.out, N11.out, N12.out, (YA HB)⟩)
  intro hJ9_10
  refine join_ (σ := Unit) 9 (lb 13 15) (fun s_ => [(14, .agg #[.int .i64 t3, .int .i64 t4, .int .i64 t5, .int .i64 t6])]) (fun s_ w' => (w'.cell? ⟨g1, 0, none⟩ = some (.int .i64 a1_0) ∧ w'.cell? ⟨g1, 1, none⟩ = some (.int .i64 a1_1) ∧ w'.cell? ⟨g1, 2, none⟩ = some (.int .i64 a1_2) ∧ w'.cell? ⟨g1, 3, none⟩ = some (.int .i64 a1_3) ∧ w'.cell? ⟨g2, 0, none⟩ = some (.int .i64 a2_0) ∧ w'.cell? ⟨g2, 1, none⟩ = some (.int .i64 a2_1) ∧ w'.cell? ⟨g2, 2, none⟩ = some (.int .i64 a2_2) ∧ w'.cell? ⟨g2, 3, none⟩ = some (.int .i64 a2_3)) ∧ (w'.heap[g1]? = some (.cells #[.int .i64 a1_0, .int .i64 a1_1, .int .i64 a1_2, .int .i64 a1_3] 23 (0, 0))) ∧ (w'.heap[g2]? = some (.cells #[.int .i64 a2_0, .int .i64 a2_1, .int .i64 a2_2, .int .i64 a2_3] 23 (0, 0))) ∧ (Below w.heap.size w w')) ?_ ?_
  rotate_left
  rotate_left
  ·skip
   rintro _ w5 ⟨hS_, h0_, h1_, h2_⟩
   replace K1 : Bx4 w5 g1 a1_0 a1_1 a1_2 a1_3 23 := ⟨h0_⟩
   replace K2 : Bx4 w5 g2 a2_0 a2_1 a2_2 a2_3 23 := ⟨h1_⟩
   replace HB : Aside0 (Below w.heap.size w w5) := ⟨h2_⟩
   clear h0_ h1_ h2_
   have hHeld : w5.cell? ⟨g1, 0, none⟩ = some (.int .i64 a1_0) ∧ w5.cell? ⟨g1, 1, none⟩ = some (.int .i64 a1_1) ∧ w5.cell? ⟨g1, 2, none⟩ = some (.int .i64 a1_2) ∧ w5.cell? ⟨g1, 3, none⟩ = some (.int .i64 a1_3) ∧ w5.cell? ⟨g2, 0, none⟩ = some (.int .i64 a2_0) ∧ w5.cell? ⟨g2, 1, none⟩ = some (.int .i64 a2_1) ∧ w5.cell? ⟨g2, 2, none⟩ = some (.int .i64 a2_2) ∧ w5.cell? ⟨g2, 3, none⟩ = some (.int .i64 a2_3) := hS_
   refine norm_ (a' := ?_) ?_ ?_
   rotate_left
   ·simp only [putAll, Act.put, List.setIfInBounds_toArray, List.set_cons_zero, List.set_cons_succ]
    rfl
   refine three_ (i := 4) (j := 9) (k := 10) (Ni := some 16) (Nj := some 7) (Nk := some 8) (lb 13 31) (lb 13 527) (lb 13 1039) rfl rfl rfl rfl rfl rfl (three_of HT_.out (by kernel_rfl)) (by decide) (by decide) (by decide) (fun K hK => ?_) (fun K hK => ?_) (fun K hK => ?_)
   ·skip
    refine ck2 hK Try.func5 (laws_toVal.calls _ _ _ _ _ _ _ _ _ A2.out) K1 K2 HB fun w6 K1 K2 HB hHeld => ?_
    clear hK K
    exact norm_ nz (hJ2_4 () _ ⟨hHeld, (Z K1), (Z K2), (YA HB)⟩)
   ·skip
    refine box_step ?hg (N := 7) ?hd (cs := #[.int .i64 0, .int .i64 0, .int .i64 0, .int .i64 0]) (t := 24) ?hr ?_; (case hd => rfl); (case hg => rfl); (case hr => first | (go_simp; done) | (go_simp; rfl))
    intro g3 hg w6 hbox hb
    have K3 := am (hbox)
    have G3 := am (bs hg (YA HB))
    have G4 := am (bs hg (YA HB))
    obtain ⟨N3,N4⟩ := ne_ hg K1
    obtain ⟨N5,N6⟩ := ne_ hg K2
    obtain ⟨K1, K2, HB⟩ := bk2 K1 K2 HB hb
    clear hb hbox hg
    refine kk hK ⟨bc K1 0, bc K1 1, bc K1 2, bc K1 3, bc K2 0, bc K2 1, bc K2 2, bc K2 3⟩ fun hHeld => ?_
    clear hK K
    exact norm_ nz (hJ2_9 (g3) _ ⟨hHeld, (Z K1), (Z K2), (Z K3), G3.out, G4.out, N3.out, N4.out, N5.out, N6.out, (YA HB)⟩)
   skip
   refine box_step ?hg (N := 8) ?hd (cs := #[.int .i64 0, .int .i64 0, .int .i64 0, .int .i64 0]) (t := 24) ?hr ?_; (case hd => rfl); (case hg => rfl); (case hr => first | (go_simp; done) | (go_simp; rfl))
   intro g3 hg w6 hbox hb
   have K3 := am (hbox)
   have G3 := am (bs hg (YA HB))
   have G4 := am (bs hg (YA HB))
   obtain ⟨N3,N4⟩ := ne_ hg K1
   obtain ⟨N5,N6⟩ := ne_ hg K2
   obtain ⟨K1, K2, HB⟩ := bk2 K1 K2 HB hb
   clear hb hbox hg
   refine kk hK ⟨bc K1 0, bc K1 1, bc K1 2, bc K1 3, bc K2 0, bc K2 1, bc K2 2, bc K2 3⟩ fun hHeld => ?_
   clear hK K
   exact norm_ nz (hJ2_10 (g3) _ ⟨hHeld, (Z K1), (Z K2), (Z K3), G3.out, G4.out, N3.out, N4.out, N5.out, N6.out, (YA HB)⟩)
  intro hJ2
  refine join_ (σ := Nat) 9 (lb 13 523) (fun s_ => [(7, .pointer (some ⟨s_, 0, none⟩))]) (fun s_ w' => (w'.cell? ⟨g1, 0, none⟩ = some (.int .i64 a1_0) ∧ w'.cell? ⟨g1, 1, none⟩ = some (.int .i64 a1_1) ∧ w'.cell? ⟨g1, 2, none⟩ = some (.int .i64 a1_2) ∧ w'.cell? ⟨g1, 3, none⟩ = some (.int .i64 a1_3) ∧ w'.cell? ⟨g2, 0, none⟩ = some (.int .i64 a2_0) ∧ w'.cell? ⟨g2, 1, none⟩ = some (.int .i64 a2_1) ∧ w'.cell? ⟨g2, 2, none⟩ = some (.int .i64 a2_2) ∧ w'.cell? ⟨g2, 3, none⟩ = some (.int .i64 a2_3)) ∧ (w'.heap[g1]? = some (.cells #[.int .i64 a1_0, .int .i64 a1_1, .int .i64 a1_2, .int .i64 a1_3] 23 (0, 0))) ∧ (w'.heap[g2]? = some (.cells #[.int .i64 a2_0, .int .i64 a2_1, .int .i64 a2_2, .int .i64 a2_3] 23 (0, 0))) ∧ (w'.heap[s_]? = some (.cells #[.int .i64 0, .int .i64 0, .int .i64 0, .int .i64 0] 24 (0, 0))) ∧ (w.heap.size ≤ s_) ∧ (w.heap.size ≤ s_) ∧ (g1 ≠ s_) ∧ (s_ ≠ g1) ∧ (g2 ≠ s_) ∧ (s_ ≠ g2) ∧ (Below w.heap.size w w')) ?_ ?_
  rotate_left
  rotate_left
  ·skip
   rintro g3 w5 ⟨hS_, h0_, h1_, h2_, h3_, h4_, h5_, h6_, h7_, h8_, h9_⟩
   have K3 : Bx4 w5 g3 0 0 0 0 24 := ⟨h2_⟩
   have G3 : Aside0 (w.heap.size ≤ g3) := ⟨h3_⟩
   have G4 : Aside0 (w.heap.size ≤ g3) := ⟨h4_⟩
   have N3 : Aside0 (g1 ≠ g3) := ⟨h5_⟩
   have N4 : Aside0 (g3 ≠ g1) := ⟨h6_⟩
   have N5 : Aside0 (g2 ≠ g3) := ⟨h7_⟩
   have N6 : Aside0 (g3 ≠ g2) := ⟨h8_⟩
   replace K1 : Bx4 w5 g1 a1_0 a1_1 a1_2 a1_3 23 := ⟨h0_⟩
   replace K2 : Bx4 w5 g2 a2_0 a2_1 a2_2 a2_3 23 := ⟨h1_⟩
   replace HB : Aside0 (Below w.heap.size w w5) := ⟨h9_⟩
   clear h0_ h1_ h2_ h3_ h4_ h5_ h6_ h7_ h8_ h9_
   have hHeld : w5.cell? ⟨g1, 0, none⟩ = some (.int .i64 a1_0) ∧ w5.cell? ⟨g1, 1, none⟩ = some (.int .i64 a1_1) ∧ w5.cell? ⟨g1, 2, none⟩ = some (.int .i64 a1_2) ∧ w5.cell? ⟨g1, 3, none⟩ = some (.int .i64 a1_3) ∧ w5.cell? ⟨g2, 0, none⟩ = some (.int .i64 a2_0) ∧ w5.cell? ⟨g2, 1, none⟩ = some (.int .i64 a2_1) ∧ w5.cell? ⟨g2, 2, none⟩ = some (.int .i64 a2_2) ∧ w5.cell? ⟨g2, 3, none⟩ = some (.int .i64 a2_3) := hS_
   refine norm_ (a' := ?_) ?_ ?_
   rotate_left
   ·simp only [putAll, Act.put, List.setIfInBounds_toArray, List.set_cons_zero, List.set_cons_succ]
    rfl
   refine two_ (i := 2) (j := 10) (Ni := some 14) (Nj := some 8) (lb 13 527) (lb 13 1547) rfl rfl rfl rfl (two_of HT_.out (by kernel_rfl)) (by decide) (by decide) (fun K hK => ?_) (fun K hK => ?_)
   ·skip
    refine ck3 hK Try.func5 (laws_toVal.calls _ _ _ _ _ _ _ _ _ A1.out) K1 K2 K3 HB fun w6 K1 K2 K3 HB hHeld => ?_
    clear hK K
    exact norm_ nz (hJ2_9 (g3) _ ⟨hHeld, (Z K1), (Z K2), (Z K3), G3.out, G4.out, N3.out, N4.out, N5.out, N6.out, (YA HB)⟩)
   skip
   refine box_step ?hg (N := 8) ?hd (cs := #[.int .i64 0, .int .i64 0, .int .i64 0, .int .i64 0]) (t := 24) ?hr ?_; (case hd => rfl); (case hg => rfl); (case hr => first | (go_simp; done) | (go_simp; rfl))
   intro g4 hg w6 hbox hb
   have K4 := am (hbox)
   have G5 := am (bs hg (YA HB))
   have G6 := am (bs hg (YA HB))
   obtain ⟨N7,N8⟩ := ne_ hg K1
   obtain ⟨N9,N10⟩ := ne_ hg K2
   obtain ⟨N11,N12⟩ := ne_ hg K3
   obtain ⟨K1, K2, K3, HB⟩ := bk3 K1 K2 K3 HB hb
   clear hb hbox hg
   refine kk hK ⟨bc K1 0, bc K1 1, bc K1 2, bc K1 3, bc K2 0, bc K2 1, bc K2 2, bc K2 3⟩ fun hHeld => ?_
   clear hK K
   exact norm_ nz (hJ9_10 (g3, g4) _ ⟨hHeld, (Z K1), (Z K2), (Z K3), (Z K4), G3.out, G4.out, N3.out, N4.out, N5.out, N6.out, N12.out, N11.out, G5.out, G6.out, N7.out, N8.out, N9.out, N10.out, (YA HB)⟩)
  intro hJ9
  refine join_ (σ := Nat) 9 (lb 13 1035) (fun s_ => [(8, .pointer (some ⟨s_, 0, none⟩))]) (fun s_ w' => (w'.cell? ⟨g1, 0, none⟩ = some (.int .i64 a1_0) ∧ w'.cell? ⟨g1, 1, none⟩ = some (.int .i64 a1_1) ∧ w'.cell? ⟨g1, 2, none⟩ = some (.int .i64 a1_2) ∧ w'.cell? ⟨g1, 3, none⟩ = some (.int .i64 a1_3) ∧ w'.cell? ⟨g2, 0, none⟩ = some (.int .i64 a2_0) ∧ w'.cell? ⟨g2, 1, none⟩ = some (.int .i64 a2_1) ∧ w'.cell? ⟨g2, 2, none⟩ = some (.int .i64 a2_2) ∧ w'.cell? ⟨g2, 3, none⟩ = some (.int .i64 a2_3)) ∧ (w'.heap[g1]? = some (.cells #[.int .i64 a1_0, .int .i64 a1_1, .int .i64 a1_2, .int .i64 a1_3] 23 (0, 0))) ∧ (w'.heap[g2]? = some (.cells #[.int .i64 a2_0, .int .i64 a2_1, .int .i64 a2_2, .int .i64 a2_3] 23 (0, 0))) ∧ (w'.heap[s_]? = some (.cells #[.int .i64 0, .int .i64 0, .int .i64 0, .int .i64 0] 24 (0, 0))) ∧ (w.heap.size ≤ s_) ∧ (w.heap.size ≤ s_) ∧ (g1 ≠ s_) ∧ (s_ ≠ g1) ∧ (g2 ≠ s_) ∧ (s_ ≠ g2) ∧ (Below w.heap.size w w')) ?_ ?_
  rotate_left
  ·intro hJ10
   refine three_ (i := 2) (j := 9) (k := 10) (Ni := some 14) (Nj := some 7) (Nk := some 8) (lb 13 15) (lb 13 523) (lb 13 1035) rfl rfl rfl rfl rfl rfl (three_of HT_.out (by kernel_rfl)) (by decide) (by decide) (by decide) (fun K hK => ?_) (fun K hK => ?_) (fun K hK => ?_)
   ·skip
    refine ck2 hK Try.func5 (laws_toVal.calls _ _ _ _ _ _ _ _ _ A1.out) K1 K2 HB fun w5 K1 K2 HB hHeld => ?_
    clear hK K
    exact norm_ nz (hJ2 () _ ⟨hHeld, (Z K1), (Z K2), (YA HB)⟩)
   ·skip
    refine box_step ?hg (N := 7) ?hd (cs := #[.int .i64 0, .int .i64 0, .int .i64 0, .int .i64 0]) (t := 24) ?hr ?_; (case hd => rfl); (case hg => rfl); (case hr => first | (go_simp; done) | (go_simp; rfl))
    intro g3 hg w5 hbox hb
    have K3 := am (hbox)
    have G3 := am (bs hg (YA HB))
    have G4 := am (bs hg (YA HB))
    obtain ⟨N3,N4⟩ := ne_ hg K1
    obtain ⟨N5,N6⟩ := ne_ hg K2
    obtain ⟨K1, K2, HB⟩ := bk2 K1 K2 HB hb
    clear hb hbox hg
    refine kk hK ⟨bc K1 0, bc K1 1, bc K1 2, bc K1 3, bc K2 0, bc K2 1, bc K2 2, bc K2 3⟩ fun hHeld => ?_
    clear hK K
    exact norm_ nz (hJ9 (g3) _ ⟨hHeld, (Z K1), (Z K2), (Z K3), G3.out, G4.out, N3.out, N4.out, N5.out, N6.out, (YA HB)⟩)
   skip
   refine box_step ?hg (N := 8) ?hd (cs := #[.int .i64 0, .int .i64 0, .int .i64 0, .int .i64 0]) (t := 24) ?hr ?_; (case hd => rfl); (case hg => rfl); (case hr => first | (go_simp; done) | (go_simp; rfl))
   intro g3 hg w5 hbox hb
   have K3 := am (hbox)
   have G3 := am (bs hg (YA HB))
   have G4 := am (bs hg (YA HB))
   obtain ⟨N3,N4⟩ := ne_ hg K1
   obtain ⟨N5,N6⟩ := ne_ hg K2
   obtain ⟨K1, K2, HB⟩ := bk2 K1 K2 HB hb
   clear hb hbox hg
   refine kk hK ⟨bc K1 0, bc K1 1, bc K1 2, bc K1 3, bc K2 0, bc K2 1, bc K2 2, bc K2 3⟩ fun hHeld => ?_
   clear hK K
   exact norm_ nz (hJ10 (g3) _ ⟨hHeld, (Z K1), (Z K2), (Z K3), G3.out, G4.out, N3.out, N4.out, N5.out, N6.out, (YA HB)⟩)
  skip
  rintro g3 w5 ⟨hS_, h0_, h1_, h2_, h3_, h4_, h5_, h6_, h7_, h8_, h9_⟩
  have K3 : Bx4 w5 g3 0 0 0 0 24 := ⟨h2_⟩
  have G3 : Aside0 (w.heap.size ≤ g3) := ⟨h3_⟩
  have G4 : Aside0 (w.heap.size ≤ g3) := ⟨h4_⟩
  have N3 : Aside0 (g1 ≠ g3) := ⟨h5_⟩
  have N4 : Aside0 (g3 ≠ g1) := ⟨h6_⟩
  have N5 : Aside0 (g2 ≠ g3) := ⟨h7_⟩
  have N6 : Aside0 (g3 ≠ g2) := ⟨h8_⟩
  replace K1 : Bx4 w5 g1 a1_0 a1_1 a1_2 a1_3 23 := ⟨h0_⟩
  replace K2 : Bx4 w5 g2 a2_0 a2_1 a2_2 a2_3 23 := ⟨h1_⟩
  replace HB : Aside0 (Below w.heap.size w w5) := ⟨h9_⟩
  clear h0_ h1_ h2_ h3_ h4_ h5_ h6_ h7_ h8_ h9_
  have hHeld : w5.cell? ⟨g1, 0, none⟩ = some (.int .i64 a1_0) ∧ w5.cell? ⟨g1, 1, none⟩ = some (.int .i64 a1_1) ∧ w5.cell? ⟨g1, 2, none⟩ = some (.int .i64 a1_2) ∧ w5.cell? ⟨g1, 3, none⟩ = some (.int .i64 a1_3) ∧ w5.cell? ⟨g2, 0, none⟩ = some (.int .i64 a2_0) ∧ w5.cell? ⟨g2, 1, none⟩ = some (.int .i64 a2_1) ∧ w5.cell? ⟨g2, 2, none⟩ = some (.int .i64 a2_2) ∧ w5.cell? ⟨g2, 3, none⟩ = some (.int .i64 a2_3) := hS_
  refine norm_ (a' := ?_) ?_ ?_
  rotate_left
  ·simp only [putAll, Act.put, List.setIfInBounds_toArray, List.set_cons_zero, List.set_cons_succ]
   rfl
  refine two_ (i := 2) (j := 9) (Ni := some 14) (Nj := some 7) (lb 13 1039) (lb 13 1547) rfl rfl rfl rfl (two_of HT_.out (by kernel_rfl)) (by decide) (by decide) (fun K hK => ?_) (fun K hK => ?_)
  ·skip
   refine ck3 hK Try.func5 (laws_toVal.calls _ _ _ _ _ _ _ _ _ A1.out) K1 K2 K3 HB fun w6 K1 K2 K3 HB hHeld => ?_
   clear hK K
   exact norm_ nz (hJ2_10 (g3) _ ⟨hHeld, (Z K1), (Z K2), (Z K3), G3.out, G4.out, N3.out, N4.out, N5.out, N6.out, (YA HB)⟩)
  skip
  refine box_step ?hg (N := 7) ?hd (cs := #[.int .i64 0, .int .i64 0, .int .i64 0, .int .i64 0]) (t := 24) ?hr ?_; (case hd => rfl); (case hg => rfl); (case hr => first | (go_simp; done) | (go_simp; rfl))
  intro g4 hg w6 hbox hb
  have K4 := am (hbox)
  have G5 := am (bs hg (YA HB))
  have G6 := am (bs hg (YA HB))
  obtain ⟨N7,N8⟩ := ne_ hg K1
  obtain ⟨N9,N10⟩ := ne_ hg K2
  obtain ⟨N11,N12⟩ := ne_ hg K3
  obtain ⟨K1, K2, K3, HB⟩ := bk3 K1 K2 K3 HB hb
  clear hb hbox hg
  refine kk hK ⟨bc K1 0, bc K1 1, bc K1 2, bc K1 3, bc K2 0, bc K2 1, bc K2 2, bc K2 3⟩ fun hHeld => ?_
  clear hK K
  exact norm_ nz (hJ9_10 (g4, g3) _ ⟨hHeld, (Z K1), (Z K2), (Z K4), (Z K3), G5.out, G6.out, N7.out, N8.out, N9.out, N10.out, N11.out, N12.out, G3.out, G4.out, N3.out, N4.out, N5.out, N6.out, (YA HB)⟩)
 rintro ⟨g3, g4⟩ w5 ⟨hS_, h0_, h1_, h2_, h3_, h4_, h5_, h6_, h7_, h8_, h9_, h10_, h11_, h12_, h13_, h14_, h15_, h16_, h17_, h18_⟩
 have K3 : Bx4 w5 g3 0 0 0 0 24 := ⟨h2_⟩
 have K4 : Bx4 w5 g4 0 0 0 0 24 := ⟨h3_⟩
 have G3 : Aside0 (w.heap.size ≤ g3) := ⟨h4_⟩
 have G4 : Aside0 (w.heap.size ≤ g3) := ⟨h5_⟩
 have N3 : Aside0 (g1 ≠ g3) := ⟨h6_⟩
 have N4 : Aside0 (g3 ≠ g1) := ⟨h7_⟩
 have N5 : Aside0 (g2 ≠ g3) := ⟨h8_⟩
 have N6 : Aside0 (g3 ≠ g2) := ⟨h9_⟩
 have N7 : Aside0 (g4 ≠ g3) := ⟨h10_⟩
 have N8 : Aside0 (g3 ≠ g4) := ⟨h11_⟩
 have G5 : Aside0 (w.heap.size ≤ g4) := ⟨h12_⟩
 have G6 : Aside0 (w.heap.size ≤ g4) := ⟨h13_⟩
 have N9 : Aside0 (g1 ≠ g4) := ⟨h14_⟩
 have N10 : Aside0 (g4 ≠ g1) := ⟨h15_⟩
 have N11 : Aside0 (g2 ≠ g4) := ⟨h16_⟩
 have N12 : Aside0 (g4 ≠ g2) := ⟨h17_⟩
 replace K1 : Bx4 w5 g1 a1_0 a1_1 a1_2 a1_3 23 := ⟨h0_⟩
 replace K2 : Bx4 w5 g2 a2_0 a2_1 a2_2 a2_3 23 := ⟨h1_⟩
 replace HB : Aside0 (Below w.heap.size w w5) := ⟨h18_⟩
 clear h0_ h1_ h2_ h3_ h4_ h5_ h6_ h7_ h8_ h9_ h10_ h11_ h12_ h13_ h14_ h15_ h16_ h17_ h18_
 have hHeld : w5.cell? ⟨g1, 0, none⟩ = some (.int .i64 a1_0) ∧ w5.cell? ⟨g1, 1, none⟩ = some (.int .i64 a1_1) ∧ w5.cell? ⟨g1, 2, none⟩ = some (.int .i64 a1_2) ∧ w5.cell? ⟨g1, 3, none⟩ = some (.int .i64 a1_3) ∧ w5.cell? ⟨g2, 0, none⟩ = some (.int .i64 a2_0) ∧ w5.cell? ⟨g2, 1, none⟩ = some (.int .i64 a2_1) ∧ w5.cell? ⟨g2, 2, none⟩ = some (.int .i64 a2_2) ∧ w5.cell? ⟨g2, 3, none⟩ = some (.int .i64 a2_3) := hS_
 refine norm_ (a' := ?_) ?_ ?_
 rotate_left
 ·simp only [putAll, Act.put, List.setIfInBounds_toArray, List.set_cons_zero, List.set_cons_succ]
  rfl
 refine on 11 none 4095 fun K hK => ?_
 have s1 : w5.cell? ⟨g3, 0, none⟩ = some (.int .i64 0) := bc K3 0
 have hfs23 := blk_frozen K3.out 0
 have z_ := ns6 N3 N5 N7 N4 N6 N8
 have s2 : w5.cell? ⟨g3, 1, none⟩ = some (.int .i64 0) := bc K3 1
 have hfs24 := blk_frozen K3.out 1
 have z_ := ns6 N3 N5 N7 N4 N6 N8
 have s3 : w5.cell? ⟨g3, 2, none⟩ = some (.int .i64 0) := bc K3 2
 have hfs25 := blk_frozen K3.out 2
 have z_ := ns6 N3 N5 N7 N4 N6 N8
 have s4 : w5.cell? ⟨g3, 3, none⟩ = some (.int .i64 0) := bc K3 3
 have hfs26 := blk_frozen K3.out 3
 have z_ := ns6 N3 N5 N7 N4 N6 N8
 refine skip_ (w1 := ?_) (by rfl) rfl ?_ ?_
 rotate_left
 ·go_simp
  rfl
 refine hK.out _ _ ⟨(cf N3 ((cf N3 ((cf N3 ((cf N3 (hHeld.1)))))))), (cf N3 ((cf N3 ((cf N3 ((cf N3 (hHeld.2.1)))))))), (cf N3 ((cf N3 ((cf N3 ((cf N3 (hHeld.2.2.1)))))))), (cf N3 ((cf N3 ((cf N3 ((cf N3 (hHeld.2.2.2.1)))))))), (cf N5 ((cf N5 ((cf N5 ((cf N5 (hHeld.2.2.2.2.1)))))))), (cf N5 ((cf N5 ((cf N5 ((cf N5 (hHeld.2.2.2.2.2.1)))))))), (cf N5 ((cf N5 ((cf N5 ((cf N5 (hHeld.2.2.2.2.2.2.1)))))))), (cf N5 ((cf N5 ((cf N5 ((cf N5 (hHeld.2.2.2.2.2.2.2))))))))⟩ (fun hHeld => ?_)
 clear hK K
 refine on 12 none 8191 fun K hK => ?_
 have s5 : w5.cell? ⟨g4, 0, none⟩ = some (.int .i64 0) := bc K4 0
 have hfs27 := blk_frozen K4.out 0
 have z_ := ns6 N9 N11 N8 N10 N12 N7
 have s6 : w5.cell? ⟨g4, 1, none⟩ = some (.int .i64 0) := bc K4 1
 have hfs28 := blk_frozen K4.out 1
 have z_ := ns6 N9 N11 N8 N10 N12 N7
 have s7 : w5.cell? ⟨g4, 2, none⟩ = some (.int .i64 0) := bc K4 2
 have hfs29 := blk_frozen K4.out 2
 have z_ := ns6 N9 N11 N8 N10 N12 N7
 have s8 : w5.cell? ⟨g4, 3, none⟩ = some (.int .i64 0) := bc K4 3
 have hfs30 := blk_frozen K4.out 3
 have z_ := ns6 N9 N11 N8 N10 N12 N7
 refine skip_ (w1 := ?_) (by rfl) rfl ?_ ?_
 rotate_left
 ·go_simp
  rfl
 refine hK.out _ _ ⟨(cf N9 ((cf N9 ((cf N9 ((cf N9 (hHeld.1)))))))), (cf N9 ((cf N9 ((cf N9 ((cf N9 (hHeld.2.1)))))))), (cf N9 ((cf N9 ((cf N9 ((cf N9 (hHeld.2.2.1)))))))), (cf N9 ((cf N9 ((cf N9 ((cf N9 (hHeld.2.2.2.1)))))))), (cf N11 ((cf N11 ((cf N11 ((cf N11 (hHeld.2.2.2.2.1)))))))), (cf N11 ((cf N11 ((cf N11 ((cf N11 (hHeld.2.2.2.2.2.1)))))))), (cf N11 ((cf N11 ((cf N11 ((cf N11 (hHeld.2.2.2.2.2.2.1)))))))), (cf N11 ((cf N11 ((cf N11 ((cf N11 (hHeld.2.2.2.2.2.2.2))))))))⟩ (fun hHeld => ?_)
 clear hK K
 refine done_ (done_of HT_.out (by kernel_rfl)) ?_
 try go_wp2
 have n0_ : Aside0 (((((((((w5.setCell ⟨g3, 0, none⟩ (.int .i64 t11)).setCell ⟨g3, 1, none⟩ (.int .i64 t12)).setCell ⟨g3, 2, none⟩ (.int .i64 t13)).setCell ⟨g3, 3, none⟩ (.int .i64 t14)).setCell ⟨g4, 0, none⟩ (.int .i64 t15)).setCell ⟨g4, 1, none⟩ (.int .i64 t16)).setCell ⟨g4, 2, none⟩ (.int .i64 t17)).setCell ⟨g4, 3, none⟩ (.int .i64 t18)).heap[g1]? = some (.cells #[.int .i64 a1_0, .int .i64 a1_1, .int .i64 a1_2, .int .i64 a1_3] 23 (0, 0))) := ⟨by refine fa N9 ?_; refine fa N9 ?_; refine fa N9 ?_; refine fa N9 ?_; refine fa N3 ?_; refine fa N3 ?_; refine fa N3 ?_; refine fa N3 ?_; exact Z K1⟩
 have n1_ : Aside0 (((((((((w5.setCell ⟨g3, 0, none⟩ (.int .i64 t11)).setCell ⟨g3, 1, none⟩ (.int .i64 t12)).setCell ⟨g3, 2, none⟩ (.int .i64 t13)).setCell ⟨g3, 3, none⟩ (.int .i64 t14)).setCell ⟨g4, 0, none⟩ (.int .i64 t15)).setCell ⟨g4, 1, none⟩ (.int .i64 t16)).setCell ⟨g4, 2, none⟩ (.int .i64 t17)).setCell ⟨g4, 3, none⟩ (.int .i64 t18)).heap[g2]? = some (.cells #[.int .i64 a2_0, .int .i64 a2_1, .int .i64 a2_2, .int .i64 a2_3] 23 (0, 0))) := ⟨by refine fa N11 ?_; refine fa N11 ?_; refine fa N11 ?_; refine fa N11 ?_; refine fa N5 ?_; refine fa N5 ?_; refine fa N5 ?_; refine fa N5 ?_; exact Z K2⟩
 have n2_ : Aside0 (((((((((w5.setCell ⟨g3, 0, none⟩ (.int .i64 t11)).setCell ⟨g3, 1, none⟩ (.int .i64 t12)).setCell ⟨g3, 2, none⟩ (.int .i64 t13)).setCell ⟨g3, 3, none⟩ (.int .i64 t14)).setCell ⟨g4, 0, none⟩ (.int .i64 t15)).setCell ⟨g4, 1, none⟩ (.int .i64 t16)).setCell ⟨g4, 2, none⟩ (.int .i64 t17)).setCell ⟨g4, 3, none⟩ (.int .i64 t18)).heap[g3]? = some (.cells #[.int .i64 t11, .int .i64 t12, .int .i64 t13, .int .i64 t14] 24 (0, 0))) := ⟨by refine fa N8 ?_; refine fa N8 ?_; refine fa N8 ?_; refine fa N8 ?_; refine pf ?_; refine blk_put (cs := #[.int .i64 t11, .int .i64 t12, .int .i64 t13, .int .i64 0]) ?_ 3 _ rfl; refine pf ?_; refine blk_put (cs := #[.int .i64 t11, .int .i64 t12, .int .i64 0, .int .i64 0]) ?_ 2 _ rfl; refine pf ?_; refine blk_put (cs := #[.int .i64 t11, .int .i64 0, .int .i64 0, .int .i64 0]) ?_ 1 _ rfl; refine pf ?_; refine blk_put (cs := #[.int .i64 0, .int .i64 0, .int .i64 0, .int .i64 0]) ?_ 0 _ rfl; exact Z K3⟩
 have n3_ : Aside0 (((((((((w5.setCell ⟨g3, 0, none⟩ (.int .i64 t11)).setCell ⟨g3, 1, none⟩ (.int .i64 t12)).setCell ⟨g3, 2, none⟩ (.int .i64 t13)).setCell ⟨g3, 3, none⟩ (.int .i64 t14)).setCell ⟨g4, 0, none⟩ (.int .i64 t15)).setCell ⟨g4, 1, none⟩ (.int .i64 t16)).setCell ⟨g4, 2, none⟩ (.int .i64 t17)).setCell ⟨g4, 3, none⟩ (.int .i64 t18)).heap[g4]? = some (.cells #[.int .i64 t15, .int .i64 t16, .int .i64 t17, .int .i64 t18] 24 (0, 0))) := ⟨by refine pf ?_; refine blk_put (cs := #[.int .i64 t15, .int .i64 t16, .int .i64 t17, .int .i64 0]) ?_ 3 _ rfl; refine pf ?_; refine blk_put (cs := #[.int .i64 t15, .int .i64 t16, .int .i64 0, .int .i64 0]) ?_ 2 _ rfl; refine pf ?_; refine blk_put (cs := #[.int .i64 t15, .int .i64 0, .int .i64 0, .int .i64 0]) ?_ 1 _ rfl; refine pf ?_; refine blk_put (cs := #[.int .i64 0, .int .i64 0, .int .i64 0, .int .i64 0]) ?_ 0 _ rfl; refine fa N7 ?_; refine fa N7 ?_; refine fa N7 ?_; refine fa N7 ?_; exact Z K4⟩
 have n4_ : Aside0 (Below w.heap.size w ((((((((w5.setCell ⟨g3, 0, none⟩ (.int .i64 t11)).setCell ⟨g3, 1, none⟩ (.int .i64 t12)).setCell ⟨g3, 2, none⟩ (.int .i64 t13)).setCell ⟨g3, 3, none⟩ (.int .i64 t14)).setCell ⟨g4, 0, none⟩ (.int .i64 t15)).setCell ⟨g4, 1, none⟩ (.int .i64 t16)).setCell ⟨g4, 2, none⟩ (.int .i64 t17)).setCell ⟨g4, 3, none⟩ (.int .i64 t18))) := ⟨YA HB⟩
 (try clear K1)
 (try clear K2)
 (try clear K3)
 (try clear K4)
 (try clear HB)
 generalize ((((((((w5.setCell ⟨g3, 0, none⟩ (.int .i64 t11)).setCell ⟨g3, 1, none⟩ (.int .i64 t12)).setCell ⟨g3, 2, none⟩ (.int .i64 t13)).setCell ⟨g3, 3, none⟩ (.int .i64 t14)).setCell ⟨g4, 0, none⟩ (.int .i64 t15)).setCell ⟨g4, 1, none⟩ (.int .i64 t16)).setCell ⟨g4, 2, none⟩ (.int .i64 t17)).setCell ⟨g4, 3, none⟩ (.int .i64 t18)) = w6 at n0_ n1_ n2_ n3_ n4_ ⊢
 have K1 := n0_
 have K2 := n1_
 have K3 := n2_
 have K4 := n3_
 have HB := n4_
 clear n0_ n1_ n2_ n3_ n4_
 obtain ⟨K1, K2, K3, K4, HB⟩ := dk4 K1 K2 K3 K4 HB
 refine start_ (n := 13) (S := fun w' => w'.cell? ⟨g1, 0, none⟩ = some (.int .i64 a1_0) ∧ w'.cell? ⟨g1, 1, none⟩ = some (.int .i64 a1_1) ∧ w'.cell? ⟨g1, 2, none⟩ = some (.int .i64 a1_2) ∧ w'.cell? ⟨g1, 3, none⟩ = some (.int .i64 a1_3) ∧ w'.cell? ⟨g2, 0, none⟩ = some (.int .i64 a2_0) ∧ w'.cell? ⟨g2, 1, none⟩ = some (.int .i64 a2_1) ∧ w'.cell? ⟨g2, 2, none⟩ = some (.int .i64 a2_2) ∧ w'.cell? ⟨g2, 3, none⟩ = some (.int .i64 a2_3)) (ds := []) (lb 13 0) (by kernel_rfl) rfl rfl ⟨bc K1 0, bc K1 1, bc K1 2, bc K1 3, bc K2 0, bc K2 1, bc K2 2, bc K2 3⟩ (fun hHeld => ?_); refine with_tabW laws_FnExactValCmp.tab2 laws_FnExactValCmp.bits2 (fun HT_ HW_ => ?_)
 generalize w6.drew = w7 at K1 K2 K3 K4 HB hHeld ⊢
 refine pk 0 21 1 ?_
 refine tk 1 22 3 hHeld ?_
 refine tk 3 24 11 hHeld ?_
 refine join_ (σ := Nat × Nat) 2 (lb 13 2047) (fun s_ => [(23, .agg #[.int .i64 t19, .int .i64 t20, .int .i64 t21, .int .i64 t22]), (25, .agg #[.int .i64 t23, .int .i64 t24, .int .i64 t25, .int .i64 t26]), (26, .tuple #[.agg #[.int .i64 t27, .int .i64 t28, .int .i64 t29, .int .i64 t30], .agg #[.int .i64 t31, .int .i64 t32, .int .i64 t33, .int .i64 t34]]), (9, .pointer (some ⟨s_.1, 0, none⟩)), (10, .pointer (some ⟨s_.2, 0, none⟩)), (20, .tuple #[.agg #[.int .i64 t27, .int .i64 t28, .int .i64 t29, .int .i64 t30], .agg #[.int .i64 t31, .int .i64 t32, .int .i64 t33, .int .i64 t34]]), (27, .agg #[.int .i64 t27, .int .i64 t28, .int .i64 t29, .int .i64 t30]), (28, .agg #[.int .i64 t31, .int .i64 t32, .int .i64 t33, .int .i64 t34])]) (fun s_ w' => (w'.cell? ⟨g1, 0, none⟩ = some (.int .i64 a1_0) ∧ w'.cell? ⟨g1, 1, none⟩ = some (.int .i64 a1_1) ∧ w'.cell? ⟨g1, 2, none⟩ = some (.int .i64 a1_2) ∧ w'.cell? ⟨g1, 3, none⟩ = some (.int .i64 a1_3) ∧ w'.cell? ⟨g2, 0, none⟩ = some (.int .i64 a2_0) ∧ w'.cell? ⟨g2, 1, none⟩ = some (.int .i64 a2_1) ∧ w'.cell? ⟨g2, 2, none⟩ = some (.int .i64 a2_2) ∧ w'.cell? ⟨g2, 3, none⟩ = some (.int .i64 a2_3)) ∧ (w'.heap[g1]? = some (.cells #[.int .i64 a1_0, .int .i64 a1_1, .int .i64 a1_2, .int .i64 a1_3] 23 (0, 0))) ∧ (w'.heap[g2]? = some (.cells #[.int .i64 a2_0, .int .i64 a2_1, .int .i64 a2_2, .int .i64 a2_3] 23 (0, 0))) ∧ (w'.heap[g3]? = some (.cells #[.int .i64 t11, .int .i64 t12, .int .i64 t13, .int .i64 t14] 24 (0, 0))) ∧ (w'.heap[g4]? = some (.cells #[.int .i64 t15, .int .i64 t16, .int .i64 t17, .int .i64 t18] 24 (0, 0))) ∧ (w'.heap[s_.1]? = some (.cells #[.int .i64 0, .int .i64 0, .int .i64 0, .int .i64 0] 24 (0, 0))) ∧ (w'.heap[s_.2]? = some (.cells #[.int .i64 0, .int .i64 0, .int .i64 0, .int .i64 0] 24 (0, 0))) ∧ (w.heap.size ≤ s_.1) ∧ (w.heap.size ≤ s_.1) ∧ (g1 ≠ s_.1) ∧ (s_.1 ≠ g1) ∧ (g2 ≠ s_.1) ∧ (s_.1 ≠ g2) ∧ (g3 ≠ s_.1) ∧ (s_.1 ≠ g3) ∧ (g4 ≠ s_.1) ∧ (s_.1 ≠ g4) ∧ (s_.2 ≠ s_.1) ∧ (s_.1 ≠ s_.2) ∧ (w.heap.size ≤ s_.2) ∧ (w.heap.size ≤ s_.2) ∧ (g1 ≠ s_.2) ∧ (s_.2 ≠ g1) ∧ (g2 ≠ s_.2) ∧ (s_.2 ≠ g2) ∧ (g3 ≠ s_.2) ∧ (s_.2 ≠ g3) ∧ (g4 ≠ s_.2) ∧ (s_.2 ≠ g4) ∧ (Below w.heap.size w w')) ?_ ?_
 rotate_left
 ·intro hJ2_4_5_9_10
  refine join_ (σ := Nat) 3 (lb 13 1023) (fun s_ => [(23, .agg #[.int .i64 t19, .int .i64 t20, .int .i64 t21, .int .i64 t22]), (25, .agg #[.int .i64 t23, .int .i64 t24, .int .i64 t25, .int .i64 t26]), (26, .tuple #[.agg #[.int .i64 t27, .int .i64 t28, .int .i64 t29, .int .i64 t30], .agg #[.int .i64 t31, .int .i64 t32, .int .i64 t33, .int .i64 t34]]), (9, .pointer (some ⟨s_, 0, none⟩)), (20, .tuple #[.agg #[.int .i64 t27, .int .i64 t28, .int .i64 t29, .int .i64 t30], .agg #[.int .i64 t31, .int .i64 t32, .int .i64 t33, .int .i64 t34]]), (27, .agg #[.int .i64 t27, .int .i64 t28, .int .i64 t29, .int .i64 t30]), (28, .agg #[.int .i64 t31, .int .i64 t32, .int .i64 t33, .int .i64 t34])]) (fun s_ w' => (w'.cell? ⟨g1, 0, none⟩ = some (.int .i64 a1_0) ∧ w'.cell? ⟨g1, 1, none⟩ = some (.int .i64 a1_1) ∧ w'.cell? ⟨g1, 2, none⟩ = some (.int .i64 a1_2) ∧ w'.cell? ⟨g1, 3, none⟩ = some (.int .i64 a1_3) ∧ w'.cell? ⟨g2, 0, none⟩ = some (.int .i64 a2_0) ∧ w'.cell? ⟨g2, 1, none⟩ = some (.int .i64 a2_1) ∧ w'.cell? ⟨g2, 2, none⟩ = some (.int .i64 a2_2) ∧ w'.cell? ⟨g2, 3, none⟩ = some (.int .i64 a2_3)) ∧ (w'.heap[g1]? = some (.cells #[.int .i64 a1_0, .int .i64 a1_1, .int .i64 a1_2, .int .i64 a1_3] 23 (0, 0))) ∧ (w'.heap[g2]? = some (.cells #[.int .i64 a2_0, .int .i64 a2_1, .int .i64 a2_2, .int .i64 a2_3] 23 (0, 0))) ∧ (w'.heap[g3]? = some (.cells #[.int .i64 t11, .int .i64 t12, .int .i64 t13, .int .i64 t14] 24 (0, 0))) ∧ (w'.heap[g4]? = some (.cells #[.int .i64 t15, .int .i64 t16, .int .i64 t17, .int .i64 t18] 24 (0, 0))) ∧ (w'.heap[s_]? = some (.cells #[.int .i64 0, .int .i64 0, .int .i64 0, .int .i64 0] 24 (0, 0))) ∧ (w.heap.size ≤ s_) ∧ (w.heap.size ≤ s_) ∧ (g1 ≠ s_) ∧ (s_ ≠ g1) ∧ (g2 ≠ s_) ∧ (s_ ≠ g2) ∧ (g3 ≠ s_) ∧ (s_ ≠ g3) ∧ (g4 ≠ s_) ∧ (s_ ≠ g4) ∧ (Below w.heap.size w w')) ?_ ?_
  rotate_left
  rotate_left
  ·skip
   rintro g5 w8 ⟨hS_, h0_, h1_, h2_, h3_, h4_, h5_, h6_, h7_, h8_, h9_, h10_, h11_, h12_, h13_, h14_, h15_⟩
   have K5 : Bx4 w8 g5 0 0 0 0 24 := ⟨h4_⟩
   have G7 : Aside0 (w.heap.size ≤ g5) := ⟨h5_⟩
   have G8 : Aside0 (w.heap.size ≤ g5) := ⟨h6_⟩
   have N13 : Aside0 (g1 ≠ g5) := ⟨h7_⟩
   have N14 : Aside0 (g5 ≠ g1) := ⟨h8_⟩
   have N15 : Aside0 (g2 ≠ g5) := ⟨h9_⟩
   have N16 : Aside0 (g5 ≠ g2) := ⟨h10_⟩
   have N17 : Aside0 (g3 ≠ g5) := ⟨h11_⟩
   have N18 : Aside0 (g5 ≠ g3) := ⟨h12_⟩
   have N19 : Aside0 (g4 ≠ g5) := ⟨h13_⟩
   have N20 : Aside0 (g5 ≠ g4) := ⟨h14_⟩
   replace K1 : Bx4 w8 g1 a1_0 a1_1 a1_2 a1_3 23 := ⟨h0_⟩
   replace K2 : Bx4 w8 g2 a2_0 a2_1 a2_2 a2_3 23 := ⟨h1_⟩
   replace K3 : Bx4 w8 g3 t11 t12 t13 t14 24 := ⟨h2_⟩
   replace K4 : Bx4 w8 g4 t15 t16 t17 t18 24 := ⟨h3_⟩
   replace HB : Aside0 (Below w.heap.size w w8) := ⟨h15_⟩
   clear h0_ h1_ h2_ h3_ h4_ h5_ h6_ h7_ h8_ h9_ h10_ h11_ h12_ h13_ h14_ h15_
   have hHeld : w8.cell? ⟨g1, 0, none⟩ = some (.int .i64 a1_0) ∧ w8.cell? ⟨g1, 1, none⟩ = some (.int .i64 a1_1) ∧ w8.cell? ⟨g1, 2, none⟩ = some (.int .i64 a1_2) ∧ w8.cell? ⟨g1, 3, none⟩ = some (.int .i64 a1_3) ∧ w8.cell? ⟨g2, 0, none⟩ = some (.int .i64 a2_0) ∧ w8.cell? ⟨g2, 1, none⟩ = some (.int .i64 a2_1) ∧ w8.cell? ⟨g2, 2, none⟩ = some (.int .i64 a2_2) ∧ w8.cell? ⟨g2, 3, none⟩ = some (.int .i64 a2_3) := hS_
   refine norm_ (a' := ?_) ?_ ?_
   rotate_left
   ·simp only [putAll, Act.put, List.setIfInBounds_toArray, List.set_cons_zero, List.set_cons_succ]
    rfl
   refine on 10 (some 10) 2047 fun K hK => ?_
   refine box_step ?hg (N := 10) ?hd (cs := #[.int .i64 0, .int .i64 0, .int .i64 0, .int .i64 0]) (t := 24) ?hr ?_; (case hd => rfl); (case hg => rfl); (case hr => first | (go_simp; done) | (go_simp; rfl))
   intro g6 hg w9 hbox hb
   have K6 := am (hbox)
   have G9 := am (bs hg (YA HB))
   have G10 := am (bs hg (YA HB))
   obtain ⟨N21,N22⟩ := ne_ hg K1
   obtain ⟨N23,N24⟩ := ne_ hg K2
   obtain ⟨N25,N26⟩ := ne_ hg K3
   obtain ⟨N27,N28⟩ := ne_ hg K4
   obtain ⟨N29,N30⟩ := ne_ hg K5
   obtain ⟨K1, K2, K3, K4, K5, HB⟩ := bk5 K1 K2 K3 K4 K5 HB hb
   clear hb hbox hg
   refine kk hK ⟨bc K1 0, bc K1 1, bc K1 2, bc K1 3, bc K2 0, bc K2 1, bc K2 2, bc K2 3⟩ fun hHeld => ?_
   clear hK K
   exact norm_ nz (hJ2_4_5_9_10 (g5, g6) _ ⟨hHeld, (Z K1), (Z K2), (Z K3), (Z K4), (Z K5), (Z K6), G7.out, G8.out, N13.out, N14.out, N15.out, N16.out, N17.out, N18.out, N19.out, N20.out, N30.out, N29.out, G9.out, G10.out, N21.out, N22.out, N23.out, N24.out, N25.out, N26.out, N27.out, N28.out, (YA HB)⟩)
  intro hJ2_4_5_9
  refine join_ (σ := Nat) 3 (lb 13 1535) (fun s_ => [(23, .agg #[.int .i64 t19, .int .i64 t20, .int .i64 t21, .int .i64 t22]), (25, .agg #[.int .i64 t23, .int .i64 t24, .int .i64 t25, .int .i64 t26]), (26, .tuple #[.agg #[.int .i64 t27, .int .i64 t28, .int .i64 t29, .int .i64 t30], .agg #[.int .i64 t31, .int .i64 t32, .int .i64 t33, .int .i64 t34]]), (10, .pointer (some ⟨s_, 0, none⟩)), (20, .tuple #[.agg #[.int .i64 t27, .int .i64 t28, .int .i64 t29, .int .i64 t30], .agg #[.int .i64 t31, .int .i64 t32, .int .i64 t33, .int .i64 t34]]), (27, .agg #[.int .i64 t27, .int .i64 t28, .int .i64 t29, .int .i64 t30]), (28, .agg #[.int .i64 t31, .int .i64 t32, .int .i64 t33, .int .i64 t34])]) (fun s_ w' => (w'.cell? ⟨g1, 0, none⟩ = some (.int .i64 a1_0) ∧ w'.cell? ⟨g1, 1, none⟩ = some (.int .i64 a1_1) ∧ w'.cell? ⟨g1, 2, none⟩ = some (.int .i64 a1_2) ∧ w'.cell? ⟨g1, 3, none⟩ = some (.int .i64 a1_3) ∧ w'.cell? ⟨g2, 0, none⟩ = some (.int .i64 a2_0) ∧ w'.cell? ⟨g2, 1, none⟩ = some (.int .i64 a2_1) ∧ w'.cell? ⟨g2, 2, none⟩ = some (.int .i64 a2_2) ∧ w'.cell? ⟨g2, 3, none⟩ = some (.int .i64 a2_3)) ∧ (w'.heap[g1]? = some (.cells #[.int .i64 a1_0, .int .i64 a1_1, .int .i64 a1_2, .int .i64 a1_3] 23 (0, 0))) ∧ (w'.heap[g2]? = some (.cells #[.int .i64 a2_0, .int .i64 a2_1, .int .i64 a2_2, .int .i64 a2_3] 23 (0, 0))) ∧ (w'.heap[g3]? = some (.cells #[.int .i64 t11, .int .i64 t12, .int .i64 t13, .int .i64 t14] 24 (0, 0))) ∧ (w'.heap[g4]? = some (.cells #[.int .i64 t15, .int .i64 t16, .int .i64 t17, .int .i64 t18] 24 (0, 0))) ∧ (w'.heap[s_]? = some (.cells #[.int .i64 0, .int .i64 0, .int .i64 0, .int .i64 0] 24 (0, 0))) ∧ (w.heap.size ≤ s_) ∧ (w.heap.size ≤ s_) ∧ (g1 ≠ s_) ∧ (s_ ≠ g1) ∧ (g2 ≠ s_) ∧ (s_ ≠ g2) ∧ (g3 ≠ s_) ∧ (s_ ≠ g3) ∧ (g4 ≠ s_) ∧ (s_ ≠ g4) ∧ (Below w.heap.size w w')) ?_ ?_
  rotate_left
  rotate_left
  ·skip
   rintro g5 w8 ⟨hS_, h0_, h1_, h2_, h3_, h4_, h5_, h6_, h7_, h8_, h9_, h10_, h11_, h12_, h13_, h14_, h15_⟩
   have K5 : Bx4 w8 g5 0 0 0 0 24 := ⟨h4_⟩
   have G7 : Aside0 (w.heap.size ≤ g5) := ⟨h5_⟩
   have G8 : Aside0 (w.heap.size ≤ g5) := ⟨h6_⟩
   have N13 : Aside0 (g1 ≠ g5) := ⟨h7_⟩
   have N14 : Aside0 (g5 ≠ g1) := ⟨h8_⟩
   have N15 : Aside0 (g2 ≠ g5) := ⟨h9_⟩
   have N16 : Aside0 (g5 ≠ g2) := ⟨h10_⟩
   have N17 : Aside0 (g3 ≠ g5) := ⟨h11_⟩
   have N18 : Aside0 (g5 ≠ g3) := ⟨h12_⟩
   have N19 : Aside0 (g4 ≠ g5) := ⟨h13_⟩
   have N20 : Aside0 (g5 ≠ g4) := ⟨h14_⟩
   replace K1 : Bx4 w8 g1 a1_0 a1_1 a1_2 a1_3 23 := ⟨h0_⟩
   replace K2 : Bx4 w8 g2 a2_0 a2_1 a2_2 a2_3 23 := ⟨h1_⟩
   replace K3 : Bx4 w8 g3 t11 t12 t13 t14 24 := ⟨h2_⟩
   replace K4 : Bx4 w8 g4 t15 t16 t17 t18 24 := ⟨h3_⟩
   replace HB : Aside0 (Below w.heap.size w w8) := ⟨h15_⟩
   clear h0_ h1_ h2_ h3_ h4_ h5_ h6_ h7_ h8_ h9_ h10_ h11_ h12_ h13_ h14_ h15_
   have hHeld : w8.cell? ⟨g1, 0, none⟩ = some (.int .i64 a1_0) ∧ w8.cell? ⟨g1, 1, none⟩ = some (.int .i64 a1_1) ∧ w8.cell? ⟨g1, 2, none⟩ = some (.int .i64 a1_2) ∧ w8.cell? ⟨g1, 3, none⟩ = some (.int .i64 a1_3) ∧ w8.cell? ⟨g2, 0, none⟩ = some (.int .i64 a2_0) ∧ w8.cell? ⟨g2, 1, none⟩ = some (.int .i64 a2_1) ∧ w8.cell? ⟨g2, 2, none⟩ = some (.int .i64 a2_2) ∧ w8.cell? ⟨g2, 3, none⟩ = some (.int .i64 a2_3) := hS_
   refine norm_ (a' := ?_) ?_ ?_
   rotate_left
   ·simp only [putAll, Act.put, List.setIfInBounds_toArray, List.set_cons_zero, List.set_cons_succ]
    rfl
   refine on 9 (some 9) 2047 fun K hK => ?_
   refine box_step ?hg (N := 9) ?hd (cs := #[.int .i64 0, .int .i64 0, .int .i64 0, .int .i64 0]) (t := 24) ?hr ?_; (case hd => rfl); (case hg => rfl); (case hr => first | (go_simp; done) | (go_simp; rfl))
   intro g6 hg w9 hbox hb
   have K6 := am (hbox)
   have G9 := am (bs hg (YA HB))
   have G10 := am (bs hg (YA HB))
   obtain ⟨N21,N22⟩ := ne_ hg K1
   obtain ⟨N23,N24⟩ := ne_ hg K2
   obtain ⟨N25,N26⟩ := ne_ hg K3
   obtain ⟨N27,N28⟩ := ne_ hg K4
   obtain ⟨N29,N30⟩ := ne_ hg K5
   obtain ⟨K1, K2, K3, K4, K5, HB⟩ := bk5 K1 K2 K3 K4 K5 HB hb
   clear hb hbox hg
   refine kk hK ⟨bc K1 0, bc K1 1, bc K1 2, bc K1 3, bc K2 0, bc K2 1, bc K2 2, bc K2 3⟩ fun hHeld => ?_
   clear hK K
   exact norm_ nz (hJ2_4_5_9_10 (g6, g5) _ ⟨hHeld, (Z K1), (Z K2), (Z K3), (Z K4), (Z K6), (Z K5), G9.out, G10.out, N21.out, N22.out, N23.out, N24.out, N25.out, N26.out, N27.out, N28.out, N29.out, N30.out, G7.out, G8.out, N13.out, N14.out, N15.out, N16.out, N17.out, N18.out, N19.out, N20.out, (YA HB)⟩)
  intro hJ2_4_5_10
  refine join_ (σ := Nat × Nat) 6 (lb 13 1567) (fun s_ => [(23, .agg #[.int .i64 t19, .int .i64 t20, .int .i64 t21, .int .i64 t22]), (25, .agg #[.int .i64 t23, .int .i64 t24, .int .i64 t25, .int .i64 t26]), (9, .pointer (some ⟨s_.1, 0, none⟩)), (10, .pointer (some ⟨s_.2, 0, none⟩))]) (fun s_ w' => (w'.cell? ⟨g1, 0, none⟩ = some (.int .i64 a1_0) ∧ w'.cell? ⟨g1, 1, none⟩ = some (.int .i64 a1_1) ∧ w'.cell? ⟨g1, 2, none⟩ = some (.int .i64 a1_2) ∧ w'.cell? ⟨g1, 3, none⟩ = some (.int .i64 a1_3) ∧ w'.cell? ⟨g2, 0, none⟩ = some (.int .i64 a2_0) ∧ w'.cell? ⟨g2, 1, none⟩ = some (.int .i64 a2_1) ∧ w'.cell? ⟨g2, 2, none⟩ = some (.int .i64 a2_2) ∧ w'.cell? ⟨g2, 3, none⟩ = some (.int .i64 a2_3)) ∧ (w'.heap[g1]? = some (.cells #[.int .i64 a1_0, .int .i64 a1_1, .int .i64 a1_2, .int .i64 a1_3] 23 (0, 0))) ∧ (w'.heap[g2]? = some (.cells #[.int .i64 a2_0, .int .i64 a2_1, .int .i64 a2_2, .int .i64 a2_3] 23 (0, 0))) ∧ (w'.heap[g3]? = some (.cells #[.int .i64 t11, .int .i64 t12, .int .i64 t13, .int .i64 t14] 24 (0, 0))) ∧ (w'.heap[g4]? = some (.cells #[.int .i64 t15, .int .i64 t16, .int .i64 t17, .int .i64 t18] 24 (0, 0))) ∧ (w'.heap[s_.1]? = some (.cells #[.int .i64 0, .int .i64 0, .int .i64 0, .int .i64 0] 24 (0, 0))) ∧ (w'.heap[s_.2]? = some (.cells #[.int .i64 0, .int .i64 0, .int .i64 0, .int .i64 0] 24 (0, 0))) ∧ (w.heap.size ≤ s_.1) ∧ (w.heap.size ≤ s_.1) ∧ (g1 ≠ s_.1) ∧ (s_.1 ≠ g1) ∧ (g2 ≠ s_.1) ∧ (s_.1 ≠ g2) ∧ (g3 ≠ s_.1) ∧ (s_.1 ≠ g3) ∧ (g4 ≠ s_.1) ∧ (s_.1 ≠ g4) ∧ (s_.2 ≠ s_.1) ∧ (s_.1 ≠ s_.2) ∧ (w.heap.size ≤ s_.2) ∧ (w.heap.size ≤ s_.2) ∧ (g1 ≠ s_.2) ∧ (s_.2 ≠ g1) ∧ (g2 ≠ s_.2) ∧ (s_.2 ≠ g2) ∧ (g3 ≠ s_.2) ∧ (s_.2 ≠ g3) ∧ (g4 ≠ s_.2) ∧ (s_.2 ≠ g4) ∧ (Below w.heap.size w w')) ?_ ?_
  rotate_left
  rotate_left
  ·skip
   rintro ⟨g5, g6⟩ w8 ⟨hS_, h0_, h1_, h2_, h3_, h4_, h5_, h6_, h7_, h8_, h9_, h10_, h11_, h12_, h13_, h14_, h15_, h16_, h17_, h18_, h19_, h20_, h21_, h22_, h23_, h24_, h25_, h26_, h27_, h28_⟩
   have K5 : Bx4 w8 g5 0 0 0 0 24 := ⟨h4_⟩
   have K6 : Bx4 w8 g6 0 0 0 0 24 := ⟨h5_⟩
   have G7 : Aside0 (w.heap.size ≤ g5) := ⟨h6_⟩
   have G8 : Aside0 (w.heap.size ≤ g5) := ⟨h7_⟩
   have N13 : Aside0 (g1 ≠ g5) := ⟨h8_⟩
   have N14 : Aside0 (g5 ≠ g1) := ⟨h9_⟩
   have N15 : Aside0 (g2 ≠ g5) := ⟨h10_⟩
   have N16 : Aside0 (g5 ≠ g2) := ⟨h11_⟩
   have N17 : Aside0 (g3 ≠ g5) := ⟨h12_⟩
   have N18 : Aside0 (g5 ≠ g3) := ⟨h13_⟩
   have N19 : Aside0 (g4 ≠ g5) := ⟨h14_⟩
   have N20 : Aside0 (g5 ≠ g4) := ⟨h15_⟩
   have N21 : Aside0 (g6 ≠ g5) := ⟨h16_⟩
   have N22 : Aside0 (g5 ≠ g6) := ⟨h17_⟩
   have G9 : Aside0 (w.heap.size ≤ g6) := ⟨h18_⟩
   have G10 : Aside0 (w.heap.size ≤ g6) := ⟨h19_⟩
   have N23 : Aside0 (g1 ≠ g6) := ⟨h20_⟩
   have N24 : Aside0 (g6 ≠ g1) := ⟨h21_⟩
   have N25 : Aside0 (g2 ≠ g6) := ⟨h22_⟩
   have N26 : Aside0 (g6 ≠ g2) := ⟨h23_⟩
   have N27 : Aside0 (g3 ≠ g6) := ⟨h24_⟩
   have N28 : Aside0 (g6 ≠ g3) := ⟨h25_⟩
   have N29 : Aside0 (g4 ≠ g6) := ⟨h26_⟩
   have N30 : Aside0 (g6 ≠ g4) := ⟨h27_⟩
   replace K1 : Bx4 w8 g1 a1_0 a1_1 a1_2 a1_3 23 := ⟨h0_⟩
   replace K2 : Bx4 w8 g2 a2_0 a2_1 a2_2 a2_3 23 := ⟨h1_⟩
   replace K3 : Bx4 w8 g3 t11 t12 t13 t14 24 := ⟨h2_⟩
   replace K4 : Bx4 w8 g4 t15 t16 t17 t18 24 := ⟨h3_⟩
   replace HB : Aside0 (Below w.heap.size w w8) := ⟨h28_⟩
   clear h0_ h1_ h2_ h3_ h4_ h5_ h6_ h7_ h8_ h9_ h10_ h11_ h12_ h13_ h14_ h15_ h16_ h17_ h18_ h19_ h20_ h21_ h22_ h23_ h24_ h25_ h26_ h27_ h28_
   have hHeld : w8.cell? ⟨g1, 0, none⟩ = some (.int .i64 a1_0) ∧ w8.cell? ⟨g1, 1, none⟩ = some (.int .i64 a1_1) ∧ w8.cell? ⟨g1, 2, none⟩ = some (.int .i64 a1_2) ∧ w8.cell? ⟨g1, 3, none⟩ = some (.int .i64 a1_3) ∧ w8.cell? ⟨g2, 0, none⟩ = some (.int .i64 a2_0) ∧ w8.cell? ⟨g2, 1, none⟩ = some (.int .i64 a2_1) ∧ w8.cell? ⟨g2, 2, none⟩ = some (.int .i64 a2_2) ∧ w8.cell? ⟨g2, 3, none⟩ = some (.int .i64 a2_3) := hS_
   refine norm_ (a' := ?_) ?_ ?_
   rotate_left
   ·simp only [putAll, Act.put, List.setIfInBounds_toArray, List.set_cons_zero, List.set_cons_succ]
    rfl
   refine cl6 5 26 1599 Try.func6 (impl_ValCmp.calls _ _ _ _ _ _ _ _ _ _ _ _ _ _ _ _ _ _ _ A6.out) K1 K2 K3 K4 K5 K6 HB fun w9 K1 K2 K3 K4 K5 K6 HB hHeld => ?_
   refine pk 6 20 1663 ?_
   refine pk 7 27 1791 ?_
   refine pk 8 28 2047 ?_
   exact norm_ nz (hJ2_4_5_9_10 (g5, g6) _ ⟨hHeld, (Z K1), (Z K2), (Z K3), (Z K4), (Z K5), (Z K6), G7.out, G8.out, N13.out, N14.out, N15.out, N16.out, N17.out, N18.out, N19.out, N20.out, N21.out, N22.out, G9.out, G10.out, N23.out, N24.out, N25.out, N26.out, N27.out, N28.out, N29.out, N30.out, (YA HB)⟩)
  intro hJ2_4_9_10
  refine join_ (σ := Unit) 4 (lb 13 511) (fun s_ => [(23, .agg #[.int .i64 t19, .int .i64 t20, .int .i64 t21, .int .i64 t22]), (25, .agg #[.int .i64 t23, .int .i64 t24, .int .i64 t25, .int .i64 t26]), (26, .tuple #[.agg #[.int .i64 t27, .int .i64 t28, .int .i64 t29, .int .i64 t30], .agg #[.int .i64 t31, .int .i64 t32, .int .i64 t33, .int .i64 t34]]), (20, .tuple #[.agg #[.int .i64 t27, .int .i64 t28, .int .i64 t29, .int .i64 t30], .agg #[.int .i64 t31, .int .i64 t32, .int .i64 t33, .int .i64 t34]]), (27, .agg #[.int .i64 t27, .int .i64 t28, .int .i64 t29, .int .i64 t30]), (28, .agg #[.int .i64 t31, .int .i64 t32, .int .i64 t33, .int .i64 t34])]) (fun s_ w' => (w'.cell? ⟨g1, 0, none⟩ = some (.int .i64 a1_0) ∧ w'.cell? ⟨g1, 1, none⟩ = some (.int .i64 a1_1) ∧ w'.cell? ⟨g1, 2, none⟩ = some (.int .i64 a1_2) ∧ w'.cell? ⟨g1, 3, none⟩ = some (.int .i64 a1_3) ∧ w'.cell? ⟨g2, 0, none⟩ = some (.int .i64 a2_0) ∧ w'.cell? ⟨g2, 1, none⟩ = some (.int .i64 a2_1) ∧ w'.cell? ⟨g2, 2, none⟩ = some (.int .i64 a2_2) ∧ w'.cell? ⟨g2, 3, none⟩ = some (.int .i64 a2_3)) ∧ (w'.heap[g1]? = some (.cells #[.int .i64 a1_0, .int .i64 a1_1, .int .i64 a1_2, .int .i64 a1_3] 23 (0, 0))) ∧ (w'.heap[g2]? = some (.cells #[.int .i64 a2_0, .int .i64 a2_1, .int .i64 a2_2, .int .i64 a2_3] 23 (0, 0))) ∧ (w'.heap[g3]? = some (.cells #[.int .i64 t11, .int .i64 t12, .int .i64 t13, .int .i64 t14] 24 (0, 0))) ∧ (w'.heap[g4]? = some (.cells #[.int .i64 t15, .int .i64 t16, .int .i64 t17, .int .i64 t18] 24 (0, 0))) ∧ (Below w.heap.size w w')) ?_ ?_
  rotate_left
  rotate_left
  ·skip
   rintro _ w8 ⟨hS_, h0_, h1_, h2_, h3_, h4_⟩
   replace K1 : Bx4 w8 g1 a1_0 a1_1 a1_2 a1_3 23 := ⟨h0_⟩
   replace K2 : Bx4 w8 g2 a2_0 a2_1 a2_2 a2_3 23 := ⟨h1_⟩
   replace K3 : Bx4 w8 g3 t11 t12 t13 t14 24 := ⟨h2_⟩
   replace K4 : Bx4 w8 g4 t15 t16 t17 t18 24 := ⟨h3_⟩
   replace HB : Aside0 (Below w.heap.size w w8) := ⟨h4_⟩
   clear h0_ h1_ h2_ h3_ h4_
   have hHeld : w8.cell? ⟨g1, 0, none⟩ = some (.int .i64 a1_0) ∧ w8.cell? ⟨g1, 1, none⟩ = some (.int .i64 a1_1) ∧ w8.cell? ⟨g1, 2, none⟩ = some (.int .i64 a1_2) ∧ w8.cell? ⟨g1, 3, none⟩ = some (.int .i64 a1_3) ∧ w8.cell? ⟨g2, 0, none⟩ = some (.int .i64 a2_0) ∧ w8.cell? ⟨g2, 1, none⟩ = some (.int .i64 a2_1) ∧ w8.cell? ⟨g2, 2, none⟩ = some (.int .i64 a2_2) ∧ w8.cell? ⟨g2, 3, none⟩ = some (.int .i64 a2_3) := hS_
   refine norm_ (a' := ?_) ?_ ?_
   rotate_left
   ·simp only [putAll, Act.put, List.setIfInBounds_toArray, List.set_cons_zero, List.set_cons_succ]
    rfl
   refine two_ (i := 9) (j := 10) (Ni := some 9) (Nj := some 10) (lb 13 1023) (lb 13 1535) rfl rfl rfl rfl (two_of HT_.out (by kernel_rfl)) (by decide) (by decide) (fun K hK => ?_) (fun K hK => ?_)
   ·skip
    refine box_step ?hg (N := 9) ?hd (cs := #[.int .i64 0, .int .i64 0, .int .i64 0, .int .i64 0]) (t := 24) ?hr ?_; (case hd => rfl); (case hg => rfl); (case hr => first | (go_simp; done) | (go_simp; rfl))
    intro g5 hg w9 hbox hb
    have K5 := am (hbox)
    have G7 := am (bs hg (YA HB))
    have G8 := am (bs hg (YA HB))
    obtain ⟨N13,N14⟩ := ne_ hg K1
    obtain ⟨N15,N16⟩ := ne_ hg K2
    obtain ⟨N17,N18⟩ := ne_ hg K3
    obtain ⟨N19,N20⟩ := ne_ hg K4
    obtain ⟨K1, K2, K3, K4, HB⟩ := bk4 K1 K2 K3 K4 HB hb
    clear hb hbox hg
    refine kk hK ⟨bc K1 0, bc K1 1, bc K1 2, bc K1 3, bc K2 0, bc K2 1, bc K2 2, bc K2 3⟩ fun hHeld => ?_
    clear hK K
    exact norm_ nz (hJ2_4_5_9 (g5) _ ⟨hHeld, (Z K1), (Z K2), (Z K3), (Z K4), (Z K5), G7.out, G8.out, N13.out, N14.out, N15.out, N16.out, N17.out, N18.out, N19.out, N20.out, (YA HB)⟩)
   skip
   refine box_step ?hg (N := 10) ?hd (cs := #[.int .i64 0, .int .i64 0, .int .i64 0, .int .i64 0]) (t := 24) ?hr ?_; (case hd => rfl); (case hg => rfl); (case hr => first | (go_simp; done) | (go_simp; rfl))
   intro g5 hg w9 hbox hb
   have K5 := am (hbox)
   have G7 := am (bs hg (YA HB))
   have G8 := am (bs hg (YA HB))
   obtain ⟨N13,N14⟩ := ne_ hg K1
   obtain ⟨N15,N16⟩ := ne_ hg K2
   obtain ⟨N17,N18⟩ := ne_ hg K3
   obtain ⟨N19,N20⟩ := ne_ hg K4
   obtain ⟨K1, K2, K3, K4, HB⟩ := bk4 K1 K2 K3 K4 HB hb
   clear hb hbox hg
   refine kk hK ⟨bc K1 0, bc K1 1, bc K1 2, bc K1 3, bc K2 0, bc K2 1, bc K2 2, bc K2 3⟩ fun hHeld => ?_
   clear hK K
   exact norm_ nz (hJ2_4_5_10 (g5) _ ⟨hHeld, (Z K1), (Z K2), (Z K3), (Z K4), (Z K5), G7.out, G8.out, N13.out, N14.out, N15.out, N16.out, N17.out, N18.out, N19.out, N20.out, (YA HB)⟩)
  intro hJ2_4_5
  refine join_ (σ := Nat) 7 (lb 13 543) (fun s_ => [(23, .agg #[.int .i64 t19, .int .i64 t20, .int .i64 t21, .int .i64 t22]), (25, .agg #[.int .i64 t23, .int .i64 t24, .int .i64 t25, .int .i64 t26]), (9, .pointer (some ⟨s_, 0, none⟩))]) (fun s_ w' => (w'.cell? ⟨g1, 0, none⟩ = some (.int .i64 a1_0) ∧ w'.cell? ⟨g1, 1, none⟩ = some (.int .i64 a1_1) ∧ w'.cell? ⟨g1, 2, none⟩ = some (.int .i64 a1_2) ∧ w'.cell? ⟨g1, 3, none⟩ = some (.int .i64 a1_3) ∧ w'.cell? ⟨g2, 0, none⟩ = some (.int .i64 a2_0) ∧ w'.cell? ⟨g2, 1, none⟩ = some (.int .i64 a2_1) ∧ w'.cell? ⟨g2, 2, none⟩ = some (.int .i64 a2_2) ∧ w'.cell? ⟨g2, 3, none⟩ = some (.int .i64 a2_3)) ∧ (w'.heap[g1]? = some (.cells #[.int .i64 a1_0, .int .i64 a1_1, .int .i64 a1_2, .int .i64 a1_3] 23 (0, 0))) ∧ (w'.heap[g2]? = some (.cells #[.int .i64 a2_0, .int .i64 a2_1, .int .i64 a2_2, .int .i64 a2_3] 23 (0, 0))) ∧ (w'.heap[g3]? = some (.cells #[.int .i64 t11, .int .i64 t12, .int .i64 t13, .int .i64 t14] 24 (0, 0))) ∧ (w'.heap[g4]? = some (.cells #[.int .i64 t15, .int .i64 t16, .int .i64 t17, .int .i64 t18] 24 (0, 0))) ∧ (w'.heap[s_]? = some (.cells #[.int .i64 0, .int .i64 0, .int .i64 0, .int .i64 0] 24 (0, 0))) ∧ (w.heap.size ≤ s_) ∧ (w.heap.size ≤ s_) ∧ (g1 ≠ s_) ∧ (s_ ≠ g1) ∧ (g2 ≠ s_) ∧ (s_ ≠ g2) ∧ (g3 ≠ s_) ∧ (s_ ≠ g3) ∧ (g4 ≠ s_) ∧ (s_ ≠ g4) ∧ (Below w.heap.size w w')) ?_ ?_
  rotate_left
  rotate_left
  ·skip
   rintro g5 w8 ⟨hS_, h0_, h1_, h2_, h3_, h4_, h5_, h6_, h7_, h8_, h9_, h10_, h11_, h12_, h13_, h14_, h15_⟩
   have K5 : Bx4 w8 g5 0 0 0 0 24 := ⟨h4_⟩
   have G7 : Aside0 (w.heap.size ≤ g5) := ⟨h5_⟩
   have G8 : Aside0 (w.heap.size ≤ g5) := ⟨h6_⟩
   have N13 : Aside0 (g1 ≠ g5) := ⟨h7_⟩
   have N14 : Aside0 (g5 ≠ g1) := ⟨h8_⟩
   have N15 : Aside0 (g2 ≠ g5) := ⟨h9_⟩
   have N16 : Aside0 (g5 ≠ g2) := ⟨h10_⟩
   have N17 : Aside0 (g3 ≠ g5) := ⟨h11_⟩
   have N18 : Aside0 (g5 ≠ g3) := ⟨h12_⟩
   have N19 : Aside0 (g4 ≠ g5) := ⟨h13_⟩
   have N20 : Aside0 (g5 ≠ g4) := ⟨h14_⟩
   replace K1 : Bx4 w8 g1 a1_0 a1_1 a1_2 a1_3 23 := ⟨h0_⟩
   replace K2 : Bx4 w8 g2 a2_0 a2_1 a2_2 a2_3 23 := ⟨h1_⟩
   replace K3 : Bx4 w8 g3 t11 t12 t13 t14 24 := ⟨h2_⟩
   replace K4 : Bx4 w8 g4 t15 t16 t17 t18 24 := ⟨h3_⟩
   replace HB : Aside0 (Below w.heap.size w w8) := ⟨h15_⟩
   clear h0_ h1_ h2_ h3_ h4_ h5_ h6_ h7_ h8_ h9_ h10_ h11_ h12_ h13_ h14_ h15_
   have hHeld : w8.cell? ⟨g1, 0, none⟩ = some (.int .i64 a1_0) ∧ w8.cell? ⟨g1, 1, none⟩ = some (.int .i64 a1_1) ∧ w8.cell? ⟨g1, 2, none⟩ = some (.int .i64 a1_2) ∧ w8.cell? ⟨g1, 3, none⟩ = some (.int .i64 a1_3) ∧ w8.cell? ⟨g2, 0, none⟩ = some (.int .i64 a2_0) ∧ w8.cell? ⟨g2, 1, none⟩ = some (.int .i64 a2_1) ∧ w8.cell? ⟨g2, 2, none⟩ = some (.int .i64 a2_2) ∧ w8.cell? ⟨g2, 3, none⟩ = some (.int .i64 a2_3) := hS_
   refine norm_ (a' := ?_) ?_ ?_
   rotate_left
   ·simp only [putAll, Act.put, List.setIfInBounds_toArray, List.set_cons_zero, List.set_cons_succ]
    rfl
   refine two_ (i := 5) (j := 10) (Ni := some 26) (Nj := some 10) (lb 13 575) (lb 13 1567) rfl rfl rfl rfl (two_of HT_.out (by kernel_rfl)) (by decide) (by decide) (fun K hK => ?_) (fun K hK => ?_)
   ·skip
    refine ck5 hK Try.func6 (impl_ValCmp.calls _ _ _ _ _ _ _ _ _ _ _ _ _ _ _ _ _ _ _ A6.out) K1 K2 K3 K4 K5 HB fun w9 K1 K2 K3 K4 K5 HB hHeld => ?_
    clear hK K
    refine pk 6 20 639 ?_
    refine pk 7 27 767 ?_
    refine pk 8 28 1023 ?_
    exact norm_ nz (hJ2_4_5_9 (g5) _ ⟨hHeld, (Z K1), (Z K2), (Z K3), (Z K4), (Z K5), G7.out, G8.out, N13.out, N14.out, N15.out, N16.out, N17.out, N18.out, N19.out, N20.out, (YA HB)⟩)
   skip
   refine box_step ?hg (N := 10) ?hd (cs := #[.int .i64 0, .int .i64 0, .int .i64 0, .int .i64 0]) (t := 24) ?hr ?_; (case hd => rfl); (case hg => rfl); (case hr => first | (go_simp; done) | (go_simp; rfl))
   intro g6 hg w9 hbox hb
   have K6 := am (hbox)
   have G9 := am (bs hg (YA HB))
   have G10 := am (bs hg (YA HB))
   obtain ⟨N21,N22⟩ := ne_ hg K1
   obtain ⟨N23,N24⟩ := ne_ hg K2
   obtain ⟨N25,N26⟩ := ne_ hg K3
   obtain ⟨N27,N28⟩ := ne_ hg K4
   obtain ⟨N29,N30⟩ := ne_ hg K5
   obtain ⟨K1, K2, K3, K4, K5, HB⟩ := bk5 K1 K2 K3 K4 K5 HB hb
   clear hb hbox hg
   refine kk hK ⟨bc K1 0, bc K1 1, bc K1 2, bc K1 3, bc K2 0, bc K2 1, bc K2 2, bc K2 3⟩ fun hHeld => ?_
   clear hK K
   exact norm_ nz (hJ2_4_9_10 (g5, g6) _ ⟨hHeld, (Z K1), (Z K2), (Z K3), (Z K4), (Z K5), (Z K6), G7.out, G8.out, N13.out, N14.out, N15.out, N16.out, N17.out, N18.out, N19.out, N20.out, N30.out, N29.out, G9.out, G10.out, N21.out, N22.out, N23.out, N24.out, N25.out, N26.out, N27.out, N28.out, (YA HB)⟩)
  intro hJ2_4_9
  refine join_ (σ := Nat) 7 (lb 13 1055) (fun s_ => [(23, .agg #[.int .i64 t19, .int .i64 t20, .int .i64 t21, .int .i64 t22]), (25, .agg #[.int .i64 t23, .int .i64 t24, .int .i64 t25, .int .i64 t26]), (10, .pointer (some ⟨s_, 0, none⟩))]) (fun s_ w' => (w'.cell? ⟨g1, 0, none⟩ = some (.int .i64 a1_0) ∧ w'.cell? ⟨g1, 1, none⟩ = some (.int .i64 a1_1) ∧ w'.cell? ⟨g1, 2, none⟩ = some (.int .i64 a1_2) ∧ w'.cell? ⟨g1, 3, none⟩ = some (.int .i64 a1_3) ∧ w'.cell? ⟨g2, 0, none⟩ = some (.int .i64 a2_0) ∧ w'.cell? ⟨g2, 1, none⟩ = some (.int .i64 a2_1) ∧ w'.cell? ⟨g2, 2, none⟩ = some (.int .i64 a2_2) ∧ w'.cell? ⟨g2, 3, none⟩ = some (.int .i64 a2_3)) ∧ (w'.heap[g1]? = some (.cells #[.int .i64 a1_0, .int .i64 a1_1, .int .i64 a1_2, .int .i64 a1_3] 23 (0, 0))) ∧ (w'.heap[g2]? = some (.cells #[.int .i64 a2_0, .int .i64 a2_1, .int .i64 a2_2, .int .i64 a2_3] 23 (0, 0))) ∧ (w'.heap[g3]? = some (.cells #[.int .i64 t11, .int .i64 t12, .int .i64 t13, .int .i64 t14] 24 (0, 0))) ∧ (w'.heap[g4]? = some (.cells #[.int .i64 t15, .int .i64 t16, .int .i64 t17, .int .i64 t18] 24 (0, 0))) ∧ (w'.heap[s_]? = some (.cells #[.int .i64 0, .int .i64 0, .int .i64 0, .int .i64 0] 24 (0, 0))) ∧ (w.heap.size ≤ s_) ∧ (w.heap.size ≤ s_) ∧ (g1 ≠ s_) ∧ (s_ ≠ g1) ∧ (g2 ≠ s_) ∧ (s_ ≠ g2) ∧ (g3 ≠ s_) ∧ (s_ ≠ g3) ∧ (g4 ≠ s_) ∧ (s_ ≠ g4) ∧ (Below w.heap.size w w')) ?_ ?_
  rotate_left
  rotate_left
  ·skip
   rintro g5 w8 ⟨hS_, h0_, h1_, h2_, h3_, h4_, h5_, h6_, h7_, h8_, h9_, h10_, h11_, h12_, h13_, h14_, h15_⟩
   have K5 : Bx4 w8 g5 0 0 0 0 24 := ⟨h4_⟩
   have G7 : Aside0 (w.heap.size ≤ g5) := ⟨h5_⟩
   have G8 : Aside0 (w.heap.size ≤ g5) := ⟨h6_⟩
   have N13 : Aside0 (g1 ≠ g5) := ⟨h7_⟩
   have N14 : Aside0 (g5 ≠ g1) := ⟨h8_⟩
   have N15 : Aside0 (g2 ≠ g5) := ⟨h9_⟩
   have N16 : Aside0 (g5 ≠ g2) := ⟨h10_⟩
   have N17 : Aside0 (g3 ≠ g5) := ⟨h11_⟩
   have N18 : Aside0 (g5 ≠ g3) := ⟨h12_⟩
   have N19 : Aside0 (g4 ≠ g5) := ⟨h13_⟩
   have N20 : Aside0 (g5 ≠ g4) := ⟨h14_⟩
   replace K1 : Bx4 w8 g1 a1_0 a1_1 a1_2 a1_3 23 := ⟨h0_⟩
   replace K2 : Bx4 w8 g2 a2_0 a2_1 a2_2 a2_3 23 := ⟨h1_⟩
   replace K3 : Bx4 w8 g3 t11 t12 t13 t14 24 := ⟨h2_⟩
   replace K4 : Bx4 w8 g4 t15 t16 t17 t18 24 := ⟨h3_⟩
   replace HB : Aside0 (Below w.heap.size w w8) := ⟨h15_⟩
   clear h0_ h1_ h2_ h3_ h4_ h5_ h6_ h7_ h8_ h9_ h10_ h11_ h12_ h13_ h14_ h15_
   have hHeld : w8.cell? ⟨g1, 0, none⟩ = some (.int .i64 a1_0) ∧ w8.cell? ⟨g1, 1, none⟩ = some (.int .i64 a1_1) ∧ w8.cell? ⟨g1, 2, none⟩ = some (.int .i64 a1_2) ∧ w8.cell? ⟨g1, 3, none⟩ = some (.int .i64 a1_3) ∧ w8.cell? ⟨g2, 0, none⟩ = some (.int .i64 a2_0) ∧ w8.cell? ⟨g2, 1, none⟩ = some (.int .i64 a2_1) ∧ w8.cell? ⟨g2, 2, none⟩ = some (.int .i64 a2_2) ∧ w8.cell? ⟨g2, 3, none⟩ = some (.int .i64 a2_3) := hS_
   refine norm_ (a' := ?_) ?_ ?_
   rotate_left
   ·simp only [putAll, Act.put, List.setIfInBounds_toArray, List.set_cons_zero, List.set_cons_succ]
    rfl
   refine two_ (i := 5) (j := 9) (Ni := some 26) (Nj := some 9) (lb 13 1087) (lb 13 1567) rfl rfl rfl rfl (two_of HT_.out (by kernel_rfl)) (by decide) (by decide) (fun K hK => ?_) (fun K hK => ?_)
   ·skip
    refine ck5 hK Try.func6 (impl_ValCmp.calls _ _ _ _ _ _ _ _ _ _ _ _ _ _ _ _ _ _ _ A6.out) K1 K2 K3 K4 K5 HB fun w9 K1 K2 K3 K4 K5 HB hHeld => ?_
    clear hK K
    refine pk 6 20 1151 ?_
    refine pk 7 27 1279 ?_
    refine pk 8 28 1535 ?_
    exact norm_ nz (hJ2_4_5_10 (g5) _ ⟨hHeld, (Z K1), (Z K2), (Z K3), (Z K4), (Z K5), G7.out, G8.out, N13.out, N14.out, N15.out, N16.out, N17.out, N18.out, N19.out, N20.out, (YA HB)⟩)
   skip
   refine box_step ?hg (N := 9) ?hd (cs := #[.int .i64 0, .int .i64 0, .int .i64 0, .int .i64 0]) (t := 24) ?hr ?_; (case hd => rfl); (case hg => rfl); (case hr => first | (go_simp; done) | (go_simp; rfl))
   intro g6 hg w9 hbox hb
   have K6 := am (hbox)
   have G9 := am (bs hg (YA HB))
   have G10 := am (bs hg (YA HB))
   obtain ⟨N21,N22⟩ := ne_ hg K1
   obtain ⟨N23,N24⟩ := ne_ hg K2
   obtain ⟨N25,N26⟩ := ne_ hg K3
   obtain ⟨N27,N28⟩ := ne_ hg K4
   obtain ⟨N29,N30⟩ := ne_ hg K5
   obtain ⟨K1, K2, K3, K4, K5, HB⟩ := bk5 K1 K2 K3 K4 K5 HB hb
   clear hb hbox hg
   refine kk hK ⟨bc K1 0, bc K1 1, bc K1 2, bc K1 3, bc K2 0, bc K2 1, bc K2 2, bc K2 3⟩ fun hHeld => ?_
   clear hK K
   exact norm_ nz (hJ2_4_9_10 (g6, g5) _ ⟨hHeld, (Z K1), (Z K2), (Z K3), (Z K4), (Z K6), (Z K5), G9.out, G10.out, N21.out, N22.out, N23.out, N24.out, N25.out, N26.out, N27.out, N28.out, N29.out, N30.out, G7.out, G8.out, N13.out, N14.out, N15.out, N16.out, N17.out, N18.out, N19.out, N20.out, (YA HB)⟩)
  intro hJ2_4_10
  refine join_ (σ := Nat × Nat) 7 (lb 13 1551) (fun s_ => [(23, .agg #[.int .i64 t19, .int .i64 t20, .int .i64 t21, .int .i64 t22]), (9, .pointer (some ⟨s_.1, 0, none⟩)), (10, .pointer (some ⟨s_.2, 0, none⟩))]) (fun s_ w' => (w'.cell? ⟨g1, 0, none⟩ = some (.int .i64 a1_0) ∧ w'.cell? ⟨g1, 1, none⟩ = some (.int .i64 a1_1) ∧ w'.cell? ⟨g1, 2, none⟩ = some (.int .i64 a1_2) ∧ w'.cell? ⟨g1, 3, none⟩ = some (.int .i64 a1_3) ∧ w'.cell? ⟨g2, 0, none⟩ = some (.int .i64 a2_0) ∧ w'.cell? ⟨g2, 1, none⟩ = some (.int .i64 a2_1) ∧ w'.cell? ⟨g2, 2, none⟩ = some (.int .i64 a2_2) ∧ w'.cell? ⟨g2, 3, none⟩ = some (.int .i64 a2_3)) ∧ (w'.heap[g1]? = some (.cells #[.int .i64 a1_0, .int .i64 a1_1, .int .i64 a1_2, .int .i64 a1_3] 23 (0, 0))) ∧ (w'.heap[g2]? = some (.cells #[.int .i64 a2_0, .int .i64 a2_1, .int .i64 a2_2, .int .i64 a2_3] 23 (0, 0))) ∧ (w'.heap[g3]? = some (.cells #[.int .i64 t11, .int .i64 t12, .int .i64 t13, .int .i64 t14] 24 (0, 0))) ∧ (w'.heap[g4]? = some (.cells #[.int .i64 t15, .int .i64 t16, .int .i64 t17, .int .i64 t18] 24 (0, 0))) ∧ (w'.heap[s_.1]? = some (.cells #[.int .i64 0, .int .i64 0, .int .i64 0, .int .i64 0] 24 (0, 0))) ∧ (w'.heap[s_.2]? = some (.cells #[.int .i64 0, .int .i64 0, .int .i64 0, .int .i64 0] 24 (0, 0))) ∧ (w.heap.size ≤ s_.1) ∧ (w.heap.size ≤ s_.1) ∧ (g1 ≠ s_.1) ∧ (s_.1 ≠ g1) ∧ (g2 ≠ s_.1) ∧ (s_.1 ≠ g2) ∧ (g3 ≠ s_.1) ∧ (s_.1 ≠ g3) ∧ (g4 ≠ s_.1) ∧ (s_.1 ≠ g4) ∧ (s_.2 ≠ s_.1) ∧ (s_.1 ≠ s_.2) ∧ (w.heap.size ≤ s_.2) ∧ (w.heap.size ≤ s_.2) ∧ (g1 ≠ s_.2) ∧ (s_.2 ≠ g1) ∧ (g2 ≠ s_.2) ∧ (s_.2 ≠ g2) ∧ (g3 ≠ s_.2) ∧ (s_.2 ≠ g3) ∧ (g4 ≠ s_.2) ∧ (s_.2 ≠ g4) ∧ (Below w.heap.size w w')) ?_ ?_
  rotate_left
  rotate_left
  ·skip
   rintro ⟨g5, g6⟩ w8 ⟨hS_, h0_, h1_, h2_, h3_, h4_, h5_, h6_, h7_, h8_, h9_, h10_, h11_, h12_, h13_, h14_, h15_, h16_, h17_, h18_, h19_, h20_, h21_, h22_, h23_, h24_, h25_, h26_, h27_, h28_⟩
   have K5 : Bx4 w8 g5 0 0 0 0 24 := ⟨h4_⟩
   have K6 : Bx4 w8 g6 0 0 0 0 24 := ⟨h5_⟩
   have G7 : Aside0 (w.heap.size ≤ g5) := ⟨h6_⟩
   have G8 : Aside0 (w.heap.size ≤ g5) := ⟨h7_⟩
   have N13 : Aside0 (g1 ≠ g5) := ⟨h8_⟩
   have N14 : Aside0 (g5 ≠ g1) := ⟨h9_⟩
   have N15 : Aside0 (g2 ≠ g5) := ⟨h10_⟩
   have N16 : Aside0 (g5 ≠ g2) := ⟨h11_⟩
   have N17 : Aside0 (g3 ≠ g5) := ⟨h12_⟩
   have N18 : Aside0 (g5 ≠ g3) := ⟨h13_⟩
   have N19 : Aside0 (g4 ≠ g5) := ⟨h14_⟩
   have N20 : Aside0 (g5 ≠ g4) := ⟨h15_⟩
   have N21 : Aside0 (g6 ≠ g5) := ⟨h16_⟩
   have N22 : Aside0 (g5 ≠ g6) := ⟨h17_⟩
   have G9 : Aside0 (w.heap.size ≤ g6) := ⟨h18_⟩
   have G10 : Aside0 (w.heap.size ≤ g6) := ⟨h19_⟩
   have N23 : Aside0 (g1 ≠ g6) := ⟨h20_⟩
   have N24 : Aside0 (g6 ≠ g1) := ⟨h21_⟩
   have N25 : Aside0 (g2 ≠ g6) := ⟨h22_⟩
   have N26 : Aside0 (g6 ≠ g2) := ⟨h23_⟩
   have N27 : Aside0 (g3 ≠ g6) := ⟨h24_⟩
   have N28 : Aside0 (g6 ≠ g3) := ⟨h25_⟩
   have N29 : Aside0 (g4 ≠ g6) := ⟨h26_⟩
   have N30 : Aside0 (g6 ≠ g4) := ⟨h27_⟩
   replace K1 : Bx4 w8 g1 a1_0 a1_1 a1_2 a1_3 23 := ⟨h0_⟩
   replace K2 : Bx4 w8 g2 a2_0 a2_1 a2_2 a2_3 23 := ⟨h1_⟩
   replace K3 : Bx4 w8 g3 t11 t12 t13 t14 24 := ⟨h2_⟩
   replace K4 : Bx4 w8 g4 t15 t16 t17 t18 24 := ⟨h3_⟩
   replace HB : Aside0 (Below w.heap.size w w8) := ⟨h28_⟩
   clear h0_ h1_ h2_ h3_ h4_ h5_ h6_ h7_ h8_ h9_ h10_ h11_ h12_ h13_ h14_ h15_ h16_ h17_ h18_ h19_ h20_ h21_ h22_ h23_ h24_ h25_ h26_ h27_ h28_
   have hHeld : w8.cell? ⟨g1, 0, none⟩ = some (.int .i64 a1_0) ∧ w8.cell? ⟨g1, 1, none⟩ = some (.int .i64 a1_1) ∧ w8.cell? ⟨g1, 2, none⟩ = some (.int .i64 a1_2) ∧ w8.cell? ⟨g1, 3, none⟩ = some (.int .i64 a1_3) ∧ w8.cell? ⟨g2, 0, none⟩ = some (.int .i64 a2_0) ∧ w8.cell? ⟨g2, 1, none⟩ = some (.int .i64 a2_1) ∧ w8.cell? ⟨g2, 2, none⟩ = some (.int .i64 a2_2) ∧ w8.cell? ⟨g2, 3, none⟩ = some (.int .i64 a2_3) := hS_
   refine norm_ (a' := ?_) ?_ ?_
   rotate_left
   ·simp only [putAll, Act.put, List.setIfInBounds_toArray, List.set_cons_zero, List.set_cons_succ]
    rfl
   refine cl6 4 25 1567 Try.func5 (laws_toVal.calls _ _ _ _ _ _ _ _ _ A5.out) K1 K2 K3 K4 K5 K6 HB fun w9 K1 K2 K3 K4 K5 K6 HB hHeld => ?_
   exact norm_ nz (hJ2_4_9_10 (g5, g6) _ ⟨hHeld, (Z K1), (Z K2), (Z K3), (Z K4), (Z K5), (Z K6), G7.out, G8.out, N13.out, N14.out, N15.out, N16.out, N17.out, N18.out, N19.out, N20.out, N21.out, N22.out, G9.out, G10.out, N23.out, N24.out, N25.out, N26.out, N27.out, N28.out, N29.out, N30.out, (YA HB)⟩)
  intro hJ2_9_10
  refine join_ (σ := Unit) 8 (lb 13 31) (fun s_ => [(23, .agg #[.int .i64 t19, .int .i64 t20, .int .i64 t21, .int .i64 t22]), (25, .agg #[.int .i64 t23, .int .i64 t24, .int .i64 t25, .int .i64 t26])]) (fun s_ w' => (w'.cell? ⟨g1, 0, none⟩ = some (.int .i64 a1_0) ∧ w'.cell? ⟨g1, 1, none⟩ = some (.int .i64 a1_1) ∧ w'.cell? ⟨g1, 2, none⟩ = some (.int .i64 a1_2) ∧ w'.cell? ⟨g1, 3, none⟩ = some (.int .i64 a1_3) ∧ w'.cell? ⟨g2, 0, none⟩ = some (.int .i64 a2_0) ∧ w'.cell? ⟨g2, 1, none⟩ = some (.int .i64 a2_1) ∧ w'.cell? ⟨g2, 2, none⟩ = some (.int .i64 a2_2) ∧ w'.cell? ⟨g2, 3, none⟩ = some (.int .i64 a2_3)) ∧ (w'.heap[g1]? = some (.cells #[.int .i64 a1_0, .int .i64 a1_1, .int .i64 a1_2, .int .i64 a1_3] 23 (0, 0))) ∧ (w'.heap[g2]? = some (.cells #[.int .i64 a2_0, .int .i64 a2_1, .int .i64 a2_2, .int .i64 a2_3] 23 (0, 0))) ∧ (w'.heap[g3]? = some (.cells #[.int .i64 t11, .int .i64 t12, .int .i64 t13, .int .i64 t14] 24 (0, 0))) ∧ (w'.heap[g4]? = some (.cells #[.int .i64 t15, .int .i64 t16, .int .i64 t17, .int .i64 t18] 24 (0, 0))) ∧ (Below w.heap.size w w')) ?_ ?_
  rotate_left
  rotate_left
  ·skip
   rintro _ w8 ⟨hS_, h0_, h1_, h2_, h3_, h4_⟩
   replace K1 : Bx4 w8 g1 a1_0 a1_1 a1_2 a1_3 23 := ⟨h0_⟩
   replace K2 : Bx4 w8 g2 a2_0 a2_1 a2_2 a2_3 23 := ⟨h1_⟩
   replace K3 : Bx4 w8 g3 t11 t12 t13 t14 24 := ⟨h2_⟩
   replace K4 : Bx4 w8 g4 t15 t16 t17 t18 24 := ⟨h3_⟩
   replace HB : Aside0 (Below w.heap.size w w8) := ⟨h4_⟩
   clear h0_ h1_ h2_ h3_ h4_
   have hHeld : w8.cell? ⟨g1, 0, none⟩ = some (.int .i64 a1_0) ∧ w8.cell? ⟨g1, 1, none⟩ = some (.int .i64 a1_1) ∧ w8.cell? ⟨g1, 2, none⟩ = some (.int .i64 a1_2) ∧ w8.cell? ⟨g1, 3, none⟩ = some (.int .i64 a1_3) ∧ w8.cell? ⟨g2, 0, none⟩ = some (.int .i64 a2_0) ∧ w8.cell? ⟨g2, 1, none⟩ = some (.int .i64 a2_1) ∧ w8.cell? ⟨g2, 2, none⟩ = some (.int .i64 a2_2) ∧ w8.cell? ⟨g2, 3, none⟩ = some (.int .i64 a2_3) := hS_
   refine norm_ (a' := ?_) ?_ ?_
   rotate_left
   ·simp only [putAll, Act.put, List.setIfInBounds_toArray, List.set_cons_zero, List.set_cons_succ]
    rfl
   refine three_ (i := 5) (j := 9) (k := 10) (Ni := some 26) (Nj := some 9) (Nk := some 10) (lb 13 63) (lb 13 543) (lb 13 1055) rfl rfl rfl rfl rfl rfl (three_of HT_.out (by kernel_rfl)) (by decide) (by decide) (by decide) (fun K hK => ?_) (fun K hK => ?_) (fun K hK => ?_)
   ·skip
    refine ck4 hK Try.func6 (impl_ValCmp.calls _ _ _ _ _ _ _ _ _ _ _ _ _ _ _ _ _ _ _ A6.out) K1 K2 K3 K4 HB fun w9 K1 K2 K3 K4 HB hHeld => ?_
    clear hK K
    refine pk 6 20 127 ?_
    refine pk 7 27 255 ?_
    refine pk 8 28 511 ?_
    exact norm_ nz (hJ2_4_5 () _ ⟨hHeld, (Z K1), (Z K2), (Z K3), (Z K4), (YA HB)⟩)
   ·skip
    refine box_step ?hg (N := 9) ?hd (cs := #[.int .i64 0, .int .i64 0, .int .i64 0, .int .i64 0]) (t := 24) ?hr ?_; (case hd => rfl); (case hg => rfl); (case hr => first | (go_simp; done) | (go_simp; rfl))
    intro g5 hg w9 hbox hb
    have K5 := am (hbox)
    have G7 := am (bs hg (YA HB))
    have G8 := am (bs hg (YA HB))
    obtain ⟨N13,N14⟩ := ne_ hg K1
    obtain ⟨N15,N16⟩ := ne_ hg K2
    obtain ⟨N17,N18⟩ := ne_ hg K3
    obtain ⟨N19,N20⟩ := ne_ hg K4
    obtain ⟨K1, K2, K3, K4, HB⟩ := bk4 K1 K2 K3 K4 HB hb
    clear hb hbox hg
    refine kk hK ⟨bc K1 0, bc K1 1, bc K1 2, bc K1 3, bc K2 0, bc K2 1, bc K2 2, bc K2 3⟩ fun hHeld => ?_
    clear hK K
    exact norm_ nz (hJ2_4_9 (g5) _ ⟨hHeld, (Z K1), (Z K2), (Z K3), (Z K4), (Z K5), G7.out, G8.out, N13.out, N14.out, N15.out, N16.out, N17.out, N18.out, N19.out, N20.out, (YA HB)⟩)
   skip
   refine box_step ?hg (N := 10) ?hd (cs := #[.int .i64 0, .int .i64 0, .int .i64 0, .int .i64 0]) (t := 24) ?hr ?_; (case hd => rfl); (case hg => rfl); (case hr => first | (go_simp; done) | (go_simp; rfl))
   intro g5 hg w9 hbox hb
   have K5 := am (hbox)
   have G7 := am (bs hg (YA HB))
   have G8 := am (bs hg (YA HB))
   obtain ⟨N13,N14⟩ := ne_ hg K1
   obtain ⟨N15,N16⟩ := ne_ hg K2
   obtain ⟨N17,N18⟩ := ne_ hg K3
   obtain ⟨N19,N20⟩ := ne_ hg K4
   obtain ⟨K1, K2, K3, K4, HB⟩ := bk4 K1 K2 K3 K4 HB hb
   clear hb hbox hg
   refine kk hK ⟨bc K1 0, bc K1 1, bc K1 2, bc K1 3, bc K2 0, bc K2 1, bc K2 2, bc K2 3⟩ fun hHeld => ?_
   clear hK K
   exact norm_ nz (hJ2_4_10 (g5) _ ⟨hHeld, (Z K1), (Z K2), (Z K3), (Z K4), (Z K5), G7.out, G8.out, N13.out, N14.out, N15.out, N16.out, N17.out, N18.out, N19.out, N20.out, (YA HB)⟩)
  intro hJ2_4
  refine join_ (σ := Nat) 8 (lb 13 527) (fun s_ => [(23, .agg #[.int .i64 t19, .int .i64 t20, .int .i64 t21, .int .i64 t22]), (9, .pointer (some ⟨s_, 0, none⟩))]) (fun s_ w' => (w'.cell? ⟨g1, 0, none⟩ = some (.int .i64 a1_0) ∧ w'.cell? ⟨g1, 1, none⟩ = some (.int .i64 a1_1) ∧ w'.cell? ⟨g1, 2, none⟩ = some (.int .i64 a1_2) ∧ w'.cell? ⟨g1, 3, none⟩ = some (.int .i64 a1_3) ∧ w'.cell? ⟨g2, 0, none⟩ = some (.int .i64 a2_0) ∧ w'.cell? ⟨g2, 1, none⟩ = some (.int .i64 a2_1) ∧ w'.cell? ⟨g2, 2, none⟩ = some (.int .i64 a2_2) ∧ w'.cell? ⟨g2, 3, none⟩ = some (.int .i64 a2_3)) ∧ (w'.heap[g1]? = some (.cells #[.int .i64 a1_0, .int .i64 a1_1, .int .i64 a1_2, .int .i64 a1_3] 23 (0, 0))) ∧ (w'.heap[g2]? = some (.cells #[.int .i64 a2_0, .int .i64 a2_1, .int .i64 a2_2, .int .i64 a2_3] 23 (0, 0))) ∧ (w'.heap[g3]? = some (.cells #[.int .i64 t11, .int .i64 t12, .int .i64 t13, .int .i64 t14] 24 (0, 0))) ∧ (w'.heap[g4]? = some (.cells #[.int .i64 t15, .int .i64 t16, .int .i64 t17, .int .i64 t18] 24 (0, 0))) ∧ (w'.heap[s_]? = some (.cells #[.int .i64 0, .int .i64 0, .int .i64 0, .int .i64 0] 24 (0, 0))) ∧ (w.heap.size ≤ s_) ∧ (w.heap.size ≤ s_) ∧ (g1 ≠ s_) ∧ (s_ ≠ g1) ∧ (g2 ≠ s_) ∧ (s_ ≠ g2) ∧ (g3 ≠ s_) ∧ (s_ ≠ g3) ∧ (g4 ≠ s_) ∧ (s_ ≠ g4) ∧ (Below w.heap.size w w')) ?_ ?_
  rotate_left
  rotate_left
  ·skip
   rintro g5 w8 ⟨hS_, h0_, h1_, h2_, h3_, h4_, h5_, h6_, h7_, h8_, h9_, h10_, h11_, h12_, h13_, h14_, h15_⟩
   have K5 : Bx4 w8 g5 0 0 0 0 24 := ⟨h4_⟩
   have G7 : Aside0 (w.heap.size ≤ g5) := ⟨h5_⟩
   have G8 : Aside0 (w.heap.size ≤ g5) := ⟨h6_⟩
   have N13 : Aside0 (g1 ≠ g5) := ⟨h7_⟩
   have N14 : Aside0 (g5 ≠ g1) := ⟨h8_⟩
   have N15 : Aside0 (g2 ≠ g5) := ⟨h9_⟩
   have N16 : Aside0 (g5 ≠ g2) := ⟨h10_⟩
   have N17 : Aside0 (g3 ≠ g5) := ⟨h11_⟩
   have N18 : Aside0 (g5 ≠ g3) := ⟨h12_⟩
   have N19 : Aside0 (g4 ≠ g5) := ⟨h13_⟩
   have N20 : Aside0 (g5 ≠ g4) := ⟨h14_⟩
   replace K1 : Bx4 w8 g1 a1_0 a1_1 a1_2 a1_3 23 := ⟨h0_⟩
   replace K2 : Bx4 w8 g2 a2_0 a2_1 a2_2 a2_3 23 := ⟨h1_⟩
   replace K3 : Bx4 w8 g3 t11 t12 t13 t14 24 := ⟨h2_⟩
   replace K4 : Bx4 w8 g4 t15 t16 t17 t18 24 := ⟨h3_⟩
   replace HB : Aside0 (Below w.heap.size w w8) := ⟨h15_⟩
   clear h0_ h1_ h2_ h3_ h4_ h5_ h6_ h7_ h8_ h9_ h10_ h11_ h12_ h13_ h14_ h15_
   have hHeld : w8.cell? ⟨g1, 0, none⟩ = some (.int .i64 a1_0) ∧ w8.cell? ⟨g1, 1, none⟩ = some (.int .i64 a1_1) ∧ w8.cell? ⟨g1, 2, none⟩ = some (.int .i64 a1_2) ∧ w8.cell? ⟨g1, 3, none⟩ = some (.int .i64 a1_3) ∧ w8.cell? ⟨g2, 0, none⟩ = some (.int .i64 a2_0) ∧ w8.cell? ⟨g2, 1, none⟩ = some (.int .i64 a2_1) ∧ w8.cell? ⟨g2, 2, none⟩ = some (.int .i64 a2_2) ∧ w8.cell? ⟨g2, 3, none⟩ = some (.int .i64 a2_3) := hS_
   refine norm_ (a' := ?_) ?_ ?_
   rotate_left
   ·simp only [putAll, Act.put, List.setIfInBounds_toArray, List.set_cons_zero, List.set_cons_succ]
    rfl
   refine two_ (i := 4) (j := 10) (Ni := some 25) (Nj := some 10) (lb 13 543) (lb 13 1551) rfl rfl rfl rfl (two_of HT_.out (by kernel_rfl)) (by decide) (by decide) (fun K hK => ?_) (fun K hK => ?_)
   ·skip
    refine ck5 hK Try.func5 (laws_toVal.calls _ _ _ _ _ _ _ _ _ A5.out) K1 K2 K3 K4 K5 HB fun w9 K1 K2 K3 K4 K5 HB hHeld => ?_
    clear hK K
    exact norm_ nz (hJ2_4_9 (g5) _ ⟨hHeld, (Z K1), (Z K2), (Z K3), (Z K4), (Z K5), G7.out, G8.out, N13.out, N14.out, N15.out, N16.out, N17.out, N18.out, N19.out, N20.out, (YA HB)⟩)
   skip
   refine box_step ?hg (N := 10) ?hd (cs := #[.int .i64 0, .int .i64 0, .int .i64 0, .int .i64 0]) (t := 24) ?hr ?_; (case hd => rfl); (case hg => rfl); (case hr => first | (go_simp; done) | (go_simp; rfl))
   intro g6 hg w9 hbox hb
   have K6 := am (hbox)
   have G9 := am (bs hg (YA HB))
   have G10 := am (bs hg (YA HB))
   obtain ⟨N21,N22⟩ := ne_ hg K1
   obtain ⟨N23,N24⟩ := ne_ hg K2
   obtain ⟨N25,N26⟩ := ne_ hg K3
   obtain ⟨N27,N28⟩ := ne_ hg K4
   obtain ⟨N29,N30⟩ := ne_ hg K5
   obtain ⟨K1, K2, K3, K4, K5, HB⟩ := bk5 K1 K2 K3 K4 K5 HB hb
   clear hb hbox hg
   refine kk hK ⟨bc K1 0, bc K1 1, bc K1 2, bc K1 3, bc K2 0, bc K2 1, bc K2 2, bc K2 3⟩ fun hHeld => ?_
   clear hK K
   exact norm_ nz (hJ2_9_10 (g5, g6) _ ⟨hHeld, (Z K1), (Z K2), (Z K3), (Z K4), (Z K5), (Z K6), G7.out, G8.out, N13.out, N14.out, N15.out, N16.out, N17.out, N18.out, N19.out, N20.out, N30.out, N29.out, G9.out, G10.out, N21.out, N22.out, N23.out, N24.out, N25.out, N26.out, N27.out, N28.out, (YA HB)⟩)
  intro hJ2_9
  refine join_ (σ := Nat) 8 (lb 13 1039) (fun s_ => [(23, .agg #[.int .i64 t19, .int .i64 t20, .int .i64 t21, .int .i64 t22]), (10, .pointer (some ⟨s_, 0, none⟩))]) (fun s_ w' => (w'.cell? ⟨g1, 0, none⟩ = some (.int .i64 a1_0) ∧ w'.cell? ⟨g1, 1, none⟩ = some (.int .i64 a1_1) ∧ w'.cell? ⟨g1, 2, none⟩ = some (.int .i64 a1_2) ∧ w'.cell? ⟨g1, 3, none⟩ = some (.int .i64 a1_3) ∧ w'.cell? ⟨g2, 0, none⟩ = some (.int .i64 a2_0) ∧ w'.cell? ⟨g2, 1, none⟩ = some (.int .i64 a2_1) ∧ w'.cell? ⟨g2, 2, none⟩ = some (.int .i64 a2_2) ∧ w'.cell? ⟨g2, 3, none⟩ = some (.int .i64 a2_3)) ∧ (w'.heap[g1]? = some (.cells #[.int .i64 a1_0, .int .i64 a1_1, .int .i64 a1_2, .int .i64 a1_3] 23 (0, 0))) ∧ (w'.heap[g2]? = some (.cells #[.int .i64 a2_0, .int .i64 a2_1, .int .i64 a2_2, .int .i64 a2_3] 23 (0, 0))) ∧ (w'.heap[g3]? = some (.cells #[.int .i64 t11, .int .i64 t12, .int .i64 t13, .int .i64 t14] 24 (0, 0))) ∧ (w'.heap[g4]? = some (.cells #[.int .i64 t15, .int .i64 t16, .int .i64 t17, .int .i64 t18] 24 (0, 0))) ∧ (w'.heap[s_]? = some (.cells #[.int .i64 0, .int .i64 0, .int .i64 0, .int .i64 0] 24 (0, 0))) ∧ (w.heap.size ≤ s_) ∧ (w.heap.size ≤ s_) ∧ (g1 ≠ s_) ∧ (s_ ≠ g1) ∧ (g2 ≠ s_) ∧ (s_ ≠ g2) ∧ (g3 ≠ s_) ∧ (s_ ≠ g3) ∧ (g4 ≠ s_) ∧ (s_ ≠ g4) ∧ (Below w.heap.size w w')) ?_ ?_
  rotate_left
  rotate_left
  ·skip
   rintro g5 w8 ⟨hS_, h0_, h1_, h2_, h3_, h4_, h5_, h6_, h7_, h8_, h9_, h10_, h11_, h12_, h13_, h14_, h15_⟩
   have K5 : Bx4 w8 g5 0 0 0 0 24 := ⟨h4_⟩
   have G7 : Aside0 (w.heap.size ≤ g5) := ⟨h5_⟩
   have G8 : Aside0 (w.heap.size ≤ g5) := ⟨h6_⟩
   have N13 : Aside0 (g1 ≠ g5) := ⟨h7_⟩
   have N14 : Aside0 (g5 ≠ g1) := ⟨h8_⟩
   have N15 : Aside0 (g2 ≠ g5) := ⟨h9_⟩
   have N16 : Aside0 (g5 ≠ g2) := ⟨h10_⟩
   have N17 : Aside0 (g3 ≠ g5) := ⟨h11_⟩
   have N18 : Aside0 (g5 ≠ g3) := ⟨h12_⟩
   have N19 : Aside0 (g4 ≠ g5) := ⟨h13_⟩
   have N20 : Aside0 (g5 ≠ g4) := ⟨h14_⟩
   replace K1 : Bx4 w8 g1 a1_0 a1_1 a1_2 a1_3 23 := ⟨h0_⟩
   replace K2 : Bx4 w8 g2 a2_0 a2_1 a2_2 a2_3 23 := ⟨h1_⟩
   replace K3 : Bx4 w8 g3 t11 t12 t13 t14 24 := ⟨h2_⟩
   replace K4 : Bx4 w8 g4 t15 t16 t17 t18 24 := ⟨h3_⟩
   replace HB : Aside0 (Below w.heap.size w w8) := ⟨h15_⟩
   clear h0_ h1_ h2_ h3_ h4_ h5_ h6_ h7_ h8_ h9_ h10_ h11_ h12_ h13_ h14_ h15_
   have hHeld : w8.cell? ⟨g1, 0, none⟩ = some (.int .i64 a1_0) ∧ w8.cell? ⟨g1, 1, none⟩ = some (.int .i64 a1_1) ∧ w8.cell? ⟨g1, 2, none⟩ = some (.int .i64 a1_2) ∧ w8.cell? ⟨g1, 3, none⟩ = some (.int .i64 a1_3) ∧ w8.cell? ⟨g2, 0, none⟩ = some (.int .i64 a2_0) ∧ w8.cell? ⟨g2, 1, none⟩ = some (.int .i64 a2_1) ∧ w8.cell? ⟨g2, 2, none⟩ = some (.int .i64 a2_2) ∧ w8.cell? ⟨g2, 3, none⟩ = some (.int .i64 a2_3) := hS_
   refine norm_ (a' := ?_) ?_ ?_
   rotate_left
   ·simp only [putAll, Act.put, List.setIfInBounds_toArray, List.set_cons_zero, List.set_cons_succ]
    rfl
   refine two_ (i := 4) (j := 9) (Ni := some 25) (Nj := some 9) (lb 13 1055) (lb 13 1551) rfl rfl rfl rfl (two_of HT_.out (by kernel_rfl)) (by decide) (by decide) (fun K hK => ?_) (fun K hK => ?_)
   ·skip
    refine ck5 hK Try.func5 (laws_toVal.calls _ _ _ _ _ _ _ _ _ A5.out) K1 K2 K3 K4 K5 HB fun w9 K1 K2 K3 K4 K5 HB hHeld => ?_
    clear hK K
    exact norm_ nz (hJ2_4_10 (g5) _ ⟨hHeld, (Z K1), (Z K2), (Z K3), (Z K4), (Z K5), G7.out, G8.out, N13.out, N14.out, N15.out, N16.out, N17.out, N18.out, N19.out, N20.out, (YA HB)⟩)
   skip
   refine box_step ?hg (N := 9) ?hd (cs := #[.int .i64 0, .int .i64 0, .int .i64 0, .int .i64 0]) (t := 24) ?hr ?_; (case hd => rfl); (case hg => rfl); (case hr => first | (go_simp; done) | (go_simp; rfl))
   intro g6 hg w9 hbox hb
   have K6 := am (hbox)
   have G9 := am (bs hg (YA HB))
   have G10 := am (bs hg (YA HB))
   obtain ⟨N21,N22⟩ := ne_ hg K1
   obtain ⟨N23,N24⟩ := ne_ hg K2
   obtain ⟨N25,N26⟩ := ne_ hg K3
   obtain ⟨N27,N28⟩ := ne_ hg K4
   obtain ⟨N29,N30⟩ := ne_ hg K5
   obtain ⟨K1, K2, K3, K4, K5, HB⟩ := bk5 K1 K2 K3 K4 K5 HB hb
   clear hb hbox hg
   refine kk hK ⟨bc K1 0, bc K1 1, bc K1 2, bc K1 3, bc K2 0, bc K2 1, bc K2 2, bc K2 3⟩ fun hHeld => ?_
   clear hK K
   exact norm_ nz (hJ2_9_10 (g6, g5) _ ⟨hHeld, (Z K1), (Z K2), (Z K3), (Z K4), (Z K6), (Z K5), G9.out, G10.out, N21.out, N22.out, N23.out, N24.out, N25.out, N26.out, N27.out, N28.out, N29.out, N30.out, G7.out, G8.out, N13.out, N14.out, N15.out, N16.out, N17.out, N18.out, N19.out, N20.out, (YA HB)⟩)
  intro hJ2_10
  refine join_ (σ := Nat × Nat) 8 (lb 13 1547) (fun s_ => [(9, .pointer (some ⟨s_.1, 0, none⟩)), (10, .pointer (some ⟨s_.2, 0, none⟩))]) (fun s_ w' => (w'.cell? ⟨g1, 0, none⟩ = some (.int .i64 a1_0) ∧ w'.cell? ⟨g1, 1, none⟩ = some (.int .i64 a1_1) ∧ w'.cell? ⟨g1, 2, none⟩ = some (.int .i64 a1_2) ∧ w'.cell? ⟨g1, 3, none⟩ = some (.int .i64 a1_3) ∧ w'.cell? ⟨g2, 0, none⟩ = some (.int .i64 a2_0) ∧ w'.cell? ⟨g2, 1, none⟩ = some (.int .i64 a2_1) ∧ w'.cell? ⟨g2, 2, none⟩ = some (.int .i64 a2_2) ∧ w'.cell? ⟨g2, 3, none⟩ = some (.int .i64 a2_3)) ∧ (w'.heap[g1]? = some (.cells #[.int .i64 a1_0, .int .i64 a1_1, .int .i64 a1_2, .int .i64 a1_3] 23 (0, 0))) ∧ (w'.heap[g2]? = some (.cells #[.int .i64 a2_0, .int .i64 a2_1, .int .i64 a2_2, .int .i64 a2_3] 23 (0, 0))) ∧ (w'.heap[g3]? = some (.cells #[.int .i64 t11, .int .i64 t12, .int .i64 t13, .int .i64 t14] 24 (0, 0))) ∧ (w'.heap[g4]? = some (.cells #[.int .i64 t15, .int .i64 t16, .int .i64 t17, .int .i64 t18] 24 (0, 0))) ∧ (w'.heap[s_.1]? = some (.cells #[.int .i64 0, .int .i64 0, .int .i64 0, .int .i64 0] 24 (0, 0))) ∧ (w'.heap[s_.2]? = some (.cells #[.int .i64 0, .int .i64 0, .int .i64 0, .int .i64 0] 24 (0, 0))) ∧ (w.heap.size ≤ s_.1) ∧ (w.heap.size ≤ s_.1) ∧ (g1 ≠ s_.1) ∧ (s_.1 ≠ g1) ∧ (g2 ≠ s_.1) ∧ (s_.1 ≠ g2) ∧ (g3 ≠ s_.1) ∧ (s_.1 ≠ g3) ∧ (g4 ≠ s_.1) ∧ (s_.1 ≠ g4) ∧ (s_.2 ≠ s_.1) ∧ (s_.1 ≠ s_.2) ∧ (w.heap.size ≤ s_.2) ∧ (w.heap.size ≤ s_.2) ∧ (g1 ≠ s_.2) ∧ (s_.2 ≠ g1) ∧ (g2 ≠ s_.2) ∧ (s_.2 ≠ g2) ∧ (g3 ≠ s_.2) ∧ (s_.2 ≠ g3) ∧ (g4 ≠ s_.2) ∧ (s_.2 ≠ g4) ∧ (Below w.heap.size w w')) ?_ ?_
  rotate_left
  rotate_left
  ·skip
   rintro ⟨g5, g6⟩ w8 ⟨hS_, h0_, h1_, h2_, h3_, h4_, h5_, h6_, h7_, h8_, h9_, h10_, h11_, h12_, h13_, h14_, h15_, h16_, h17_, h18_, h19_, h20_, h21_, h22_, h23_, h24_, h25_, h26_, h27_, h28_⟩
   have K5 : Bx4 w8 g5 0 0 0 0 24 := ⟨h4_⟩
   have K6 : Bx4 w8 g6 0 0 0 0 24 := ⟨h5_⟩
   have G7 : Aside0 (w.heap.size ≤ g5) := ⟨h6_⟩
   have G8 : Aside0 (w.heap.size ≤ g5) := ⟨h7_⟩
   have N13 : Aside0 (g1 ≠ g5) := ⟨h8_⟩
   have N14 : Aside0 (g5 ≠ g1) := ⟨h9_⟩
   have N15 : Aside0 (g2 ≠ g5) := ⟨h10_⟩
   have N16 : Aside0 (g5 ≠ g2) := ⟨h11_⟩
   have N17 : Aside0 (g3 ≠ g5) := ⟨h12_⟩
   have N18 : Aside0 (g5 ≠ g3) := ⟨h13_⟩
   have N19 : Aside0 (g4 ≠ g5) := ⟨h14_⟩
   have N20 : Aside0 (g5 ≠ g4) := ⟨h15_⟩
   have N21 : Aside0 (g6 ≠ g5) := ⟨h16_⟩
   have N22 : Aside0 (g5 ≠ g6) := ⟨h17_⟩
   have G9 : Aside0 (w.heap.size ≤ g6) := ⟨h18_⟩
   have G10 : Aside0 (w.heap.size ≤ g6) := ⟨h19_⟩
   have N23 : Aside0 (g1 ≠ g6) := ⟨h20_⟩
   have N24 : Aside0 (g6 ≠ g1) := ⟨h21_⟩
   have N25 : Aside0 (g2 ≠ g6) := ⟨h22_⟩
   have N26 : Aside0 (g6 ≠ g2) := ⟨h23_⟩
   have N27 : Aside0 (g3 ≠ g6) := ⟨h24_⟩
   have N28 : Aside0 (g6 ≠ g3) := ⟨h25_⟩
   have N29 : Aside0 (g4 ≠ g6) := ⟨h26_⟩
   have N30 : Aside0 (g6 ≠ g4) := ⟨h27_⟩
   replace K1 : Bx4 w8 g1 a1_0 a1_1 a1_2 a1_3 23 := ⟨h0_⟩
   replace K2 : Bx4 w8 g2 a2_0 a2_1 a2_2 a2_3 23 := ⟨h1_⟩
   replace K3 : Bx4 w8 g3 t11 t12 t13 t14 24 := ⟨h2_⟩
   replace K4 : Bx4 w8 g4 t15 t16 t17 t18 24 := ⟨h3_⟩
   replace HB : Aside0 (Below w.heap.size w w8) := ⟨h28_⟩
   clear h0_ h1_ h2_ h3_ h4_ h5_ h6_ h7_ h8_ h9_ h10_ h11_ h12_ h13_ h14_ h15_ h16_ h17_ h18_ h19_ h20_ h21_ h22_ h23_ h24_ h25_ h26_ h27_ h28_
   have hHeld : w8.cell? ⟨g1, 0, none⟩ = some (.int .i64 a1_0) ∧ w8.cell? ⟨g1, 1, none⟩ = some (.int .i64 a1_1) ∧ w8.cell? ⟨g1, 2, none⟩ = some (.int .i64 a1_2) ∧ w8.cell? ⟨g1, 3, none⟩ = some (.int .i64 a1_3) ∧ w8.cell? ⟨g2, 0, none⟩ = some (.int .i64 a2_0) ∧ w8.cell? ⟨g2, 1, none⟩ = some (.int .i64 a2_1) ∧ w8.cell? ⟨g2, 2, none⟩ = some (.int .i64 a2_2) ∧ w8.cell? ⟨g2, 3, none⟩ = some (.int .i64 a2_3) := hS_
   refine norm_ (a' := ?_) ?_ ?_
   rotate_left
   ·simp only [putAll, Act.put, List.setIfInBounds_toArray, List.set_cons_zero, List.set_cons_succ]
    rfl
   refine cl6 2 23 1551 Try.func5 (laws_toVal.calls _ _ _ _ _ _ _ _ _ A4.out) K1 K2 K3 K4 K5 K6 HB fun w9 K1 K2 K3 K4 K5 K6 HB hHeld => ?_
   exact norm_ nz (hJ2_9_10 (g5, g6) _ ⟨hHeld, (Z K1), (Z K2), (Z K3), (Z K4), (Z K5), (Z K6), G7.out, G8.out, N13.out, N14.out, N15.out, N16.out, N17.out, N18.out, N19.out, N20.out, N21.out, N22.out, G9.out, G10.out, N23.out, N24.out, N25.out, N26.out, N27.out, N28.out, N29.out, N30.out, (YA HB)⟩)
  intro hJ9_10
  refine join_ (σ := Unit) 9 (lb 13 15) (fun s_ => [(23, .agg #[.int .i64 t19, .int .i64 t20, .int .i64 t21, .int .i64 t22])]) (fun s_ w' => (w'.cell? ⟨g1, 0, none⟩ = some (.int .i64 a1_0) ∧ w'.cell? ⟨g1, 1, none⟩ = some (.int .i64 a1_1) ∧ w'.cell? ⟨g1, 2, none⟩ = some (.int .i64 a1_2) ∧ w'.cell? ⟨g1, 3, none⟩ = some (.int .i64 a1_3) ∧ w'.cell? ⟨g2, 0, none⟩ = some (.int .i64 a2_0) ∧ w'.cell? ⟨g2, 1, none⟩ = some (.int .i64 a2_1) ∧ w'.cell? ⟨g2, 2, none⟩ = some (.int .i64 a2_2) ∧ w'.cell? ⟨g2, 3, none⟩ = some (.int .i64 a2_3)) ∧ (w'.heap[g1]? = some (.cells #[.int .i64 a1_0, .int .i64 a1_1, .int .i64 a1_2, .int .i64 a1_3] 23 (0, 0))) ∧ (w'.heap[g2]? = some (.cells #[.int .i64 a2_0, .int .i64 a2_1, .int .i64 a2_2, .int .i64 a2_3] 23 (0, 0))) ∧ (w'.heap[g3]? = some (.cells #[.int .i64 t11, .int .i64 t12, .int .i64 t13, .int .i64 t14] 24 (0, 0))) ∧ (w'.heap[g4]? = some (.cells #[.int .i64 t15, .int .i64 t16, .int .i64 t17, .int .i64 t18] 24 (0, 0))) ∧ (Below w.heap.size w w')) ?_ ?_
  rotate_left
  rotate_left
  ·skip
   rintro _ w8 ⟨hS_, h0_, h1_, h2_, h3_, h4_⟩
   replace K1 : Bx4 w8 g1 a1_0 a1_1 a1_2 a1_3 23 := ⟨h0_⟩
   replace K2 : Bx4 w8 g2 a2_0 a2_1 a2_2 a2_3 23 := ⟨h1_⟩
   replace K3 : Bx4 w8 g3 t11 t12 t13 t14 24 := ⟨h2_⟩
   replace K4 : Bx4 w8 g4 t15 t16 t17 t18 24 := ⟨h3_⟩
   replace HB : Aside0 (Below w.heap.size w w8) := ⟨h4_⟩
   clear h0_ h1_ h2_ h3_ h4_
   have hHeld : w8.cell? ⟨g1, 0, none⟩ = some (.int .i64 a1_0) ∧ w8.cell? ⟨g1, 1, none⟩ = some (.int .i64 a1_1) ∧ w8.cell? ⟨g1, 2, none⟩ = some (.int .i64 a1_2) ∧ w8.cell? ⟨g1, 3, none⟩ = some (.int .i64 a1_3) ∧ w8.cell? ⟨g2, 0, none⟩ = some (.int .i64 a2_0) ∧ w8.cell? ⟨g2, 1, none⟩ = some (.int .i64 a2_1) ∧ w8.cell? ⟨g2, 2, none⟩ = some (.int .i64 a2_2) ∧ w8.cell? ⟨g2, 3, none⟩ = some (.int .i64 a2_3) := hS_
   refine norm_ (a' := ?_) ?_ ?_
   rotate_left
   ·simp only [putAll, Act.put, List.setIfInBounds_toArray, List.set_cons_zero, List.set_cons_succ]
    rfl
   refine three_ (i := 4) (j := 9) (k := 10) (Ni := some 25) (Nj := some 9) (Nk := some 10) (lb 13 31) (lb 13 527) (lb 13 1039) rfl rfl rfl rfl rfl rfl (three_of HT_.out (by kernel_rfl)) (by decide) (by decide) (by decide) (fun K hK => ?_) (fun K hK => ?_) (fun K hK => ?_)
   ·skip
    refine ck4 hK Try.func5 (laws_toVal.calls _ _ _ _ _ _ _ _ _ A5.out) K1 K2 K3 K4 HB fun w9 K1 K2 K3 K4 HB hHeld => ?_
    clear hK K
    exact norm_ nz (hJ2_4 () _ ⟨hHeld, (Z K1), (Z K2), (Z K3), (Z K4), (YA HB)⟩)
   ·skip
    refine box_step ?hg (N := 9) ?hd (cs := #[.int .i64 0, .int .i64 0, .int .i64 0, .int .i64 0]) (t := 24) ?hr ?_; (case hd => rfl); (case hg => rfl); (case hr => first | (go_simp; done) | (go_simp; rfl))
    intro g5 hg w9 hbox hb
    have K5 := am (hbox)
    have G7 := am (bs hg (YA HB))
    have G8 := am (bs hg (YA HB))
    obtain ⟨N13,N14⟩ := ne_ hg K1
    obtain ⟨N15,N16⟩ := ne_ hg K2
    obtain ⟨N17,N18⟩ := ne_ hg K3
    obtain ⟨N19,N20⟩ := ne_ hg K4
    obtain ⟨K1, K2, K3, K4, HB⟩ := bk4 K1 K2 K3 K4 HB hb
    clear hb hbox hg
    refine kk hK ⟨bc K1 0, bc K1 1, bc K1 2, bc K1 3, bc K2 0, bc K2 1, bc K2 2, bc K2 3⟩ fun hHeld => ?_
    clear hK K
    exact norm_ nz (hJ2_9 (g5) _ ⟨hHeld, (Z K1), (Z K2), (Z K3), (Z K4), (Z K5), G7.out, G8.out, N13.out, N14.out, N15.out, N16.out, N17.out, N18.out, N19.out, N20.out, (YA HB)⟩)
   skip
   refine box_step ?hg (N := 10) ?hd (cs := #[.int .i64 0, .int .i64 0, .int .i64 0, .int .i64 0]) (t := 24) ?hr ?_; (case hd => rfl); (case hg => rfl); (case hr => first | (go_simp; done) | (go_simp; rfl))
   intro g5 hg w9 hbox hb
   have K5 := am (hbox)
   have G7 := am (bs hg (YA HB))
   have G8 := am (bs hg (YA HB))
   obtain ⟨N13,N14⟩ := ne_ hg K1
   obtain ⟨N15,N16⟩ := ne_ hg K2
   obtain ⟨N17,N18⟩ := ne_ hg K3
   obtain ⟨N19,N20⟩ := ne_ hg K4
   obtain ⟨K1, K2, K3, K4, HB⟩ := bk4 K1 K2 K3 K4 HB hb
   clear hb hbox hg
   refine kk hK ⟨bc K1 0, bc K1 1, bc K1 2, bc K1 3, bc K2 0, bc K2 1, bc K2 2, bc K2 3⟩ fun hHeld => ?_
   clear hK K
   exact norm_ nz (hJ2_10 (g5) _ ⟨hHeld, (Z K1), (Z K2), (Z K3), (Z K4), (Z K5), G7.out, G8.out, N13.out, N14.out, N15.out, N16.out, N17.out, N18.out, N19.out, N20.out, (YA HB)⟩)
  intro hJ2
  refine join_ (σ := Nat) 9 (lb 13 523) (fun s_ => [(9, .pointer (some ⟨s_, 0, none⟩))]) (fun s_ w' => (w'.cell? ⟨g1, 0, none⟩ = some (.int .i64 a1_0) ∧ w'.cell? ⟨g1, 1, none⟩ = some (.int .i64 a1_1) ∧ w'.cell? ⟨g1, 2, none⟩ = some (.int .i64 a1_2) ∧ w'.cell? ⟨g1, 3, none⟩ = some (.int .i64 a1_3) ∧ w'.cell? ⟨g2, 0, none⟩ = some (.int .i64 a2_0) ∧ w'.cell? ⟨g2, 1, none⟩ = some (.int .i64 a2_1) ∧ w'.cell? ⟨g2, 2, none⟩ = some (.int .i64 a2_2) ∧ w'.cell? ⟨g2, 3, none⟩ = some (.int .i64 a2_3)) ∧ (w'.heap[g1]? = some (.cells #[.int .i64 a1_0, .int .i64 a1_1, .int .i64 a1_2, .int .i64 a1_3] 23 (0, 0))) ∧ (w'.heap[g2]? = some (.cells #[.int .i64 a2_0, .int .i64 a2_1, .int .i64 a2_2, .int .i64 a2_3] 23 (0, 0))) ∧ (w'.heap[g3]? = some (.cells #[.int .i64 t11, .int .i64 t12, .int .i64 t13, .int .i64 t14] 24 (0, 0))) ∧ (w'.heap[g4]? = some (.cells #[.int .i64 t15, .int .i64 t16, .int .i64 t17, .int .i64 t18] 24 (0, 0))) ∧ (w'.heap[s_]? = some (.cells #[.int .i64 0, .int .i64 0, .int .i64 0, .int .i64 0] 24 (0, 0))) ∧ (w.heap.size ≤ s_) ∧ (w.heap.size ≤ s_) ∧ (g1 ≠ s_) ∧ (s_ ≠ g1) ∧ (g2 ≠ s_) ∧ (s_ ≠ g2) ∧ (g3 ≠ s_) ∧ (s_ ≠ g3) ∧ (g4 ≠ s_) ∧ (s_ ≠ g4) ∧ (Below w.heap.size w w')) ?_ ?_
  rotate_left
  rotate_left
  ·skip
   rintro g5 w8 ⟨hS_, h0_, h1_, h2_, h3_, h4_, h5_, h6_, h7_, h8_, h9_, h10_, h11_, h12_, h13_, h14_, h15_⟩
   have K5 : Bx4 w8 g5 0 0 0 0 24 := ⟨h4_⟩
   have G7 : Aside0 (w.heap.size ≤ g5) := ⟨h5_⟩
   have G8 : Aside0 (w.heap.size ≤ g5) := ⟨h6_⟩
   have N13 : Aside0 (g1 ≠ g5) := ⟨h7_⟩
   have N14 : Aside0 (g5 ≠ g1) := ⟨h8_⟩
   have N15 : Aside0 (g2 ≠ g5) := ⟨h9_⟩
   have N16 : Aside0 (g5 ≠ g2) := ⟨h10_⟩
   have N17 : Aside0 (g3 ≠ g5) := ⟨h11_⟩
   have N18 : Aside0 (g5 ≠ g3) := ⟨h12_⟩
   have N19 : Aside0 (g4 ≠ g5) := ⟨h13_⟩
   have N20 : Aside0 (g5 ≠ g4) := ⟨h14_⟩
   replace K1 : Bx4 w8 g1 a1_0 a1_1 a1_2 a1_3 23 := ⟨h0_⟩
   replace K2 : Bx4 w8 g2 a2_0 a2_1 a2_2 a2_3 23 := ⟨h1_⟩
   replace K3 : Bx4 w8 g3 t11 t12 t13 t14 24 := ⟨h2_⟩
   replace K4 : Bx4 w8 g4 t15 t16 t17 t18 24 := ⟨h3_⟩
   replace HB : Aside0 (Below w.heap.size w w8) := ⟨h15_⟩
   clear h0_ h1_ h2_ h3_ h4_ h5_ h6_ h7_ h8_ h9_ h10_ h11_ h12_ h13_ h14_ h15_
   have hHeld : w8.cell? ⟨g1, 0, none⟩ = some (.int .i64 a1_0) ∧ w8.cell? ⟨g1, 1, none⟩ = some (.int .i64 a1_1) ∧ w8.cell? ⟨g1, 2, none⟩ = some (.int .i64 a1_2) ∧ w8.cell? ⟨g1, 3, none⟩ = some (.int .i64 a1_3) ∧ w8.cell? ⟨g2, 0, none⟩ = some (.int .i64 a2_0) ∧ w8.cell? ⟨g2, 1, none⟩ = some (.int .i64 a2_1) ∧ w8.cell? ⟨g2, 2, none⟩ = some (.int .i64 a2_2) ∧ w8.cell? ⟨g2, 3, none⟩ = some (.int .i64 a2_3) := hS_
   refine norm_ (a' := ?_) ?_ ?_
   rotate_left
   ·simp only [putAll, Act.put, List.setIfInBounds_toArray, List.set_cons_zero, List.set_cons_succ]
    rfl
   refine two_ (i := 2) (j := 10) (Ni := some 23) (Nj := some 10) (lb 13 527) (lb 13 1547) rfl rfl rfl rfl (two_of HT_.out (by kernel_rfl)) (by decide) (by decide) (fun K hK => ?_) (fun K hK => ?_)
   ·skip
    refine ck5 hK Try.func5 (laws_toVal.calls _ _ _ _ _ _ _ _ _ A4.out) K1 K2 K3 K4 K5 HB fun w9 K1 K2 K3 K4 K5 HB hHeld => ?_
    clear hK K
    exact norm_ nz (hJ2_9 (g5) _ ⟨hHeld, (Z K1), (Z K2), (Z K3), (Z K4), (Z K5), G7.out, G8.out, N13.out, N14.out, N15.out, N16.out, N17.out, N18.out, N19.out, N20.out, (YA HB)⟩)
   skip
   refine box_step ?hg (N := 10) ?hd (cs := #[.int .i64 0, .int .i64 0, .int .i64 0, .int .i64 0]) (t := 24) ?hr ?_; (case hd => rfl); (case hg => rfl); (case hr => first | (go_simp; done) | (go_simp; rfl))
   intro g6 hg w9 hbox hb
   have K6 := am (hbox)
   have G9 := am (bs hg (YA HB))
   have G10 := am (bs hg (YA HB))
   obtain ⟨N21,N22⟩ := ne_ hg K1
   obtain ⟨N23,N24⟩ := ne_ hg K2
   obtain ⟨N25,N26⟩ := ne_ hg K3
   obtain ⟨N27,N28⟩ := ne_ hg K4
   obtain ⟨N29,N30⟩ := ne_ hg K5
   obtain ⟨K1, K2, K3, K4, K5, HB⟩ := bk5 K1 K2 K3 K4 K5 HB hb
   clear hb hbox hg
   refine kk hK ⟨bc K1 0, bc K1 1, bc K1 2, bc K1 3, bc K2 0, bc K2 1, bc K2 2, bc K2 3⟩ fun hHeld => ?_
   clear hK K
   exact norm_ nz (hJ9_10 (g5, g6) _ ⟨hHeld, (Z K1), (Z K2), (Z K3), (Z K4), (Z K5), (Z K6), G7.out, G8.out, N13.out, N14.out, N15.out, N16.out, N17.out, N18.out, N19.out, N20.out, N30.out, N29.out, G9.out, G10.out, N21.out, N22.out, N23.out, N24.out, N25.out, N26.out, N27.out, N28.out, (YA HB)⟩)
  intro hJ9
  refine join_ (σ := Nat) 9 (lb 13 1035) (fun s_ => [(10, .pointer (some ⟨s_, 0, none⟩))]) (fun s_ w' => (w'.cell? ⟨g1, 0, none⟩ = some (.int .i64 a1_0) ∧ w'.cell? ⟨g1, 1, none⟩ = some (.int .i64 a1_1) ∧ w'.cell? ⟨g1, 2, none⟩ = some (.int .i64 a1_2) ∧ w'.cell? ⟨g1, 3, none⟩ = some (.int .i64 a1_3) ∧ w'.cell? ⟨g2, 0, none⟩ = some (.int .i64 a2_0) ∧ w'.cell? ⟨g2, 1, none⟩ = some (.int .i64 a2_1) ∧ w'.cell? ⟨g2, 2, none⟩ = some (.int .i64 a2_2) ∧ w'.cell? ⟨g2, 3, none⟩ = some (.int .i64 a2_3)) ∧ (w'.heap[g1]? = some (.cells #[.int .i64 a1_0, .int .i64 a1_1, .int .i64 a1_2, .int .i64 a1_3] 23 (0, 0))) ∧ (w'.heap[g2]? = some (.cells #[.int .i64 a2_0, .int .i64 a2_1, .int .i64 a2_2, .int .i64 a2_3] 23 (0, 0))) ∧ (w'.heap[g3]? = some (.cells #[.int .i64 t11, .int .i64 t12, .int .i64 t13, .int .i64 t14] 24 (0, 0))) ∧ (w'.heap[g4]? = some (.cells #[.int .i64 t15, .int .i64 t16, .int .i64 t17, .int .i64 t18] 24 (0, 0))) ∧ (w'.heap[s_]? = some (.cells #[.int .i64 0, .int .i64 0, .int .i64 0, .int .i64 0] 24 (0, 0))) ∧ (w.heap.size ≤ s_) ∧ (w.heap.size ≤ s_) ∧ (g1 ≠ s_) ∧ (s_ ≠ g1) ∧ (g2 ≠ s_) ∧ (s_ ≠ g2) ∧ (g3 ≠ s_) ∧ (s_ ≠ g3) ∧ (g4 ≠ s_) ∧ (s_ ≠ g4) ∧ (Below w.heap.size w w')) ?_ ?_
  rotate_left
  ·intro hJ10
   refine three_ (i := 2) (j := 9) (k := 10) (Ni := some 23) (Nj := some 9) (Nk := some 10) (lb 13 15) (lb 13 523) (lb 13 1035) rfl rfl rfl rfl rfl rfl (three_of HT_.out (by kernel_rfl)) (by decide) (by decide) (by decide) (fun K hK => ?_) (fun K hK => ?_) (fun K hK => ?_)
   ·skip
    refine ck4 hK Try.func5 (laws_toVal.calls _ _ _ _ _ _ _ _ _ A4.out) K1 K2 K3 K4 HB fun w8 K1 K2 K3 K4 HB hHeld => ?_
    clear hK K
    exact norm_ nz (hJ2 () _ ⟨hHeld, (Z K1), (Z K2), (Z K3), (Z K4), (YA HB)⟩)
   ·skip
    refine box_step ?hg (N := 9) ?hd (cs := #[.int .i64 0, .int .i64 0, .int .i64 0, .int .i64 0]) (t := 24) ?hr ?_; (case hd => rfl); (case hg => rfl); (case hr => first | (go_simp; done) | (go_simp; rfl))
    intro g5 hg w8 hbox hb
    have K5 := am (hbox)
    have G7 := am (bs hg (YA HB))
    have G8 := am (bs hg (YA HB))
    obtain ⟨N13,N14⟩ := ne_ hg K1
    obtain ⟨N15,N16⟩ := ne_ hg K2
    obtain ⟨N17,N18⟩ := ne_ hg K3
    obtain ⟨N19,N20⟩ := ne_ hg K4
    obtain ⟨K1, K2, K3, K4, HB⟩ := bk4 K1 K2 K3 K4 HB hb
    clear hb hbox hg
    refine kk hK ⟨bc K1 0, bc K1 1, bc K1 2, bc K1 3, bc K2 0, bc K2 1, bc K2 2, bc K2 3⟩ fun hHeld => ?_
    clear hK K
    exact norm_ nz (hJ9 (g5) _ ⟨hHeld, (Z K1), (Z K2), (Z K3), (Z K4), (Z K5), G7.out, G8.out, N13.out, N14.out, N15.out, N16.out, N17.out, N18.out, N19.out, N20.out, (YA HB)⟩)
   skip
   refine box_step ?hg (N := 10) ?hd (cs := #[.int .i64 0, .int .i64 0, .int .i64 0, .int .i64 0]) (t := 24) ?hr ?_; (case hd => rfl); (case hg => rfl); (case hr => first | (go_simp; done) | (go_simp; rfl))
   intro g5 hg w8 hbox hb
   have K5 := am (hbox)
   have G7 := am (bs hg (YA HB))
   have G8 := am (bs hg (YA HB))
   obtain ⟨N13,N14⟩ := ne_ hg K1
   obtain ⟨N15,N16⟩ := ne_ hg K2
   obtain ⟨N17,N18⟩ := ne_ hg K3
   obtain ⟨N19,N20⟩ := ne_ hg K4
   obtain ⟨K1, K2, K3, K4, HB⟩ := bk4 K1 K2 K3 K4 HB hb
   clear hb hbox hg
   refine kk hK ⟨bc K1 0, bc K1 1, bc K1 2, bc K1 3, bc K2 0, bc K2 1, bc K2 2, bc K2 3⟩ fun hHeld => ?_
   clear hK K
   exact norm_ nz (hJ10 (g5) _ ⟨hHeld, (Z K1), (Z K2), (Z K3), (Z K4), (Z K5), G7.out, G8.out, N13.out, N14.out, N15.out, N16.out, N17.out, N18.out, N19.out, N20.out, (YA HB)⟩)
  skip
  rintro g5 w8 ⟨hS_, h0_, h1_, h2_, h3_, h4_, h5_, h6_, h7_, h8_, h9_, h10_, h11_, h12_, h13_, h14_, h15_⟩
  have K5 : Bx4 w8 g5 0 0 0 0 24 := ⟨h4_⟩
  have G7 : Aside0 (w.heap.size ≤ g5) := ⟨h5_⟩
  have G8 : Aside0 (w.heap.size ≤ g5) := ⟨h6_⟩
  have N13 : Aside0 (g1 ≠ g5) := ⟨h7_⟩
  have N14 : Aside0 (g5 ≠ g1) := ⟨h8_⟩
  have N15 : Aside0 (g2 ≠ g5) := ⟨h9_⟩
  have N16 : Aside0 (g5 ≠ g2) := ⟨h10_⟩
  have N17 : Aside0 (g3 ≠ g5) := ⟨h11_⟩
  have N18 : Aside0 (g5 ≠ g3) := ⟨h12_⟩
  have N19 : Aside0 (g4 ≠ g5) := ⟨h13_⟩
  have N20 : Aside0 (g5 ≠ g4) := ⟨h14_⟩
  replace K1 : Bx4 w8 g1 a1_0 a1_1 a1_2 a1_3 23 := ⟨h0_⟩
  replace K2 : Bx4 w8 g2 a2_0 a2_1 a2_2 a2_3 23 := ⟨h1_⟩
  replace K3 : Bx4 w8 g3 t11 t12 t13 t14 24 := ⟨h2_⟩
  replace K4 : Bx4 w8 g4 t15 t16 t17 t18 24 := ⟨h3_⟩
  replace HB : Aside0 (Below w.heap.size w w8) := ⟨h15_⟩
  clear h0_ h1_ h2_ h3_ h4_ h5_ h6_ h7_ h8_ h9_ h10_ h11_ h12_ h13_ h14_ h15_
  have hHeld : w8.cell? ⟨g1, 0, none⟩ = some (.int .i64 a1_0) ∧ w8.cell? ⟨g1, 1, none⟩ = some (.int .i64 a1_1) ∧ w8.cell? ⟨g1, 2, none⟩ = some (.int .i64 a1_2) ∧ w8.cell? ⟨g1, 3, none⟩ = some (.int .i64 a1_3) ∧ w8.cell? ⟨g2, 0, none⟩ = some (.int .i64 a2_0) ∧ w8.cell? ⟨g2, 1, none⟩ = some (.int .i64 a2_1) ∧ w8.cell? ⟨g2, 2, none⟩ = some (.int .i64 a2_2) ∧ w8.cell? ⟨g2, 3, none⟩ = some (.int .i64 a2_3) := hS_
  refine norm_ (a' := ?_) ?_ ?_
  rotate_left
  ·simp only [putAll, Act.put, List.setIfInBounds_toArray, List.set_cons_zero, List.set_cons_succ]
   rfl
  refine two_ (i := 2) (j := 9) (Ni := some 23) (Nj := some 9) (lb 13 1039) (lb 13 1547) rfl rfl rfl rfl (two_of HT_.out (by kernel_rfl)) (by decide) (by decide) (fun K hK => ?_) (fun K hK => ?_)
  ·skip
   refine ck5 hK Try.func5 (laws_toVal.calls _ _ _ _ _ _ _ _ _ A4.out) K1 K2 K3 K4 K5 HB fun w9 K1 K2 K3 K4 K5 HB hHeld => ?_
   clear hK K
   exact norm_ nz (hJ2_10 (g5) _ ⟨hHeld, (Z K1), (Z K2), (Z K3), (Z K4), (Z K5), G7.out, G8.out, N13.out, N14.out, N15.out, N16.out, N17.out, N18.out, N19.out, N20.out, (YA HB)⟩)
  skip
  refine box_step ?hg (N := 9) ?hd (cs := #[.int .i64 0, .int .i64 0, .int .i64 0, .int .i64 0]) (t := 24) ?hr ?_; (case hd => rfl); (case hg => rfl); (case hr => first | (go_simp; done) | (go_simp; rfl))
  intro g6 hg w9 hbox hb
  have K6 := am (hbox)
  have G9 := am (bs hg (YA HB))
  have G10 := am (bs hg (YA HB))
  obtain ⟨N21,N22⟩ := ne_ hg K1
  obtain ⟨N23,N24⟩ := ne_ hg K2
  obtain ⟨N25,N26⟩ := ne_ hg K3
  obtain ⟨N27,N28⟩ := ne_ hg K4
  obtain ⟨N29,N30⟩ := ne_ hg K5
  obtain ⟨K1, K2, K3, K4, K5, HB⟩ := bk5 K1 K2 K3 K4 K5 HB hb
  clear hb hbox hg
  refine kk hK ⟨bc K1 0, bc K1 1, bc K1 2, bc K1 3, bc K2 0, bc K2 1, bc K2 2, bc K2 3⟩ fun hHeld => ?_
  clear hK K
  exact norm_ nz (hJ9_10 (g6, g5) _ ⟨hHeld, (Z K1), (Z K2), (Z K3), (Z K4), (Z K6), (Z K5), G9.out, G10.out, N21.out, N22.out, N23.out, N24.out, N25.out, N26.out, N27.out, N28.out, N29.out, N30.out, G7.out, G8.out, N13.out, N14.out, N15.out, N16.out, N17.out, N18.out, N19.out, N20.out, (YA HB)⟩)
 rintro ⟨g5, g6⟩ w8 ⟨hS_, h0_, h1_, h2_, h3_, h4_, h5_, h6_, h7_, h8_, h9_, h10_, h11_, h12_, h13_, h14_, h15_, h16_, h17_, h18_, h19_, h20_, h21_, h22_, h23_, h24_, h25_, h26_, h27_, h28_⟩
 have K5 : Bx4 w8 g5 0 0 0 0 24 := ⟨h4_⟩
 have K6 : Bx4 w8 g6 0 0 0 0 24 := ⟨h5_⟩
 have G7 : Aside0 (w.heap.size ≤ g5) := ⟨h6_⟩
 have G8 : Aside0 (w.heap.size ≤ g5) := ⟨h7_⟩
 have N13 : Aside0 (g1 ≠ g5) := ⟨h8_⟩
 have N14 : Aside0 (g5 ≠ g1) := ⟨h9_⟩
 have N15 : Aside0 (g2 ≠ g5) := ⟨h10_⟩
 have N16 : Aside0 (g5 ≠ g2) := ⟨h11_⟩
 have N17 : Aside0 (g3 ≠ g5) := ⟨h12_⟩
 have N18 : Aside0 (g5 ≠ g3) := ⟨h13_⟩
 have N19 : Aside0 (g4 ≠ g5) := ⟨h14_⟩
 have N20 : Aside0 (g5 ≠ g4) := ⟨h15_⟩
 have N21 : Aside0 (g6 ≠ g5) := ⟨h16_⟩
 have N22 : Aside0 (g5 ≠ g6) := ⟨h17_⟩
 have G9 : Aside0 (w.heap.size ≤ g6) := ⟨h18_⟩
 have G10 : Aside0 (w.heap.size ≤ g6) := ⟨h19_⟩
 have N23 : Aside0 (g1 ≠ g6) := ⟨h20_⟩
 have N24 : Aside0 (g6 ≠ g1) := ⟨h21_⟩
 have N25 : Aside0 (g2 ≠ g6) := ⟨h22_⟩
 have N26 : Aside0 (g6 ≠ g2) := ⟨h23_⟩
 have N27 : Aside0 (g3 ≠ g6) := ⟨h24_⟩
 have N28 : Aside0 (g6 ≠ g3) := ⟨h25_⟩
 have N29 : Aside0 (g4 ≠ g6) := ⟨h26_⟩
 have N30 : Aside0 (g6 ≠ g4) := ⟨h27_⟩
 replace K1 : Bx4 w8 g1 a1_0 a1_1 a1_2 a1_3 23 := ⟨h0_⟩
 replace K2 : Bx4 w8 g2 a2_0 a2_1 a2_2 a2_3 23 := ⟨h1_⟩
 replace K3 : Bx4 w8 g3 t11 t12 t13 t14 24 := ⟨h2_⟩
 replace K4 : Bx4 w8 g4 t15 t16 t17 t18 24 := ⟨h3_⟩
 replace HB : Aside0 (Below w.heap.size w w8) := ⟨h28_⟩
 clear h0_ h1_ h2_ h3_ h4_ h5_ h6_ h7_ h8_ h9_ h10_ h11_ h12_ h13_ h14_ h15_ h16_ h17_ h18_ h19_ h20_ h21_ h22_ h23_ h24_ h25_ h26_ h27_ h28_
 have hHeld : w8.cell? ⟨g1, 0, none⟩ = some (.int .i64 a1_0) ∧ w8.cell? ⟨g1, 1, none⟩ = some (.int .i64 a1_1) ∧ w8.cell? ⟨g1, 2, none⟩ = some (.int .i64 a1_2) ∧ w8.cell? ⟨g1, 3, none⟩ = some (.int .i64 a1_3) ∧ w8.cell? ⟨g2, 0, none⟩ = some (.int .i64 a2_0) ∧ w8.cell? ⟨g2, 1, none⟩ = some (.int .i64 a2_1) ∧ w8.cell? ⟨g2, 2, none⟩ = some (.int .i64 a2_2) ∧ w8.cell? ⟨g2, 3, none⟩ = some (.int .i64 a2_3) := hS_
 refine norm_ (a' := ?_) ?_ ?_
 rotate_left
 ·simp only [putAll, Act.put, List.setIfInBounds_toArray, List.set_cons_zero, List.set_cons_succ]
  rfl
 refine on 11 none 4095 fun K hK => ?_
 have s9 : w8.cell? ⟨g5, 0, none⟩ = some (.int .i64 0) := bc K5 0
 have hfs39 := blk_frozen K5.out 0
 have z_ := ns10 N13 N15 N17 N19 N21 N14 N16 N18 N20 N22
 have s10 : w8.cell? ⟨g5, 1, none⟩ = some (.int .i64 0) := bc K5 1
 have hfs40 := blk_frozen K5.out 1
 have z_ := ns10 N13 N15 N17 N19 N21 N14 N16 N18 N20 N22
 have s11 : w8.cell? ⟨g5, 2, none⟩ = some (.int .i64 0) := bc K5 2
 have hfs41 := blk_frozen K5.out 2
 have z_ := ns10 N13 N15 N17 N19 N21 N14 N16 N18 N20 N22
 have s12 : w8.cell? ⟨g5, 3, none⟩ = some (.int .i64 0) := bc K5 3
 have hfs42 := blk_frozen K5.out 3
 have z_ := ns10 N13 N15 N17 N19 N21 N14 N16 N18 N20 N22
 refine skip_ (w1 := ?_) (by rfl) rfl ?_ ?_
 rotate_left
 ·go_simp
  rfl
 refine hK.out _ _ ⟨(cf N13 ((cf N13 ((cf N13 ((cf N13 (hHeld.1)))))))), (cf N13 ((cf N13 ((cf N13 ((cf N13 (hHeld.2.1)))))))), (cf N13 ((cf N13 ((cf N13 ((cf N13 (hHeld.2.2.1)))))))), (cf N13 ((cf N13 ((cf N13 ((cf N13 (hHeld.2.2.2.1)))))))), (cf N15 ((cf N15 ((cf N15 ((cf N15 (hHeld.2.2.2.2.1)))))))), (cf N15 ((cf N15 ((cf N15 ((cf N15 (hHeld.2.2.2.2.2.1)))))))), (cf N15 ((cf N15 ((cf N15 ((cf N15 (hHeld.2.2.2.2.2.2.1)))))))), (cf N15 ((cf N15 ((cf N15 ((cf N15 (hHeld.2.2.2.2.2.2.2))))))))⟩ (fun hHeld => ?_)
 clear hK K
 refine on 12 none 8191 fun K hK => ?_
 have s13 : w8.cell? ⟨g6, 0, none⟩ = some (.int .i64 0) := bc K6 0
 have hfs43 := blk_frozen K6.out 0
 have z_ := ns10 N23 N25 N27 N29 N22 N24 N26 N28 N30 N21
 have s14 : w8.cell? ⟨g6, 1, none⟩ = some (.int .i64 0) := bc K6 1
 have hfs44 := blk_frozen K6.out 1
 have z_ := ns10 N23 N25 N27 N29 N22 N24 N26 N28 N30 N21
 have s15 : w8.cell? ⟨g6, 2, none⟩ = some (.int .i64 0) := bc K6 2
 have hfs45 := blk_frozen K6.out 2
 have z_ := ns10 N23 N25 N27 N29 N22 N24 N26 N28 N30 N21
 have s16 : w8.cell? ⟨g6, 3, none⟩ = some (.int .i64 0) := bc K6 3
 have hfs46 := blk_frozen K6.out 3
 have z_ := ns10 N23 N25 N27 N29 N22 N24 N26 N28 N30 N21
 refine skip_ (w1 := ?_) (by rfl) rfl ?_ ?_
 rotate_left
 ·go_simp
  rfl
 refine hK.out _ _ ⟨(cf N23 ((cf N23 ((cf N23 ((cf N23 (hHeld.1)))))))), (cf N23 ((cf N23 ((cf N23 ((cf N23 (hHeld.2.1)))))))), (cf N23 ((cf N23 ((cf N23 ((cf N23 (hHeld.2.2.1)))))))), (cf N23 ((cf N23 ((cf N23 ((cf N23 (hHeld.2.2.2.1)))))))), (cf N25 ((cf N25 ((cf N25 ((cf N25 (hHeld.2.2.2.2.1)))))))), (cf N25 ((cf N25 ((cf N25 ((cf N25 (hHeld.2.2.2.2.2.1)))))))), (cf N25 ((cf N25 ((cf N25 ((cf N25 (hHeld.2.2.2.2.2.2.1)))))))), (cf N25 ((cf N25 ((cf N25 ((cf N25 (hHeld.2.2.2.2.2.2.2))))))))⟩ (fun hHeld => ?_)
 clear hK K
 refine done_ (done_of HT_.out (by kernel_rfl)) ?_
 have z_ := ns9 N14 N16 N18 N20 N22 N4 N6 N8 N27
 have z_ := cB4 K5
 have z_ := cB4 K3
 try go_wp2_with (first | ((with_reducible refine gate_callee (f := 7) rfl ?_); refine gL 31 Try.func7 (laws_eqVal.calls _ _ _ _ _ _ _ _ _ _ A7.out) fun w9 hb => ?_; replace K1 := am (blk_below (g := g1) (o := b4 a1_0 a1_1 a1_2 a1_3 23) (by refine fa N23 ?_; refine fa N23 ?_; refine fa N23 ?_; refine fa N23 ?_; refine fa N13 ?_; refine fa N13 ?_; refine fa N13 ?_; refine fa N13 ?_; exact Z K1) hb); replace K2 := am (blk_below (g := g2) (o := b4 a2_0 a2_1 a2_2 a2_3 23) (by refine fa N25 ?_; refine fa N25 ?_; refine fa N25 ?_; refine fa N25 ?_; refine fa N15 ?_; refine fa N15 ?_; refine fa N15 ?_; refine fa N15 ?_; exact Z K2) hb); replace K3 := am (blk_below (g := g3) (o := b4 t11 t12 t13 t14 24) (by refine fa N27 ?_; refine fa N27 ?_; refine fa N27 ?_; refine fa N27 ?_; refine fa N17 ?_; refine fa N17 ?_; refine fa N17 ?_; refine fa N17 ?_; exact Z K3) hb); replace K4 := am (blk_below (g := g4) (o := b4 t15 t16 t17 t18 24) (by refine fa N29 ?_; refine fa N29 ?_; refine fa N29 ?_; refine fa N29 ?_; refine fa N19 ?_; refine fa N19 ?_; refine fa N19 ?_; refine fa N19 ?_; exact Z K4) hb); replace K5 := am (blk_below (g := g5) (o := b4 t27 t28 t29 t30 24) (by refine fa N22 ?_; refine fa N22 ?_; refine fa N22 ?_; refine fa N22 ?_; refine pf ?_; refine blk_put (cs := #[.int .i64 t27, .int .i64 t28, .int .i64 t29, .int .i64 0]) ?_ 3 _ rfl; refine pf ?_; refine blk_put (cs := #[.int .i64 t27, .int .i64 t28, .int .i64 0, .int .i64 0]) ?_ 2 _ rfl; refine pf ?_; refine blk_put (cs := #[.int .i64 t27, .int .i64 0, .int .i64 0, .int .i64 0]) ?_ 1 _ rfl; refine pf ?_; refine blk_put (cs := #[.int .i64 0, .int .i64 0, .int .i64 0, .int .i64 0]) ?_ 0 _ rfl; exact Z K5) hb); replace K6 := am (blk_below (g := g6) (o := b4 t31 t32 t33 t34 24) (by refine pf ?_; refine blk_put (cs := #[.int .i64 t31, .int .i64 t32, .int .i64 t33, .int .i64 0]) ?_ 3 _ rfl; refine pf ?_; refine blk_put (cs := #[.int .i64 t31, .int .i64 t32, .int .i64 0, .int .i64 0]) ?_ 2 _ rfl; refine pf ?_; refine blk_put (cs := #[.int .i64 t31, .int .i64 0, .int .i64 0, .int .i64 0]) ?_ 1 _ rfl; refine pf ?_; refine blk_put (cs := #[.int .i64 0, .int .i64 0, .int .i64 0, .int .i64 0]) ?_ 0 _ rfl; refine fa N21 ?_; refine fa N21 ?_; refine fa N21 ?_; refine fa N21 ?_; exact Z K6) hb); replace HB := am (below_step (YA HB) hb); (try clear hb); have z_ := ns5 N24 N26 N30 N10 N12; have z_ := cB4 K6; have z_ := cB4 K4) | (go_at_call 7; (with_reducible refine (laws_eqVal.calls _ _ _ _ _ _ _ _ _ _ A8.out).mono ?_); rintro e w10 ⟨rfl, hb⟩; obtain ⟨K1, K2, K3, K4, K5, K6, HB⟩ := bk6 K1 K2 K3 K4 K5 K6 HB hb; (try clear hb)))
 go_ret
 exact ⟨ez, YA HB⟩
end
end Go.Proofs.Ytdmadlfdibiejaa.PFnExactValCmp
