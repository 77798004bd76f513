/- The row of the law FnExactFlowOut: for every input the law returns true, and each argument reads behind the call as it read before. Out of the pure statement and the printed contract of the law's function. -/
import Derived.Test.YtnmccgjdnceheaaRows
import Derived.Test.YtnmccgjdnceheaaPFnExactFlowOutx5
import Derived.Test.YtnmccgjdnceheaaPureFnExactFlowOut
import Derived.WalkKit
import Derived.ProofKit
import Derived.OpenShut
import Derived.ShutString
import Derived.ChangeOld
import Derived.Below
import Derived.SizedLaws
import Derived.Lib.SmallJoins
import Derived.Test.YtnmccgjdnceheaaWSized
import Derived.Test.YtnmccgjdnceheaaOpen
namespace Go.Proofs.Ytnmccgjdnceheaa.fnExactFlowOut
open Go.ChangeShapes Go.WideShapes Go.ChangeAt Go.RowKit Go.Joins Go.Deep Go.Proofs.YtnmccgjdnceheaaW.PrintWords Go.Proofs.Ytnmccgjdnceheaa.PFnExactFlowOut Go.Proofs.Ytnmccgjdnceheaa.Open
open Go.ChangeMaps (open_string shut_string)
set_option linter.unusedVariables false
theorem own : ownKnob Try.prog.godebug = none := by kernel_rfl
theorem laidOut : laidOutB Try.prog = true := by kernel_rfl
theorem opens140 {H : Type} {enc : TypeId × Value → H} {W : World} : Opens enc Try.prog W 140 k140 (fun _ => True) := by
  intro fuel cs y h
  obtain ⟨hl, n, hf⟩ := structFields Try.underlying140 (by kernel_rfl) (by kernel_rfl) h
  obtain ⟨c0, c1, c2, c3, c4, rfl⟩ : ∃ c0 c1 c2 c3 c4, cs = [c0, c1, c2, c3, c4] := by
    match cs, hl with
    | [c0, c1, c2, c3, c4], _ => exact ⟨c0, c1, c2, c3, c4, rfl⟩
  obtain ⟨z0, h0⟩ := hf 0 _ c0 rfl rfl
  obtain ⟨p0, e0, _, _⟩ := DataW.trod_int Try.underlying3 h0
  obtain rfl : c0 = .int .i64 p0 := by simpa using e0
  obtain ⟨z1, h1⟩ := hf 1 _ c1 rfl rfl
  obtain ⟨p1, e1, _, _⟩ := DataW.trod_int Try.underlying3 h1
  obtain rfl : c1 = .int .i64 p1 := by simpa using e1
  obtain ⟨z2, h2⟩ := hf 2 _ c2 rfl rfl
  obtain ⟨p2, e2, _, _⟩ := DataW.trod_int Try.underlying3 h2
  obtain rfl : c2 = .int .i64 p2 := by simpa using e2
  obtain ⟨z3, h3⟩ := hf 3 _ c3 rfl rfl
  obtain ⟨p3, e3, _, _⟩ := DataW.trod_int Try.underlying3 h3
  obtain rfl : c3 = .int .i64 p3 := by simpa using e3
  obtain ⟨z4, h4⟩ := hf 4 _ c4 rfl rfl
  obtain ⟨p4, e4, _, _⟩ := DataW.trod_int Try.underlying3 h4
  obtain rfl : c4 = .int .i64 p4 := by simpa using e4
  exact ⟨(⟨p0, p1, p2, p3, p4⟩ : S140), k140_mk W (⟨p0, p1, p2, p3, p4⟩ : S140), trivial⟩
set_option maxRecDepth 100000 in
theorem lifted (os : Os) (started : os.Started) (H : Type) (enc : TypeId × Value → H) :
    ReturnsInHanded {} Try.checked os 13 .any (Rows.fnExactFlowOutSpec.pre6 enc Try.prog Try.f13 Rows.fnExactFlowOutRow.domain false) (Rows.fnExactFlowOutSpec.post enc Try.prog Try.f13 false true false false) := by
  refine returnsInHanded_of_change_sized (C := Try.checked) own started (by kernel_rfl) Try.func13
    (ChangeSpec.witness6 (enc := enc) (C := Try.checked) false ⟨#[], #[.agg #[.slice none 0 0, .slice none 0 0, .slice none 0 0, .slice none 0 0], .int .i64 0], []⟩ 8 (by kernel_rfl) (by kernel_rfl) (by kernel_rfl) (by kernel_rfl)) ?_
  intro W base args ds gs before hval0 hW hcnd hsz0 _
  have hsz : (DataW.weightsEach Try.prog (Try.f13.params.toList ++ Rows.fnExactFlowOutSpec.plain.varTypes Try.prog) (ds ++ gs)).all (· ≤ reachBytes) = true := hsz0
  have hval : ∀ (j : Nat) t v, Try.f13.params[j]? = some t → args[j]? = some v → Value.okWide Try.prog W .any base t v := hval0
  have hW' := hW
  obtain ⟨p, q, hA0, hV, rfl, hfz, hnd⟩ := hW
  have hA : DataW.TrodAll enc Try.prog W 0 (fun _ => true) true Try.f13.params.toList args.toList ds p := hA0
  rw [Try.params13] at hA hval hsz
  obtain ⟨v0, vs0, d0, ds0, p0, q0, hargs, rfl, rfl, h0, r0⟩ := trodAll_cons hA
  obtain ⟨v1, vs1, d1, ds1, p1, q1, rfl, rfl, rfl, h1, r1⟩ := trodAll_cons r0
  obtain ⟨rfl, rfl, rfl⟩ := trodAll_nil r1
  obtain rfl : args = #[v0, v1] := by cases args; simp_all
  obtain ⟨rfl, rfl⟩ := trodVars_none hV
  have k0 := h0
  have lt0 : ∀ x ∈ p0, x.block < W.heap.size := by obtain ⟨m, hm⟩ := k0; exact DataW.trod_lt m _ _ _ hm
  obtain ⟨c0_0, c0_1, c0_2, c0_3, y0_0, y0_1, y0_2, y0_3, n0, rfl, rfl, rfl, g0_0, g0_1, g0_2, g0_3⟩ := open_agg4 Try.underlying56 (by kernel_rfl) (by kernel_rfl) (hval 0 56 v0 rfl rfl) h0
  obtain ⟨A0_0, cc0_0, l0_0, e0_0, hc0_0, hcm0_0, hr0_0, hq0_0⟩ := openC Try.underlying31 (by kernel_rfl) (opensInt Try.underlying3) g0_0
  obtain rfl : c0_0 = .slice A0_0 l0_0.length cc0_0 := by simpa using e0_0
  obtain ⟨A0_1, cc0_1, l0_1, e0_1, hc0_1, hcm0_1, hr0_1, hq0_1⟩ := openC Try.underlying31 (by kernel_rfl) (opensInt Try.underlying3) g0_1
  obtain rfl : c0_1 = .slice A0_1 l0_1.length cc0_1 := by simpa using e0_1
  obtain ⟨A0_2, cc0_2, l0_2, e0_2, hc0_2, hcm0_2, hr0_2, hq0_2⟩ := openC Try.underlying53 (by kernel_rfl) (opensBool Try.underlying4) g0_2
  obtain rfl : c0_2 = .slice A0_2 l0_2.length cc0_2 := by simpa using e0_2
  obtain ⟨A0_3, cc0_3, l0_3, e0_3, hc0_3, hcm0_3, hr0_3, hq0_3⟩ := openC Try.underlying54 (by kernel_rfl) opens140 g0_3
  obtain rfl : c0_3 = .slice A0_3 l0_3.length cc0_3 := by simpa using e0_3
  obtain ⟨a1, rfl, rfl, rfl, w1⟩ := open_int Try.underlying3 (hval 1 3 v1 rfl rfl) h1
  clear hA0 hval0 hsz0 hsz
  obtain ⟨k, h⟩ := Pure.FnExactFlowOut l0_0 l0_1 l0_2 l0_3 a1 (Nat.le_trans hc0_0 hcm0_0) hq0_0 (Nat.le_trans hc0_1 hcm0_1) hq0_1 (Nat.le_trans hc0_2 hcm0_2) hq0_2 (Nat.le_trans hc0_3 hcm0_3) hq0_3 w1
  refine (laws_FnExactFlowOut.calls k _ _ l0_0 _ _ l0_1 _ _ l0_2 _ _ l0_3 a1 true W hr0_0 hc0_0 hr0_1 hc0_1 hr0_2 hc0_2 hr0_3 hc0_3 h).mono fun e W' ⟨he, hd⟩ => ?_
  have bel : Below W.heap.size W W' := by first | exact hd | exact hd.below
  subst he
  exact ⟨_, rfl, _, _, _, [], _, [], hW', trodAll_mk1 (shut_bool Try.underlying4 _), (trodAll_cons_mk (Below.trod laidOut (by kernel_rfl) (of_decide_eq_true (by kernel_rfl)) k0 bel lt0) (trodAll_cons_mk (shut_int Try.underlying3 w1) trodAll_mk0)), rfl, bel.frame _, fun h => by cases h⟩
theorem over : Rows.fnExactFlowOutRow.holds Try.pinned (OpenSpec.ofChange Rows.fnExactFlowOutSpec) :=
  OpenClaim.holds_of_wide 13 Try.f13 rfl rfl rfl rfl rfl rfl rfl ⟨rfl, rfl, rfl, rfl, rfl⟩ rfl rfl rfl rfl rfl (by kernel_rfl) Try.func13 (by kernel_rfl)
    (of_decide_eq_true (by kernel_rfl)) (by unfold Func.isWrapper; first | (rw [if_pos (by decide +kernel)]; kernel_rfl) | (rw [if_neg (by decide +kernel)]; exact ⟨rfl, rfl⟩))
    (fun os started H enc _ => lifted os started H enc)
theorem proved : Rows.FnExactFlowOutSaid := over
#print axioms proved
end Go.Proofs.Ytnmccgjdnceheaa.fnExactFlowOut
