/- The row of the law FnExactNameKind: for every input the law returns true, and each argument reads behind the call as it read before. Out of the pure statement and the printed contract of the law's function. -/
import Derived.Test.YtnmccgjdnceheaaRows
import Derived.Test.YtnmccgjdnceheaaPFnExactNameKindx7
import Derived.Test.YtnmccgjdnceheaaPureFnExactNameKind
import Derived.WalkKit
import Derived.ProofKit
import Derived.OpenShut
import Derived.ShutString
import Derived.ChangeOld
import Derived.Below
import Derived.SizedLaws
import Derived.Lib.SmallJoins
import Derived.Test.YtnmccgjdnceheaaWSized
import Derived.Test.YtnmccgjdnceheaaOpen
namespace Go.Proofs.Ytnmccgjdnceheaa.fnExactNameKind
open Go.ChangeShapes Go.WideShapes Go.ChangeAt Go.RowKit Go.Joins Go.Deep Go.Proofs.YtnmccgjdnceheaaW.PrintWords Go.Proofs.Ytnmccgjdnceheaa.PFnExactNameKind Go.Proofs.Ytnmccgjdnceheaa.Open
open Go.ChangeMaps (open_string shut_string)
set_option linter.unusedVariables false
theorem own : ownKnob Try.prog.godebug = none := by kernel_rfl
theorem laidOut : laidOutB Try.prog = true := by kernel_rfl
theorem opens143 {H : Type} {enc : TypeId × Value → H} {W : World} : Opens enc Try.prog W 143 k143 (fun x => x.f0.size ≤ maxLen ∧ True) := by
  intro fuel cs y h
  obtain ⟨hl, n, hf⟩ := structFields Try.underlying143 (by kernel_rfl) (by kernel_rfl) h
  obtain ⟨c0, c1, rfl⟩ : ∃ c0 c1, cs = [c0, c1] := by
    match cs, hl with
    | [c0, c1], _ => exact ⟨c0, c1, rfl⟩
  obtain ⟨z0, h0⟩ := hf 0 _ c0 rfl rfl
  obtain ⟨p0, e0, _, t0⟩ := DataW.trod_string Try.underlying9 h0
  obtain rfl : c0 = .string p0 := by simpa using e0
  obtain ⟨z1, h1⟩ := hf 1 _ c1 rfl rfl
  obtain ⟨p1, e1, _, _⟩ := DataW.trod_int Try.underlying3 h1
  obtain rfl : c1 = .int .i64 p1 := by simpa using e1
  exact ⟨(⟨p0, p1⟩ : S143), k143_mk W (⟨p0, p1⟩ : S143), ⟨t0, trivial⟩⟩
theorem opens145 {H : Type} {enc : TypeId × Value → H} {W : World} : Opens enc Try.prog W 145 k145 (fun x => x.f0.size ≤ maxLen ∧ x.f2.length ≤ maxLen ∧ (∀ y ∈ x.f2, y.size ≤ maxLen) ∧ x.f3.length ≤ maxLen ∧ (∀ y ∈ x.f3, y.size ≤ maxLen) ∧ True) := by
  intro fuel cs y h
  obtain ⟨hl, n, hf⟩ := structFields Try.underlying145 (by kernel_rfl) (by kernel_rfl) h
  obtain ⟨c0, c1, c2, c3, c4, rfl⟩ : ∃ c0 c1 c2 c3 c4, cs = [c0, c1, c2, c3, c4] := by
    match cs, hl with
    | [c0, c1, c2, c3, c4], _ => exact ⟨c0, c1, c2, c3, c4, rfl⟩
  obtain ⟨z0, h0⟩ := hf 0 _ c0 rfl rfl
  obtain ⟨p0, e0, _, t0⟩ := DataW.trod_string Try.underlying9 h0
  obtain rfl : c0 = .string p0 := by simpa using e0
  obtain ⟨z1, h1⟩ := hf 1 _ c1 rfl rfl
  obtain ⟨p1, e1, _, _⟩ := DataW.trod_int Try.underlying3 h1
  obtain rfl : c1 = .int .i64 p1 := by simpa using e1
  obtain ⟨z2, h2⟩ := hf 2 _ c2 rfl rfl
  obtain ⟨A2, cc2, p2, e2, q2, m2, r2, t2⟩ := openC Try.underlying68 (by kernel_rfl) (opensStr Try.underlying9) h2
  obtain rfl : c2 = .slice A2 p2.length cc2 := by simpa using e2
  obtain ⟨z3, h3⟩ := hf 3 _ c3 rfl rfl
  obtain ⟨A3, cc3, p3, e3, q3, m3, r3, t3⟩ := openC Try.underlying68 (by kernel_rfl) (opensStr Try.underlying9) h3
  obtain rfl : c3 = .slice A3 p3.length cc3 := by simpa using e3
  obtain ⟨z4, h4⟩ := hf 4 _ c4 rfl rfl
  obtain ⟨p4, e4, _, _⟩ := DataW.trod_int Try.underlying3 h4
  obtain rfl : c4 = .int .i64 p4 := by simpa using e4
  exact ⟨(⟨p0, p1, p2, p3, p4⟩ : S145), k145_mk W (⟨p0, p1, p2, p3, p4⟩ : S145) q2 r2 q3 r3, ⟨t0, Nat.le_trans q2 m2, t2, Nat.le_trans q3 m3, t3, trivial⟩⟩
set_option maxRecDepth 100000 in
theorem lifted (os : Os) (started : os.Started) (H : Type) (enc : TypeId × Value → H) :
    ReturnsInHanded {} Try.checked os 14 .any (Rows.fnExactNameKindSpec.pre6 enc Try.prog Try.f14 Rows.fnExactNameKindRow.domain false) (Rows.fnExactNameKindSpec.post enc Try.prog Try.f14 false true false false) := by
  refine returnsInHanded_of_change_sized (C := Try.checked) own started (by kernel_rfl) Try.func14
    (ChangeSpec.witness6 (enc := enc) (C := Try.checked) false ⟨#[], #[.agg #[.slice none 0 0, .slice none 0 0, .slice none 0 0], .string ByteArray.empty, .string ByteArray.empty], []⟩ 8 (by kernel_rfl) (by kernel_rfl) (by kernel_rfl) (by kernel_rfl)) ?_
  intro W base args ds gs before hval0 hW hcnd hsz0 _
  have hsz : (DataW.weightsEach Try.prog (Try.f14.params.toList ++ Rows.fnExactNameKindSpec.plain.varTypes Try.prog) (ds ++ gs)).all (· ≤ reachBytes) = true := hsz0
  have hval : ∀ (j : Nat) t v, Try.f14.params[j]? = some t → args[j]? = some v → Value.okWide Try.prog W .any base t v := hval0
  have hW' := hW
  obtain ⟨p, q, hA0, hV, rfl, hfz, hnd⟩ := hW
  have hA : DataW.TrodAll enc Try.prog W 0 (fun _ => true) true Try.f14.params.toList args.toList ds p := hA0
  rw [Try.params14] at hA hval hsz
  obtain ⟨v0, vs0, d0, ds0, p0, q0, hargs, rfl, rfl, h0, r0⟩ := trodAll_cons hA
  obtain ⟨v1, vs1, d1, ds1, p1, q1, rfl, rfl, rfl, h1, r1⟩ := trodAll_cons r0
  obtain ⟨v2, vs2, d2, ds2, p2, q2, rfl, rfl, rfl, h2, r2⟩ := trodAll_cons r1
  obtain ⟨rfl, rfl, rfl⟩ := trodAll_nil r2
  obtain rfl : args = #[v0, v1, v2] := by cases args; simp_all
  obtain ⟨rfl, rfl⟩ := trodVars_none hV
  have k0 := h0
  have lt0 : ∀ x ∈ p0, x.block < W.heap.size := by obtain ⟨m, hm⟩ := k0; exact DataW.trod_lt m _ _ _ hm
  obtain ⟨c0_0, c0_1, c0_2, y0_0, y0_1, y0_2, n0, rfl, rfl, rfl, g0_0, g0_1, g0_2⟩ := open_agg3 Try.underlying71 (by kernel_rfl) (by kernel_rfl) (hval 0 71 v0 rfl rfl) h0
  obtain ⟨A0_0, cc0_0, l0_0, e0_0, hc0_0, hcm0_0, hr0_0, hq0_0⟩ := openC Try.underlying67 (by kernel_rfl) opens143 g0_0
  obtain rfl : c0_0 = .slice A0_0 l0_0.length cc0_0 := by simpa using e0_0
  obtain ⟨A0_1, cc0_1, l0_1, e0_1, hc0_1, hcm0_1, hr0_1, hq0_1⟩ := openC Try.underlying68 (by kernel_rfl) (opensStr Try.underlying9) g0_1
  obtain rfl : c0_1 = .slice A0_1 l0_1.length cc0_1 := by simpa using e0_1
  obtain ⟨A0_2, cc0_2, l0_2, e0_2, hc0_2, hcm0_2, hr0_2, hq0_2⟩ := openC Try.underlying69 (by kernel_rfl) opens145 g0_2
  obtain rfl : c0_2 = .slice A0_2 l0_2.length cc0_2 := by simpa using e0_2
  obtain ⟨a1, rfl, rfl, rfl, y1⟩ := open_string Try.underlying9 (hval 1 9 v1 rfl rfl) h1
  have w1 : a1.size ≤ 140737488351232 := by
    have z := sized_string hsz (j := 1) (t := 9) rfl rfl
    rw [Array.length_toList] at z
    exact z
  obtain ⟨a2, rfl, rfl, rfl, y2⟩ := open_string Try.underlying9 (hval 2 9 v2 rfl rfl) h2
  have w2 : a2.size ≤ 140737488351232 := by
    have z := sized_string hsz (j := 2) (t := 9) rfl rfl
    rw [Array.length_toList] at z
    exact z
  clear hA0 hval0 hsz0 hsz
  obtain ⟨k, h⟩ := Pure.FnExactNameKind l0_0 l0_1 l0_2 a1 a2 (Nat.le_trans hc0_0 hcm0_0) hq0_0 (Nat.le_trans hc0_1 hcm0_1) hq0_1 (Nat.le_trans hc0_2 hcm0_2) hq0_2 w1 w2
  refine (laws_FnExactNameKind.calls k _ _ l0_0 _ _ l0_1 _ _ l0_2 a1 a2 true W hr0_0 hc0_0 hr0_1 hc0_1 hr0_2 hc0_2 h).mono fun e W' ⟨he, hd⟩ => ?_
  have bel : Below W.heap.size W W' := by first | exact hd | exact hd.below
  subst he
  exact ⟨_, rfl, _, _, _, [], _, [], hW', trodAll_mk1 (shut_bool Try.underlying4 _), (trodAll_cons_mk (Below.trod laidOut (by kernel_rfl) (of_decide_eq_true (by kernel_rfl)) k0 bel lt0) (trodAll_cons_mk (shut_string Try.underlying9 y1) (trodAll_cons_mk (shut_string Try.underlying9 y2) trodAll_mk0))), rfl, bel.frame _, fun h => by cases h⟩
theorem over : Rows.fnExactNameKindRow.holds Try.pinned (OpenSpec.ofChange Rows.fnExactNameKindSpec) :=
  OpenClaim.holds_of_wide 14 Try.f14 rfl rfl rfl rfl rfl rfl rfl ⟨rfl, rfl, rfl, rfl, rfl⟩ rfl rfl rfl rfl rfl (by kernel_rfl) Try.func14 (by kernel_rfl)
    (of_decide_eq_true (by kernel_rfl)) (by unfold Func.isWrapper; first | (rw [if_pos (by decide +kernel)]; kernel_rfl) | (rw [if_neg (by decide +kernel)]; exact ⟨rfl, rfl⟩))
    (fun os started H enc _ => lifted os started H enc)
theorem proved : Rows.FnExactNameKindSaid := over
#print axioms proved
end Go.Proofs.Ytnmccgjdnceheaa.fnExactNameKind
