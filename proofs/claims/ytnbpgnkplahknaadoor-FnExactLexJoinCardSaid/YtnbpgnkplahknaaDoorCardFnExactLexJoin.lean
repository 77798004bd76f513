/- The row of the law FnExactLexJoin: for every input the law returns true, and each argument reads behind the call as it read before. Out of the pure statement and the printed contract of the law's function. -/
import Derived.Test.YtnbpgnkplahknaaDoorCardBase
import Derived.Test.YtnbpgnkplahknaaDoorPFnExactLexJoinx11
import Derived.Test.YtnbpgnkplahknaaDoorPureFnExactLexJoin
import Derived.WalkKit
import Derived.ProofKit
import Derived.OpenShut
import Derived.ShutString
import Derived.ChangeOld
import Derived.Below
import Derived.SizedLaws
import Derived.Lib.SmallJoins
import Derived.Deep.DeepHandedRow
import Derived.Test.YtnbpgnkplahknaaDoorWSized
import Derived.Test.YtnbpgnkplahknaaDoorOpen
namespace Go.Proofs.YtnbpgnkplahknaaDoor.fnExactLexJoin
open Go.ChangeShapes Go.WideShapes Go.ChangeAt Go.RowKit Go.Joins Go.Deep Go.Proofs.YtnbpgnkplahknaaDoorW.PrintWords Go.Proofs.YtnbpgnkplahknaaDoor.PFnExactLexJoin Go.Proofs.YtnbpgnkplahknaaDoor.Open Go.Proofs.YtnbpgnkplahknaaDoor.Card
open Go.ChangeMaps (open_string shut_string)
set_option linter.unusedVariables false
def IsRow (k : IntKind) (w : World) (a : Option Addr) (len cap : Nat) (zs : List Int) : Prop :=
  (a = none ∧ len = 0 ∧ cap = 0 ∧ zs = []) ∨
  ∃ x, a = some x ∧ len ≤ cap ∧ cap ≤ maxLen ∧ zs.length = cap ∧ (∀ i, i < zs.length → w.cell? (x.add i) = some (.int k (zs.getD i 0))) ∧ ∀ n ∈ zs, (Lit.int k n).wf = true
theorem table {W : World} (h : laidMetH Tryd.prog Rows.fnExactLexJoinRow.laid W) : PFnExactSignAt.Tab W := by
  obtain ⟨ps, ⟨_, _, _, _, _, _, _, _, _, _, ⟨_, _, _, _, _, _, _, _, _, _, ⟨_, _, _, _, _, _, _, _, _, _, ⟨_, _, _, _, _, _, _, _, _, _, ⟨_, _, _, _, _, _, _, _, _, _, ⟨g', t', cs, fuel, p, q, hg', ht', hvar, hd, _, _⟩, _⟩, _⟩, _⟩, _⟩, _⟩, _⟩ := h
  exact tab_of hg' ht' hvar hd
theorem opens56 {H : Type} {enc : TypeId × Value → H} {W : World} : Opens enc Tryd.prog W 56 k56 (fun x => x.f2.size ≤ maxLen ∧ True) := by
  intro fuel cs y h
  obtain ⟨hl, n, hf⟩ := structFields Tryd.underlying56 (by kernel_rfl) (by kernel_rfl) h
  obtain ⟨c0, c1, c2, c3, rfl⟩ : ∃ c0 c1 c2 c3, cs = [c0, c1, c2, c3] := by
    match cs, hl with
    | [c0, c1, c2, c3], _ => exact ⟨c0, c1, c2, c3, rfl⟩
  obtain ⟨z0, h0⟩ := hf 0 _ c0 rfl rfl
  obtain ⟨p0, e0, _, _⟩ := DataW.trod_int Tryd.underlying3 h0
  obtain rfl : c0 = .int .i64 p0 := by simpa using e0
  obtain ⟨z1, h1⟩ := hf 1 _ c1 rfl rfl
  obtain ⟨p1, e1, _, _⟩ := DataW.trod_int Tryd.underlying3 h1
  obtain rfl : c1 = .int .i64 p1 := by simpa using e1
  obtain ⟨z2, h2⟩ := hf 2 _ c2 rfl rfl
  obtain ⟨p2, e2, _, t2⟩ := DataW.trod_string Tryd.underlying9 h2
  obtain rfl : c2 = .string p2 := by simpa using e2
  obtain ⟨z3, h3⟩ := hf 3 _ c3 rfl rfl
  obtain ⟨p3, e3, _, _⟩ := DataW.trod_int Tryd.underlying3 h3
  obtain rfl : c3 = .int .i64 p3 := by simpa using e3
  exact ⟨(⟨p0, p1, p2, p3⟩ : S56), k56_mk W (⟨p0, p1, p2, p3⟩ : S56), ⟨t2, trivial⟩⟩
set_option maxHeartbeats 4000000 in
set_option maxRecDepth 100000 in
theorem contract (H : Type) (enc : TypeId × Value → H) (W : World) (base : Nat) (args : Array Value) (ds gs : List (DataW H)) (before : List MemPlace)
    (hval0 : ∀ (j : Nat) t v, Tryd.f5.params[j]? = some t → args[j]? = some v → Value.okWide Tryd.prog W .any base t v)
    (hW : DataW.Whole enc Tryd.prog Tryd.f5.params.toList Rows.fnExactLexJoinSpec.vars false W args.toList ds gs before)
    (hsz0 : (DataW.weightsEach Tryd.prog (Tryd.f5.params.toList ++ Rows.fnExactLexJoinSpec.plain.varTypes Tryd.prog) (ds ++ gs)).all (· ≤ reachBytes) = true) (hL : laidMetH Tryd.prog Rows.fnExactLexJoinRow.laid W) :
    Calls Tryd.prog 5 args W fun e W' => ∃ v, e = .returned v ∧ Rows.fnExactLexJoinSpec.post enc Tryd.prog Tryd.f5 false true false false W args v W' := by
  have hsz : (DataW.weightsEach Tryd.prog (Tryd.f5.params.toList ++ Rows.fnExactLexJoinSpec.plain.varTypes Tryd.prog) (ds ++ gs)).all (· ≤ reachBytes) = true := hsz0
  have hval : ∀ (j : Nat) t v, Tryd.f5.params[j]? = some t → args[j]? = some v → Value.okWide Tryd.prog W .any base t v := hval0
  have hW' := hW
  obtain ⟨p, q, hA0, hV, rfl, hfz, hnd⟩ := hW
  have hA : DataW.TrodAll enc Tryd.prog W 0 (fun _ => true) true Tryd.f5.params.toList args.toList ds p := hA0
  rw [Tryd.params5] at hA hval hsz
  obtain ⟨v0, vs0, d0, ds0, p0, q0, hargs, rfl, rfl, h0, r0⟩ := trodAll_cons hA
  obtain ⟨rfl, rfl, rfl⟩ := trodAll_nil r0
  obtain rfl : args = #[v0] := by cases args; simp_all
  obtain ⟨g, t, cs, fuel, d, pp, rfl, hgn, ht, hvar, hd, rfl⟩ := trodVars_one hV
  have eg : g = 0 := Option.some.inj (hgn.symm.trans gTab)
  subst eg
  have et : t = 46 := Option.some.inj (ht.symm.trans gTabType)
  subst et
  obtain ⟨a0, len0, cap0, rfl⟩ := okWide_slice Tryd.underlying33 (hval 0 33 v0 rfl rfl)
  have k0 := h0
  have lt0 : ∀ x ∈ p0, x.block < W.heap.size := by obtain ⟨m, hm⟩ := k0; exact DataW.trod_lt m _ _ _ hm
  obtain ⟨fu0, hf0⟩ := h0
  obtain ⟨A0, cc0, l0, e0, hc0, hcm0, hr0, hq0⟩ := openC Tryd.underlying33 (by kernel_rfl) opens56 hf0
  obtain ⟨ea0, el0, ec0⟩ : a0 = A0 ∧ len0 = l0.length ∧ cap0 = cc0 := by simpa [Value.cells] using e0
  subst ea0
  subst el0
  subst ec0
  clear hA0 hval0 hsz0 hsz
  obtain ⟨k, h⟩ := Pure.FnExactLexJoin l0 (Nat.le_trans hc0 hcm0) hq0
  refine (laws_FnExactLexJoin.calls k _ _ l0 true W hr0 hc0 h (table hL)).mono fun e W' ⟨he, hd_⟩ => ?_
  have bel : Below W.heap.size W W' := by first | exact hd_ | exact hd_.below
  subst he
  exact ⟨_, rfl, _, _, _, [], _, _, hW', trodAll_mk1 (shut_bool Tryd.underlying4 _), (trodAll_cons_mk (Below.trod laidOut (by kernel_rfl) (of_decide_eq_true (by kernel_rfl)) k0 bel lt0) trodAll_mk0), trodVars_mk1 hgn ht (var_below hvar bel) ((trod_tab _ _).trans hd), bel.frame _, fun h => by cases h⟩
theorem laid_met (os : Os) : laidMet Tryd.prog Rows.fnExactLexJoinRow.laid ((laidWorld os).forCall (fun _ _ => 0) ⟨#[], #[Value.slice none 0 0], []⟩).memory :=
  laidMet_of_run' 8 (by kernel_rfl) (by kernel_rfl)
theorem reads (os : Os) {H : Type} (enc : TypeId × Value → H) : ∃ places, DataW.whole enc Tryd.prog ((laidWorld os).forCall (fun _ _ => 0) ⟨#[], #[Value.slice none 0 0], []⟩).memory Tryd.f5.params.toList Rows.fnExactLexJoinSpec.vars false #[Value.slice none 0 0].toList 8 = some ([.nil], [Rows.laid_loop_example_sedge_impl_signTable], places) :=
  ⟨MemPlace.row ⟨0, 0, none⟩ 30, by kernel_rfl⟩
set_option maxRecDepth 100000 in
theorem lifted (os : Os) (started : os.Started) (H : Type) (enc : TypeId × Value → H) (F : Stop.Interp) :
    ReturnsInHanded {} Tryd.checked os 5 .any ((OpenSpec.ofChange Rows.fnExactLexJoinSpec).preRow enc Tryd.prog Tryd.f5 Rows.fnExactLexJoinRow.domain false Rows.fnExactLexJoinRow.laid) (((OpenSpec.ofChange Rows.fnExactLexJoinSpec).at F).post enc Tryd.prog Tryd.f5 false true false false) := by
  obtain ⟨places, hx⟩ := reads os enc
  refine returnsInHanded_of_row (C := Tryd.checked) (s := OpenSpec.ofChange Rows.fnExactLexJoinSpec) own started (by kernel_rfl) Tryd.func5
    (witness_row_at (enc := enc) (C := Tryd.checked) false (laidWorld os) #[Value.slice none 0 0] rfl (by kernel_rfl) (by kernel_rfl) (by kernel_rfl)
      (OpenSpec.preRow_of_cond 8 hx (by kernel_rfl) (fun k hk => by cases hk) (by kernel_rfl) (laid_met os))) ?_
  intro W base args ds gs before hval hW _ _ hsz hL _ _
  exact contract H enc W base args ds gs before hval hW hsz hL
theorem said : Rows.FnExactLexJoinSaid :=
  OpenClaim.holds_of_cond 5 Tryd.f5 rfl rfl rfl rfl rfl rfl rfl ⟨rfl, rfl, rfl, rfl, rfl⟩ rfl rfl rfl rfl rfl (by kernel_rfl) Tryd.func5 (by kernel_rfl)
    (of_decide_eq_true (by kernel_rfl)) (by unfold Func.isWrapper; first | (rw [if_pos (by decide +kernel)]; kernel_rfl) | (rw [if_neg (by decide +kernel)]; exact ⟨rfl, rfl⟩))
    (fun os started H enc _ F => by rw [OpenClaim.pre_eq_preRow]; exact lifted os started H enc F)
theorem plain (f : FuncId) (fn : Func) (hf : Tryd.pinned.checked.prog.funcNamed "loop.example/sedge/laws.FnExactLexJoin" = some f) (hfn : Tryd.pinned.checked.prog.funcs[f]? = some fn) :
    true = Tryd.pinned.checked.prog.looks [] ∧ ∀ (j : Nat) t, fn.params[j]? = some t → Tryd.pinned.checked.prog.wantsStandIn t = false := by
  obtain rfl : f = 5 := Option.some.inj ((show Tryd.prog.funcNamed "loop.example/sedge/laws.FnExactLexJoin" = some 5 by kernel_rfl).symm.trans hf) |>.symm
  obtain rfl : fn = Tryd.f5 := (Option.some.inj (Tryd.func5.symm.trans hfn)).symm
  refine ⟨by kernel_rfl, fun j t ht => ?_⟩
  rw [Tryd.params5] at ht
  have hm : t ∈ [33] := by simpa using Array.mem_of_getElem? ht
  have hall : ([33].all fun u => !Tryd.prog.wantsStandIn u) = true := by kernel_rfl
  exact (show Tryd.prog.wantsStandIn t = false by simpa using List.all_eq_true.1 hall t hm)
theorem card : Rows.FnExactLexJoinCardSaid :=
  Claim7.holds_tied_plain_at .later [] _ _ _ _ said (fun _ h => by cases h) (by kernel_rfl) (fun _ h => by cases h) fnExactLexJoin_row_tie rfl ⟨rfl, rfl⟩ (by kernel_rfl) rfl plain (by kernel_rfl)
end Go.Proofs.YtnbpgnkplahknaaDoor.fnExactLexJoin
