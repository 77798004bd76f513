/- The law FnExactSignAt: its statement and its card, over a world that holds the table of signs. -/
import Derived.Test.YtnbpgnkplahknaaDoorCards
import Derived.Test.YtnbpgnkplahknaaDoorTie
import Derived.Test.YtnbpgnkplahknaaDoorPureFnExactSignAt
import Derived.WalkKit
import Derived.ProofKit
import Derived.OpenShut
import Derived.ShutString
import Derived.Deep.DeepHandedRow
import Derived.Lib.LaidTab
namespace Go.Proofs.YtnbpgnkplahknaaDoor.fnExactSignAt
open Go.ChangeShapes Go.WideShapes Go.ChangeAt Go.RowKit Go.Proofs.YtnbpgnkplahknaaDoor.PFnExactSignAt
open Go.ChangeMaps (open_string shut_string)
set_option linter.unusedVariables false
theorem own : ownKnob Tryd.prog.godebug = none := by kernel_rfl
theorem gTab : Tryd.prog.globalNamed "loop.example/sedge/impl.signTable" = some 0 := by kernel_rfl
theorem gTabType : (Tryd.prog.globals[0]?).map (·.type) = some 46 := by kernel_rfl
theorem cells46 : Tryd.prog.cellsOf 46 = 30 := by kernel_rfl
theorem cells9 : Tryd.prog.cellsOf 9 = 1 := by kernel_rfl
def tabDataS {H : Type} (ss : List ByteArray) : DataW H := .agg (ss.map fun s => .lit (.string s.data.toList))
theorem cells_of_tabS {H : Type} {enc : TypeId × Value → H} {P : Program} {w : World} {base : Nat} {sp : Nat → Bool} {held : Bool} {fuel : Nat} {t e : TypeId} {n : Nat} {cs : List Value} {ss : List ByteArray} {p : List MemPlace}
    (ht : P.underlying t = some (.array n e)) (he : P.underlying e = some .string) (hce : P.cellsOf e = 1) (hct : P.cellsOf t = n)
    (h : DataW.trod enc P w base sp held fuel t cs = some (tabDataS ss, p)) : cs = ss.map Value.string := by
  cases fuel with
  | zero => simp [DataW.trod] at h
  | succ fuel =>
    simp only [DataW.trod, ht, hce, hct, Nat.mul_one] at h
    split at h
    · rename_i hl
      obtain ⟨xs, hm, hx⟩ := Option.map_eq_some_iff.1 h
      have hxs : xs.map (·.1) = ss.map fun s => (DataW.lit (.string s.data.toList) : DataW H) := by
        have := congrArg Prod.fst hx
        simpa [tabDataS] using this
      have hxl : xs.length = n := by simpa using Lib.mapM_length hm
      have hzl : ss.length = n := by
        have := congrArg List.length hxs
        simp at this
        omega
      apply List.ext_getElem?
      intro i
      by_cases hi : i < n
      · obtain ⟨b, hb, hf⟩ := Lib.mapM_at hm i i (by simp [hi])
        obtain ⟨s, hc, rfl, _⟩ := DataW.trod_string he hf
        have h1 : cs[i]? = some (.string s) := by
          have := congrArg (·[0]?) hc
          simpa [List.getElem?_take, List.getElem?_drop] using this
        have h2 : (xs.map (·.1))[i]? = some (DataW.lit (.string s.data.toList) : DataW H) := by simp [hb]
        rw [hxs] at h2
        simp only [List.getElem?_map, Option.map_eq_some_iff, DataW.lit.injEq, Lit.string.injEq] at h2
        obtain ⟨s', hs', e'⟩ := h2
        have : s' = s := by
          apply ByteArray.ext
          exact Array.toList_inj.mp e'
        subst this
        simp [h1, hs']
      · rw [List.getElem?_eq_none (by omega), List.getElem?_eq_none (by simp; omega)]
    · cases h
theorem table {W : World} (h : laidMetH Tryd.prog Rows.fnExactSignAtRow.laid W) : Tab W := by
  obtain ⟨ps, ⟨g', t', cs, fuel, p, q, hg', ht', hvar, hd, _, _⟩, _⟩ := h
  obtain rfl := Option.some.inj (gTab.symm.trans hg')
  obtain rfl := Option.some.inj (gTabType.symm.trans ht')
  have e : cs.toList = tbl.map Value.string := cells_of_tabS (ss := tbl) Tryd.underlying46 Tryd.underlying9 cells9 cells46 hd
  intro j v hv
  rw [Nat.zero_add, World.var?_cell gTab hvar j, ← Array.getElem?_toList, e]
  exact hv
theorem trod_str {H : Type} {enc : TypeId × Value → H} {w w' : World} {b : Nat} {sp sp' : Nat → Bool} {hd : Bool} (fuel : Nat) (cs : List Value) : DataW.trod enc Tryd.prog w b sp hd fuel 9 cs = DataW.trod enc Tryd.prog w' b sp' hd fuel 9 cs := by
  cases fuel with
  | zero => rfl
  | succ n =>
    simp only [DataW.trod, Tryd.underlying9]
    rcases cs with _ | ⟨v, _ | ⟨u, l⟩⟩
    · rfl
    · cases v <;> rfl
    · cases v <;> rfl
theorem trod_tab {H : Type} {enc : TypeId × Value → H} {w w' : World} {b : Nat} {sp sp' : Nat → Bool} {hd : Bool} (fuel : Nat) (cs : List Value) : DataW.trod enc Tryd.prog w b sp hd fuel 46 cs = DataW.trod enc Tryd.prog w' b sp' hd fuel 46 cs := by
  cases fuel with
  | zero => rfl
  | succ n =>
    simp only [DataW.trod, Tryd.underlying46]
    simp only [trod_str (w := w) (w' := w') (sp := sp) (sp' := sp')]
theorem var_below {W W' : World} {cs : Array Value} (h : W.var? Tryd.prog "loop.example/sedge/impl.signTable" = some cs) (hb : Below W.heap.size W W') : W'.var? Tryd.prog "loop.example/sedge/impl.signTable" = some cs := by
  simp only [World.var?, gTab, Option.bind_some] at h ⊢
  have hl : 0 < W.heap.size := by
    rcases Nat.eq_zero_or_pos W.heap.size with h0 | h0
    · rw [Array.getElem?_eq_none (by omega)] at h
      cases h
    · exact h0
  rw [hb.block 0 hl]
  exact h
set_option maxRecDepth 100000 in
theorem contract (H : Type) (enc : TypeId × Value → H) (W : World) (base : Nat) (args : Array Value) (ds gs : List (DataW H)) (before : List MemPlace)
    (hval : ∀ (j : Nat) t v, Tryd.f3.params[j]? = some t → args[j]? = some v → Value.okWide Tryd.prog W .any base t v)
    (hW : DataW.Whole enc Tryd.prog Tryd.f3.params.toList Rows.fnExactSignAtSpec.vars false W args.toList ds gs before) (hL : laidMetH Tryd.prog Rows.fnExactSignAtRow.laid W) :
    Calls Tryd.prog 3 args W fun e W' => ∃ v, e = .returned v ∧ Rows.fnExactSignAtSpec.post enc Tryd.prog Tryd.f3 false true false false W args v W' := by
  have hW' := hW
  obtain ⟨p, q, hA0, hV, rfl, hfz, hnd⟩ := hW
  have hA : DataW.TrodAll enc Tryd.prog W 0 (fun _ => true) true Tryd.f3.params.toList args.toList ds p := hA0
  rw [Tryd.params3] at hA hval
  obtain ⟨v0, vs0, d0, ds0, p0, q0, hargs, rfl, rfl, h0, r0⟩ := trodAll_cons hA
  obtain ⟨v1, vs1, d1, ds1, p1, q1, rfl, rfl, rfl, h1, r1⟩ := trodAll_cons r0
  obtain ⟨rfl, rfl, rfl⟩ := trodAll_nil r1
  obtain rfl : args = #[v0, v1] := by cases args; simp_all
  obtain ⟨g, t, cs, fuel, d, pp, rfl, hgn, ht, hvar, hd, rfl⟩ := trodVars_one hV
  have eg : g = 0 := Option.some.inj (hgn.symm.trans gTab)
  subst eg
  have et : t = 46 := Option.some.inj (ht.symm.trans gTabType)
  subst et
  obtain ⟨a0, rfl, rfl, rfl, y0⟩ := open_string Tryd.underlying9 (hval 0 9 v0 rfl rfl) h0
  obtain ⟨a1, rfl, rfl, rfl, w1⟩ := open_int Tryd.underlying3 (hval 1 3 v1 rfl rfl) h1
  clear hA0
  simp only [List.append_nil] at hW'
  by_cases hs : a0.size ≤ 1048576
  · obtain ⟨k, r, e1, e2⟩ := Pure.FnExactSignAt a0 a1 hs
    refine (law_calls k a0 a1 W (table hL) (fun _ => ⟨r, e1, e2⟩)).mono fun e W' ⟨he, hg⟩ => ?_
    subst he
    exact ⟨_, rfl, _, _, _, [], _, _, hW', trodAll_mk1 (shut_bool Tryd.underlying4 _), trodAll_cons_mk (shut_string Tryd.underlying9 y0) (trodAll_cons_mk (shut_int Tryd.underlying3 w1) trodAll_mk0), trodVars_mk1 hgn ht (var_below hvar hg) ((trod_tab _ _).trans hd), hg.frame _, fun h => by cases h⟩
  · refine (law_calls 0 a0 a1 W (table hL) (fun h => absurd (show a0.size ≤ 1048576 by omega) hs)).mono fun e W' ⟨he, hg⟩ => ?_
    subst he
    exact ⟨_, rfl, _, _, _, [], _, _, hW', trodAll_mk1 (shut_bool Tryd.underlying4 _), trodAll_cons_mk (shut_string Tryd.underlying9 y0) (trodAll_cons_mk (shut_int Tryd.underlying3 w1) trodAll_mk0), trodVars_mk1 hgn ht (var_below hvar hg) ((trod_tab _ _).trans hd), hg.frame _, fun h => by cases h⟩
noncomputable def laidWorld (os : Os) : World :=
  { World.holding Tryd.prog os ⟨#[], #[], []⟩ with heap := (World.holding Tryd.prog os ⟨#[], #[], []⟩).heap.modify 0 fun
      | .cells _ t frozen => .cells (tbl.map Value.string).toArray t frozen
      | o => o }
theorem laid_met (os : Os) : laidMet Tryd.prog Rows.fnExactSignAtRow.laid ((laidWorld os).forCall (fun _ _ => 0) ⟨#[], #[.string ByteArray.empty, .int .i64 0], []⟩).memory :=
  laidMet_of_run' 8 (by kernel_rfl) (by kernel_rfl)
theorem reads (os : Os) {H : Type} (enc : TypeId × Value → H) : ∃ places, DataW.whole enc Tryd.prog ((laidWorld os).forCall (fun _ _ => 0) ⟨#[], #[.string ByteArray.empty, .int .i64 0], []⟩).memory Tryd.f3.params.toList Rows.fnExactSignAtSpec.vars false #[Value.string ByteArray.empty, .int .i64 0].toList 8 = some ([.lit (.string []), .lit (.int .i64 0)], [Rows.laid_loop_example_sedge_impl_signTable], places) :=
  ⟨MemPlace.row ⟨0, 0, none⟩ 30, by kernel_rfl⟩
set_option maxRecDepth 100000 in
theorem lifted (os : Os) (started : os.Started) (H : Type) (enc : TypeId × Value → H) (F : Stop.Interp) :
    ReturnsInHanded {} Tryd.checked os 3 .any ((OpenSpec.ofChange Rows.fnExactSignAtSpec).preRow enc Tryd.prog Tryd.f3 Rows.fnExactSignAtRow.domain false Rows.fnExactSignAtRow.laid) (((OpenSpec.ofChange Rows.fnExactSignAtSpec).at F).post enc Tryd.prog Tryd.f3 false true false false) := by
  obtain ⟨places, hx⟩ := reads os enc
  refine returnsInHanded_of_row (C := Tryd.checked) (s := OpenSpec.ofChange Rows.fnExactSignAtSpec) own started (by kernel_rfl) Tryd.func3
    (witness_row_at (enc := enc) (C := Tryd.checked) false (laidWorld os) #[.string ByteArray.empty, .int .i64 0] rfl (by kernel_rfl) (by kernel_rfl) (by kernel_rfl)
      (OpenSpec.preRow_of_cond 8 hx (by kernel_rfl) (fun k hk => by cases hk) (by kernel_rfl) (laid_met os))) ?_
  intro W base args ds gs before hval hW _ _ _ hL _ _
  exact contract H enc W base args ds gs before hval hW hL
theorem said : Rows.FnExactSignAtSaid :=
  OpenClaim.holds_of_cond 3 Tryd.f3 rfl rfl rfl rfl rfl rfl rfl ⟨rfl, rfl, rfl, rfl, rfl⟩ rfl rfl rfl rfl rfl (by kernel_rfl) Tryd.func3 (by kernel_rfl)
    (of_decide_eq_true (by kernel_rfl)) (by unfold Func.isWrapper; first | (rw [if_pos (by decide +kernel)]; kernel_rfl) | (rw [if_neg (by decide +kernel)]; exact ⟨rfl, rfl⟩))
    (fun os started H enc _ F => by rw [OpenClaim.pre_eq_preRow]; exact lifted os started H enc F)
theorem plain (f : FuncId) (fn : Func) (hf : Tryd.pinned.checked.prog.funcNamed "loop.example/sedge/laws.FnExactSignAt" = some f) (hfn : Tryd.pinned.checked.prog.funcs[f]? = some fn) :
    true = Tryd.pinned.checked.prog.looks [] ∧ ∀ (j : Nat) t, fn.params[j]? = some t → Tryd.pinned.checked.prog.wantsStandIn t = false := by
  obtain rfl : f = 3 := Option.some.inj ((show Tryd.prog.funcNamed "loop.example/sedge/laws.FnExactSignAt" = some 3 by kernel_rfl).symm.trans hf) |>.symm
  obtain rfl : fn = Tryd.f3 := (Option.some.inj (Tryd.func3.symm.trans hfn)).symm
  refine ⟨by kernel_rfl, fun j t ht => ?_⟩
  rw [Tryd.params3] at ht
  have : t = 9 ∨ t = 3 := by simpa using Array.mem_of_getElem? ht
  rcases this with rfl | rfl
  · exact (show Tryd.prog.wantsStandIn 9 = false by kernel_rfl)
  · exact (show Tryd.prog.wantsStandIn 3 = false by kernel_rfl)
theorem card : Rows.FnExactSignAtCardSaid :=
  Claim7.holds_tied_plain_at .later [] _ _ _ _ said (fun _ h => by cases h) (by kernel_rfl) (fun _ h => by cases h) fnExactSignAt_row_tie rfl ⟨rfl, rfl⟩ (by kernel_rfl) rfl plain (by kernel_rfl)
end Go.Proofs.YtnbpgnkplahknaaDoor.fnExactSignAt
