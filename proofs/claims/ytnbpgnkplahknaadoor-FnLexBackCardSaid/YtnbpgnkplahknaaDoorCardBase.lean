/- What the cards of the lexer's laws share: the table of signs read out of what the row lists, kept behind a call; a world in which all that the rows list lies. -/
import Derived.Test.YtnbpgnkplahknaaDoorCards
import Derived.Test.YtnbpgnkplahknaaDoorTie
import Derived.Test.YtnbpgnkplahknaaDoorSign
import Derived.WalkKit
import Derived.ProofKit
import Derived.OpenShut
import Derived.ShutString
import Derived.Deep.DeepHandedRow
import Derived.Lib.LaidTab
import Derived.LaidHandle
namespace Go.Proofs.YtnbpgnkplahknaaDoor.Card
open Go.ChangeShapes Go.WideShapes Go.ChangeAt Go.RowKit Go.Proofs.YtnbpgnkplahknaaDoor.PFnExactSignAt
open Go.ChangeMaps (open_string shut_string)
set_option linter.unusedVariables false
theorem laidOut : laidOutB Tryd.prog = true := by kernel_rfl
theorem own : ownKnob Tryd.prog.godebug = none := by kernel_rfl
theorem gTab : Tryd.prog.globalNamed "loop.example/sedge/impl.signTable" = some 0 := by kernel_rfl
theorem gTabType : (Tryd.prog.globals[0]?).map (·.type) = some 46 := by kernel_rfl
theorem cells46 : Tryd.prog.cellsOf 46 = 30 := by kernel_rfl
theorem cells9 : Tryd.prog.cellsOf 9 = 1 := by kernel_rfl
def tabDataS {H : Type} (ss : List ByteArray) : DataW H := .agg (ss.map fun s => .lit (.string s.data.toList))
theorem cells_of_tabS {H : Type} {enc : TypeId × Value → H} {P : Program} {w : World} {base : Nat} {sp : Nat → Bool} {held : Bool} {fuel : Nat} {t e : TypeId} {n : Nat} {cs : List Value} {ss : List ByteArray} {p : List MemPlace}
    (ht : P.underlying t = some (.array n e)) (he : P.underlying e = some .string) (hce : P.cellsOf e = 1) (hct : P.cellsOf t = n)
    (h : DataW.trod enc P w base sp held fuel t cs = some (tabDataS ss, p)) : cs = ss.map Value.string := by
  cases fuel with
  | zero => simp [DataW.trod] at h
  | succ fuel =>
    simp only [DataW.trod, ht, hce, hct, Nat.mul_one] at h
    split at h
    · rename_i hl
      obtain ⟨xs, hm, hx⟩ := Option.map_eq_some_iff.1 h
      have hxs : xs.map (·.1) = ss.map fun s => (DataW.lit (.string s.data.toList) : DataW H) := by
        have := congrArg Prod.fst hx
        simpa [tabDataS] using this
      have hxl : xs.length = n := by simpa using Lib.mapM_length hm
      have hzl : ss.length = n := by
        have := congrArg List.length hxs
        simp at this
        omega
      apply List.ext_getElem?
      intro i
      by_cases hi : i < n
      · obtain ⟨b, hb, hf⟩ := Lib.mapM_at hm i i (by simp [hi])
        obtain ⟨s, hc, rfl, _⟩ := DataW.trod_string he hf
        have h1 : cs[i]? = some (.string s) := by
          have := congrArg (·[0]?) hc
          simpa [List.getElem?_take, List.getElem?_drop] using this
        have h2 : (xs.map (·.1))[i]? = some (DataW.lit (.string s.data.toList) : DataW H) := by simp [hb]
        rw [hxs] at h2
        simp only [List.getElem?_map, Option.map_eq_some_iff, DataW.lit.injEq, Lit.string.injEq] at h2
        obtain ⟨s', hs', e'⟩ := h2
        have : s' = s := by
          apply ByteArray.ext
          exact Array.toList_inj.mp e'
        subst this
        simp [h1, hs']
      · rw [List.getElem?_eq_none (by omega), List.getElem?_eq_none (by simp; omega)]
    · cases h
/-- The table's datum holds: the table stands. -/
theorem tab_of {W : World} {g' : Nat} {t' : TypeId} {cs : Array Value} {fuel : Nat} {p : List MemPlace} (hg' : Tryd.prog.globalNamed "loop.example/sedge/impl.signTable" = some g') (ht' : (Tryd.prog.globals[g']?).map (·.type) = some t') (hvar : W.var? Tryd.prog "loop.example/sedge/impl.signTable" = some cs) {H : Type} {enc : TypeId × Value → H} {sp : Nat → Bool} {hd : Bool} (h : DataW.trod enc Tryd.prog W 0 sp hd fuel t' cs.toList = some (tabDataS tbl, p)) : Tab W := by
  obtain rfl := Option.some.inj (gTab.symm.trans hg')
  obtain rfl := Option.some.inj (gTabType.symm.trans ht')
  have e : cs.toList = tbl.map Value.string := cells_of_tabS (ss := tbl) Tryd.underlying46 Tryd.underlying9 cells9 cells46 h
  intro j v hv
  rw [Nat.zero_add, World.var?_cell gTab hvar j, ← Array.getElem?_toList, e]
  exact hv
theorem trod_str {H : Type} {enc : TypeId × Value → H} {w w' : World} {b : Nat} {sp sp' : Nat → Bool} {hd : Bool} (fuel : Nat) (cs : List Value) : DataW.trod enc Tryd.prog w b sp hd fuel 9 cs = DataW.trod enc Tryd.prog w' b sp' hd fuel 9 cs := by
  cases fuel with
  | zero => rfl
  | succ n =>
    simp only [DataW.trod, Tryd.underlying9]
    rcases cs with _ | ⟨v, _ | ⟨u, l⟩⟩
    · rfl
    · cases v <;> rfl
    · cases v <;> rfl
theorem trod_tab {H : Type} {enc : TypeId × Value → H} {w w' : World} {b : Nat} {sp sp' : Nat → Bool} {hd : Bool} (fuel : Nat) (cs : List Value) : DataW.trod enc Tryd.prog w b sp hd fuel 46 cs = DataW.trod enc Tryd.prog w' b sp' hd fuel 46 cs := by
  cases fuel with
  | zero => rfl
  | succ n =>
    simp only [DataW.trod, Tryd.underlying46]
    simp only [trod_str (w := w) (w' := w') (sp := sp) (sp' := sp')]
theorem var_below {W W' : World} {cs : Array Value} (h : W.var? Tryd.prog "loop.example/sedge/impl.signTable" = some cs) (hb : Below W.heap.size W W') : W'.var? Tryd.prog "loop.example/sedge/impl.signTable" = some cs := by
  simp only [World.var?, gTab, Option.bind_some] at h ⊢
  have hl : 0 < W.heap.size := by
    rcases Nat.eq_zero_or_pos W.heap.size with h0 | h0
    · rw [Array.getElem?_eq_none (by omega)] at h
      cases h
    · exact h0
  rw [hb.block 0 hl]
  exact h
noncomputable def low : Nat := (World.holding Tryd.prog default ⟨#[], #[], []⟩).heap.size
def rangeS : ByteArray := ⟨#[118, 97, 108, 117, 101, 32, 111, 117, 116, 32, 111, 102, 32, 114, 97, 110, 103, 101]⟩
def syntaxS : ByteArray := ⟨#[105, 110, 118, 97, 108, 105, 100, 32, 115, 121, 110, 116, 97, 120]⟩
noncomputable def laidWorld (os : Os) : World :=
  let w0 := World.holding Tryd.prog os ⟨#[.cells #[.string rangeS] 100, .cells #[.string syntaxS] 100], #[], []⟩
  { w0 with heap := (((((w0.heap.modify 0 fun
      | .cells _ t frozen => .cells (tbl.map Value.string).toArray t frozen
      | o => o).modify 2 fun
      | .cells _ t frozen => .cells #[.iface 98 (.pointer (some ⟨low + 1, 0, none⟩))] t frozen
      | o => o).modify 3 fun
      | .cells _ t frozen => .cells #[.iface 98 (.pointer (some ⟨low, 0, none⟩))] t frozen
      | o => o).modify 4 fun
      | .cells _ t frozen => .cells (List.map (fun z => Value.int .u64 z) [1, 10, 100, 1000, 10000, 100000, 1000000, 10000000, 100000000, 1000000000, 10000000000, 100000000000, 1000000000000, 10000000000000, 100000000000000, 1000000000000000, 10000000000000000, 100000000000000000, 1000000000000000000, 10000000000000000000]).toArray t frozen
      | o => o).modify 5 fun
      | .cells _ t frozen => .cells (List.map (fun z => Value.int .u8 z) [0, 1, 28, 2, 29, 14, 24, 3, 30, 22, 20, 15, 25, 17, 4, 8, 31, 27, 13, 23, 21, 19, 16, 7, 26, 12, 18, 6, 11, 5, 10, 9]).toArray t frozen
      | o => o).modify 6 fun
      | .cells _ t frozen => .cells (List.map (fun z => Value.int .u8 z) [0, 1, 56, 2, 57, 49, 28, 3, 61, 58, 42, 50, 38, 29, 17, 4, 62, 47, 59, 36, 45, 43, 51, 22, 53, 39, 33, 30, 24, 18, 12, 5, 63, 55, 48, 27, 60, 41, 37, 16, 46, 35, 44, 21, 52, 32, 23, 11, 54, 26, 40, 15, 34, 20, 31, 10, 25, 14, 19, 9, 13, 8, 7, 6]).toArray t frozen
      | o => o }
end Go.Proofs.YtnbpgnkplahknaaDoor.Card
