/- The sign that stands at a place: the program's, over its table; and the law's walk. -/
import Derived.Test.YtnbpgnkplahknaaDoorPFnExactSignAtx1
import Derived.Deep.MidRow
namespace Go.Proofs.YtnbpgnkplahknaaDoor.PFnExactSignAt
open Go.RowKit Go.Proofs.YtnbpgnkplahknaaDoorW.PrintWords Go.Proofs.YtnbpgnkplahknaaDoorW.PrintLast Go.Proofs.YtnbpgnkplahknaaDoorW.PrintMore
attribute [local go_sem] max2_int min2_int max_two min_two max_three min_three max_four min_four   -- for this text's walks alone
set_option linter.unusedVariables false
set_option linter.unusedSimpArgs false
def tbl : List ByteArray := [(⟨#[43, 37]⟩ : ByteArray), (⟨#[45, 37]⟩ : ByteArray), (⟨#[42, 37]⟩ : ByteArray), (⟨#[60, 60]⟩ : ByteArray), (⟨#[62, 62]⟩ : ByteArray), (⟨#[61, 61]⟩ : ByteArray), (⟨#[33, 61]⟩ : ByteArray), (⟨#[60, 61]⟩ : ByteArray), (⟨#[62, 61]⟩ : ByteArray), (⟨#[46, 46]⟩ : ByteArray), (⟨#[43, 61]⟩ : ByteArray), (⟨#[43]⟩ : ByteArray), (⟨#[45]⟩ : ByteArray), (⟨#[42]⟩ : ByteArray), (⟨#[47]⟩ : ByteArray), (⟨#[37]⟩ : ByteArray), (⟨#[38]⟩ : ByteArray), (⟨#[124]⟩ : ByteArray), (⟨#[94]⟩ : ByteArray), (⟨#[60]⟩ : ByteArray), (⟨#[62]⟩ : ByteArray), (⟨#[61]⟩ : ByteArray), (⟨#[40]⟩ : ByteArray), (⟨#[41]⟩ : ByteArray), (⟨#[123]⟩ : ByteArray), (⟨#[125]⟩ : ByteArray), (⟨#[91]⟩ : ByteArray), (⟨#[93]⟩ : ByteArray), (⟨#[44]⟩ : ByteArray), (⟨#[59]⟩ : ByteArray)]
/-- The table stands in the world. -/
def Tab (w : World) : Prop := w.rangeAt 0 0 (tbl.map Value.string)
theorem Tab.below {w W : World} (h : Tab w) (hb : Below w.heap.size w W) : Tab W := fun j v hv => (hb.cell (World.block_lt_of_cell? w _ (h j v hv))).trans (h j v hv)
theorem run_index_arr {P : Program} {w : World} (t e : TypeId) (n : Nat) (cs : Array Value) (k : IntKind) (i : Int) (v : Value) (h : P.underlying t = some (.array n e)) (hs : (sizeOf e).run P w = .ok 1 w) (ha : (isAgg e).run P w = .ok false w) (h0 : 0 ≤ i) (h1 : i < n) (hv : cs[i.toNat]? = some v) :
    (Instr.index t (.agg cs) (.int k i)).run P w = .ok v w := by
  simp [Instr.index, run_underlying h, asIntOf, h0, h1, go_sem, hs, ha, hv]
theorem szS (w : World) : (sizeOf 9).run Tryd.prog w = .ok 1 w := by
  first | (go_simp; done) | (go_simp; rfl) | rfl
theorem agS (w : World) : (isAgg 9).run Tryd.prog w = .ok false w := by
  first | (go_simp; done) | (go_simp; rfl) | rfl
def impl_SignAt.l0 : Nat → ByteArray → Int → Int → Option ByteArray
  | 0, _, _, _ => none
  | k + 1, x0, x1, x16 => if x16 < 30 then (if 0 ≤ x16 then ((strings_HasPrefix.f (x0.extract (x1 : Int).toNat x0.size) (rdOf ByteArray.empty tbl x16)).bind fun b => (if b = true then (some (rdOf ByteArray.empty tbl x16)) else (impl_SignAt.l0 k x0 x1 (wrap64 (x16 + 1))))) else none) else some (⟨#[]⟩ : ByteArray)
def impl_SignAt.f (k : Nat) (a0 : ByteArray) (a1 : Int) : Option ByteArray := if a1 < 0 then some (⟨#[]⟩ : ByteArray) else if a1 ≥ (a0.size : Int) then some (⟨#[]⟩ : ByteArray) else impl_SignAt.l0 k a0 a1 0
theorem map_get {α β : Type} (f : α → β) (d : α) (l : List α) (n : Nat) (h : n < l.length) : (l.map f).toArray[n]? = some (f (l.getD n d)) := by
  simp [List.getD_eq_getElem?_getD, List.getElem?_eq_getElem h]
theorem tbl_len : tbl.length = 30 := rfl
theorem tblV_get (i : Int) (h0 : 0 ≤ i) (h1 : i < 30) : (tbl.map Value.string).toArray[i.toNat]? = some (.string (rdOf ByteArray.empty tbl i)) :=
  map_get Value.string ByteArray.empty tbl i.toNat (by rw [tbl_len]; omega)
set_option maxHeartbeats 8000000 in
set_option maxRecDepth 100000 in
theorem impl_SignAt.calls (k : Nat) (a0 : ByteArray) (a1 : Int) (r : ByteArray) (w : World) (hT : Tab w) (h : impl_SignAt.f k a0 a1 = some r) :
    Calls Tryd.prog 9 #[.string a0, .int .i64 a1] w fun e w' => e = .returned (.string r) ∧ Drawn0 w w' := by
  have H : (if a1 < 0 then some (⟨#[]⟩ : ByteArray) else if a1 ≥ (a0.size : Int) then some (⟨#[]⟩ : ByteArray) else impl_SignAt.l0 k a0 a1 0) = some r := h
  clear h
  go_enter Tryd.func9, Tryd.ntmps9
  by_cases c1 : a1 < 0
  · rw [if_pos c1] at H
    have b1 : decide (a1 < 0) = true := decide_eq_true c1
    clear c1
    obtain rfl := Option.some.inj H
    go_wp2
    go_ret
    exact ⟨by first | rfl | (simp; done) | (simp [*]; done), by repeat (first | exact Drawn0.refl _ | apply Drawn0.step)⟩
  · rw [if_neg c1] at H
    have b1 : decide (a1 < 0) = false := decide_eq_false c1
    by_cases c2 : a1 ≥ (a0.size : Int)
    · rw [if_pos c2] at H
      have b2 : decide ((a0.size : Int) ≤ a1) = true := decide_eq_true c2
      obtain rfl := Option.some.inj H
      go_wp2
      go_ret
      exact ⟨by first | rfl | (simp; done) | (simp [*]; done), by repeat (first | exact Drawn0.refl _ | apply Drawn0.step)⟩
    · rw [if_neg c2] at H
      have b2 : decide ((a0.size : Int) ≤ a1) = false := decide_eq_false c2
      have p1 : (0 ≤ a1) = True := eq_true (by omega)
      have p2 : (a1 ≤ (a0.size : Int)) = True := eq_true (by omega)
      have H' := Aside0.mk H
      clear H
      go_wp2_with (first | ((with_reducible refine gate_dst (N := 15) rfl ?_); refine wpList_load_mid rfl 46 (Operand.global 0) rfl 0 0 rfl (tbl.map Value.string) _ hT Tryd.underlying46 rfl (by kernel_rfl) ?_))
      go_loopg [16] k (fun kq v16 w' => ∃ (x16 : Int), v16 = .int .i64 x16 ∧ Aside0 (impl_SignAt.l0 kq a0 a1 x16 = some r) ∧ Aside0 (kq ≤ k) ∧ Drawn0 w w')
      case atStart => exact ⟨0, (by first | rfl | (simp; done) | (simp [*]; done)), H', ⟨Nat.le_refl _⟩, by repeat (first | exact Drawn0.refl _ | apply Drawn0.step)⟩
      case round =>
        clear H'
        obtain ⟨x16, rfl, HA, HK1, ⟨m1, rfl⟩⟩ := hrel
        cases gk with
        | zero => exact absurd HA.out (by simp [impl_SignAt.l0])
        | succ k1 =>
          have H := HA.out
          clear HA
          simp only [impl_SignAt.l0] at H
          by_cases c3 : x16 < 30
          · rw [if_pos c3] at H
            have b3 : decide (x16 < 30) = true := decide_eq_true c3
            by_cases c4 : 0 ≤ x16
            · rw [if_pos c4] at H
              replace H := Option.bind_eq_some_iff.mp H
              obtain ⟨t1, A1, H⟩ := H
              have hix : ∀ w', (Instr.index 46 (.agg (tbl.map Value.string).toArray) (.int .i64 x16)).run Tryd.prog w' = .ok (.string (rdOf ByteArray.empty tbl x16)) w' := fun w' => run_index_arr 46 9 30 _ .i64 x16 _ Tryd.underlying46 (szS _) (agS _) c4 c3 (tblV_get _ c4 c3)
              by_cases c5 : t1 = true
              · subst c5
                rw [if_pos rfl] at H
                obtain rfl := Option.some.inj H
                go_wp2_with (first | ((with_reducible refine gate_callee (f := 23) rfl ?_); refine goesL_ (some 23) rfl rfl Tryd.func23 (by kernel_rfl) rfl #[.string (a0.extract (a1 : Int).toNat a0.size), .string (rdOf ByteArray.empty tbl x16)] rfl (by (try simp only [List.map_toArray, List.map_cons, List.map_nil]); first | done | rfl) ?_; (with_reducible refine (strings_HasPrefix.calls _ _ true _ A1).mono ?_); rintro e w' ⟨rfl, ⟨nd, rfl⟩⟩; refine ⟨_, rfl, ?_⟩))
                go_ret
                exact ⟨by first | rfl | (simp; done) | (simp [*]; done), by repeat (first | exact Drawn0.refl _ | apply Drawn0.step)⟩
              · replace c5 := Bool.eq_false_iff.mpr c5
                subst c5
                rw [if_neg (show ¬ (false = true) by decide)] at H
                have H' := Aside0.mk H
                clear H
                go_wp2_with (first | ((with_reducible refine gate_callee (f := 23) rfl ?_); refine goesL_ (some 23) rfl rfl Tryd.func23 (by kernel_rfl) rfl #[.string (a0.extract (a1 : Int).toNat a0.size), .string (rdOf ByteArray.empty tbl x16)] rfl (by (try simp only [List.map_toArray, List.map_cons, List.map_nil]); first | done | rfl) ?_; (with_reducible refine (strings_HasPrefix.calls _ _ false _ A1).mono ?_); rintro e w' ⟨rfl, ⟨nd, rfl⟩⟩; refine ⟨_, rfl, ?_⟩))
                go_roundg k1
                case measure => have := HK1.out; omega
                case rel => exact ⟨(wrap64 (x16 + 1)), (by first | rfl | (simp; done) | (simp [*]; done) | (simp; unfold wrap64; omega)), H', ⟨by have := HK1.out; omega⟩, by repeat (first | exact Drawn0.refl _ | apply Drawn0.step)⟩
            · rw [if_neg c4] at H
              exact absurd H (by simp)
          · rw [if_neg c3] at H
            have b3 : decide (x16 < 30) = false := decide_eq_false c3
            obtain rfl := Option.some.inj H
            go_wp2
            go_ret
            exact ⟨by first | rfl | (simp; done) | (simp [*]; done), by repeat (first | exact Drawn0.refl _ | apply Drawn0.step)⟩
set_option maxHeartbeats 8000000 in
set_option maxRecDepth 100000 in
theorem law_calls (k : Nat) (a0 : ByteArray) (a1 : Int) (w : World) (hT : Tab w) (hP : ¬ (a0.size : Int) > 1048576 → ∃ r, spec_SignAt.f k a0 a1 = some r ∧ impl_SignAt.f k a0 a1 = some r) :
    Calls Tryd.prog 3 #[.string a0, .int .i64 a1] w fun e w' => e = .returned (.bool true) ∧ Below w.heap.size w w' := by
  go_enter Tryd.func3, Tryd.ntmps3
  by_cases c1 : (a0.size : Int) > 1048576
  · have b1 : decide (1048576 < (a0.size : Int)) = true := decide_eq_true c1
    go_wp2
    go_ret
    exact ⟨by first | rfl | (simp; done) | (simp [*]; done), by first | exact Below.refl _ _ | (repeat (first | exact Below.refl _ _ | apply pw_below_drewN | apply below_drew1))⟩
  · obtain ⟨r, h1, h2⟩ := hP c1
    have b1 : decide (1048576 < (a0.size : Int)) = false := decide_eq_false c1
    go_wp2_with (first | (go_at_call 8; (with_reducible refine (spec_SignAt.calls k a0 a1 r _ h1).mono ?_); rintro e w2 ⟨rfl, hb⟩) | (go_at_call 9; (with_reducible refine (impl_SignAt.calls k a0 a1 r _ (hT.below hb) h2).mono ?_); rintro e w3 ⟨rfl, ⟨nd, rfl⟩⟩))
    go_ret
    exact ⟨by first | rfl | (simp; done) | (simp [*]; done), pw_below_drewN hb nd⟩
end Go.Proofs.YtnbpgnkplahknaaDoor.PFnExactSignAt
