/- The pure statement of the law FnExactFlowOut: for every input the printed function answers true. -/
import Derived.Test.YtnmccgjdnceheaaPFnExactFlowOutx0
import Derived.Test.YtnmccgjdnceheaaPFnExactFlowOutx1
import Derived.Test.YtnmccgjdnceheaaPFnExactFlowOutx2
import Derived.Test.YtnmccgjdnceheaaPFnExactFlowOutx3
import Derived.Test.YtnmccgjdnceheaaPFnExactFlowOutx4
import Derived.Test.YtnmccgjdnceheaaPFnExactFlowOutx5
import Derived.Test.YtnmccgjdnceheaaLib
namespace Go.Proofs.Ytnmccgjdnceheaa.Pure
open Go Go.RowKit Go.Proofs.Ytnmccgjdnceheaa.PFnExactFlowOut Go.Proofs.YtnmccgjdnceheaaW.PrintWords Go.Proofs.YtnmccgjdnceheaaW.PrintLast Go.Proofs.YtnmccgjdnceheaaW.PrintMore Go.Proofs.Ytnmccgjdnceheaa.Lib
set_option linter.unusedVariables false
set_option linter.unusedSimpArgs false

/-! ### lists of numbers, taken over and held against each other -/
theorem toInts_loop {xs : List Int} (hx : xs.length ≤ 1048576) (d : Nat) : ∀ (i : Nat) (ys : List Int), i ≤ xs.length → xs.length - i = d → ys.length = xs.length → ys.take i = xs.take i → W (fun k => laws_toIntS.l0 k xs ys (i : Int)) (· = xs) := by
  induction d with
  | zero =>
    intro i ys hi hd hl ht
    refine W.step (fun k => by simp only [laws_toIntS.l0]; rfl) ?_
    refine W.neg (by omega) (W.ret ?_)
    obtain rfl : i = xs.length := by omega
    rw [List.take_length, ← hl, List.take_length] at ht; exact ht
  | succ d ih =>
    intro i ys hi hd hl ht
    have hlt : i < xs.length := by omega
    refine W.step (fun k => by simp only [laws_toIntS.l0]; rfl) ?_
    refine W.pos (by omega) (W.pos (by omega) (W.pos (by omega) ?_))
    rw [wrap64_id (n := (i : Int) + 1) (by omega) (by omega), show (i : Int) + 1 = ((i + 1 : Nat) : Int) by omega, show rd xs (i : Int) = xs[i] by simp [rd, List.getD_eq_getElem?_getD, List.getElem?_eq_getElem hlt]]
    refine ih (i + 1) _ (by omega) (by omega) (by simp [hl]) ?_
    rw [Int.toNat_natCast, List.take_succ_eq_append_getElem (by simpa using by omega), List.take_succ_eq_append_getElem hlt, List.getElem_set_self, List.take_set_of_le (by omega), ht]
theorem toInts {xs : List Int} (hx : xs.length ≤ 1048576) : W (fun k => laws_toIntS.f k xs) (· = xs) := by
  unfold laws_toIntS.f
  refine W.pos (by omega) (W.pos (by omega) ?_)
  exact toInts_loop hx _ 0 _ (by omega) rfl (by simp) (by simp)
theorem eqInts_loop {xs : List Int} (hx : xs.length ≤ 1048576) (d : Nat) : ∀ i : Nat, i ≤ xs.length → xs.length - i = d → W (fun k => laws_eqIntS.l0 k xs xs (i : Int)) (· = true) := by
  induction d with
  | zero =>
    intro i hi hd
    refine W.step (fun k => by simp only [laws_eqIntS.l0]; rfl) ?_
    exact W.neg (by omega) (W.ret rfl)
  | succ d ih =>
    intro i hi hd
    refine W.step (fun k => by simp only [laws_eqIntS.l0]; rfl) ?_
    refine W.pos (by omega) (W.pos (by omega) (W.pos (by omega) (W.pos (by trivial) ?_)))
    rw [wrap64_id (n := (i : Int) + 1) (by omega) (by omega), show (i : Int) + 1 = ((i + 1 : Nat) : Int) by omega]
    exact ih (i + 1) (by omega) (by omega)
theorem eqInts {xs : List Int} (hx : xs.length ≤ 1048576) : W (fun k => laws_eqIntS.f k xs xs) (· = true) := by
  unfold laws_eqIntS.f
  refine W.pos (by trivial) ?_
  exact eqInts_loop hx _ 0 (by omega) rfl

/-! ### marks that are laid and held -/
def markL (k : Int) (n : Nat) : List Int := (List.range n).map fun (i : Nat) => k + (i : Int)
theorem markL_get {k : Int} {n i : Nat} (h : i < n) : rd (markL k n) (i : Int) = k + i := by
  have : i < (markL k n).length := by simpa [markL] using h
  simp [rd, List.getD_eq_getElem?_getD, markL, List.getElem?_range h]
theorem marks {xs : List Int} (hx : xs.length ≤ 9000000000000) (k0 : Int) (h0 : 0 ≤ k0) (h1 : k0 ≤ 9000000000000) : W (fun k => laws_markIntS.f k xs k0) (· = (k0 + xs.length, markL k0 xs.length)) := by
  unfold laws_markIntS.f
  have h : ∀ ys : List Int, ys.length = xs.length → ys.take 0 = (markL k0 xs.length).take 0 → W (fun k => laws_markIntS.l0 k ys (k0 + ((0 : Nat) : Int)) ((0 : Nat) : Int)) (· = (k0 + xs.length, markL k0 xs.length)) := by
    refine down_ind (Q := fun i => ∀ ys : List Int, ys.length = xs.length → ys.take i = (markL k0 xs.length).take i → W (fun k => laws_markIntS.l0 k ys (k0 + (i : Int)) (i : Int)) (· = (k0 + xs.length, markL k0 xs.length))) xs.length ?_ ?_
    · intro ys hl ht
      refine W.step (fun k => by simp only [laws_markIntS.l0]; rfl) ?_
      refine W.neg (by omega) (W.ret ?_)
      have hm : (markL k0 xs.length).length = xs.length := by simp [markL]
      rw [← List.take_length (l := ys), hl, ht, show List.take xs.length (markL k0 xs.length) = markL k0 xs.length by rw [List.take_of_length_le (by omega)]]
    · intro i hi ih ys hl ht
      refine W.step (fun k => by simp only [laws_markIntS.l0]; rfl) ?_
      refine W.pos (by omega) (W.pos (by omega) ?_)
      rw [wrap64_id (n := k0 + (i : Int) + 1) (by omega) (by omega), wrap64_id (n := (i : Int) + 1) (by omega) (by omega), show k0 + (i : Int) + 1 = k0 + ((i + 1 : Nat) : Int) by omega, show (i : Int) + 1 = ((i + 1 : Nat) : Int) by omega, Int.toNat_natCast]
      refine ih _ (by simp [hl]) ?_
      have h1 : i < (ys.set i (k0 + (i : Int))).length := by simp [hl, hi]
      have h2 : i < (markL k0 xs.length).length := by simpa [markL] using hi
      rw [List.take_succ_eq_append_getElem h1, List.take_succ_eq_append_getElem h2, List.getElem_set_self, List.take_set_of_le (by omega), ht]
      simp [markL]
  have := h xs rfl rfl
  simpa using this
theorem helds {n : Nat} (hx : n ≤ 9000000000000) (k0 : Int) (h0 : 0 ≤ k0) (h1 : k0 ≤ 9000000000000) : W (fun k => laws_heldIntS.f k (markL k0 n) k0) (· = k0 + n) := by
  unfold laws_heldIntS.f
  have hm : (markL k0 n).length = n := by simp [markL]
  have h : W (fun k => laws_heldIntS.l0 k (markL k0 n) (k0 + ((0 : Nat) : Int)) ((0 : Nat) : Int)) (· = k0 + n) := by
    refine down_ind (Q := fun i => W (fun k => laws_heldIntS.l0 k (markL k0 n) (k0 + (i : Int)) (i : Int)) (· = k0 + n)) n ?_ ?_
    · refine W.step (fun k => by simp only [laws_heldIntS.l0]; rfl) ?_
      exact W.neg (by omega) (W.ret rfl)
    · intro i hi ih
      refine W.step (fun k => by simp only [laws_heldIntS.l0]; rfl) ?_
      refine W.pos (by omega) (W.pos (by omega) (W.pos (markL_get hi) ?_))
      rw [wrap64_id (n := k0 + (i : Int) + 1) (by omega) (by omega), wrap64_id (n := (i : Int) + 1) (by omega) (by omega), show k0 + (i : Int) + 1 = k0 + ((i + 1 : Nat) : Int) by omega, show (i : Int) + 1 = ((i + 1 : Nat) : Int) by omega]
      exact ih
  simpa using h

/-! ### edges that leave a place -/
def edge (x : S140) : S111 := ⟨x.f0, x.f1, x.f2, x.f3, x.f4⟩
theorem rd140 {xs : List S140} {i : Nat} (h : i < xs.length) : rd_T140 xs (i : Int) = xs[i] := by simp [rd_T140, List.getD_eq_getElem?_getD, List.getElem?_eq_getElem h]
theorem rd111 {xs : List S111} {i : Nat} (h : i < xs.length) : rd_T111 xs (i : Int) = xs[i] := by simp [rd_T111, List.getD_eq_getElem?_getD, List.getElem?_eq_getElem h]
theorem rdB {xs : List Bool} {i : Nat} (h : i < xs.length) : rdOf false xs (i : Int) = xs[i] := by simp [rdOf, List.getD_eq_getElem?_getD, List.getElem?_eq_getElem h]
theorem toBools {xs : List Bool} (hx : xs.length ≤ 1048576) : W (fun k => laws_toBoolS.f k xs) (· = xs) := by
  unfold laws_toBoolS.f
  refine W.pos (by omega) (W.pos (by omega) ?_)
  rw [Int.toNat_natCast]
  have h : W (fun k => laws_toBoolS.l0 k xs (List.replicate xs.length false) 0) (· = xs.map id) := by
    refine copyL id xs (g := fun k ys i => laws_toBoolS.l0 k xs ys i) (fun ys hl => ?_) (fun i hi ys hl P hP => ?_)
    · refine W.step (fun k => by simp only [laws_toBoolS.l0]; rfl) ?_
      exact W.neg (by omega) (W.ret rfl)
    · refine W.step (fun k => by simp only [laws_toBoolS.l0]; rfl) ?_
      refine W.pos (by omega) (W.pos (by omega) (W.pos (by omega) ?_))
      rw [rdB hi, wrap64_id (n := (i : Int) + 1) (by omega) (by omega), show (i : Int) + 1 = ((i + 1 : Nat) : Int) by omega, Int.toNat_natCast]
      exact hP
  simpa using h
theorem toEdges {xs : List S140} (hx : xs.length ≤ 1048576) : W (fun k => laws_toEdgeS.f k xs) (· = xs.map edge) := by
  unfold laws_toEdgeS.f
  refine W.pos (by omega) (W.pos (by omega) ?_)
  rw [Int.toNat_natCast]
  refine copyL edge xs (g := fun k ys i => laws_toEdgeS.l0 k xs ys i) (fun ys hl => ?_) (fun i hi ys hl P hP => ?_)
  · refine W.step (fun k => by simp only [laws_toEdgeS.l0]; rfl) ?_
    exact W.neg (by omega) (W.ret rfl)
  · refine W.step (fun k => by simp only [laws_toEdgeS.l0, laws_toEdge.f, Option.bind_some]; rfl) ?_
    refine W.pos (by omega) (W.pos (by omega) (W.pos (by omega) ?_))
    rw [rd140 hi, wrap64_id (n := (i : Int) + 1) (by omega) (by omega), show (i : Int) + 1 = ((i + 1 : Nat) : Int) by omega, Int.toNat_natCast]
    exact hP
theorem toFlow {a b : List Int} {c : List Bool} {d : List S140} (ha : a.length ≤ 1048576) (hb : b.length ≤ 1048576) (hc : c.length ≤ 1048576) (hd : d.length ≤ 1048576) : W (fun k => laws_toFlow.f k a b c d) (· = (a, b, c, d.map edge)) := by
  unfold laws_toFlow.f
  refine W.bind (toInts ha) ?_
  rintro _ rfl
  refine W.bind (toInts hb) ?_
  rintro _ rfl
  refine W.bind (toBools hc) ?_
  rintro _ rfl
  refine W.bind (toEdges hd) ?_
  rintro _ rfl
  exact W.ret rfl
theorem eqBools {xs : List Bool} (hx : xs.length ≤ 1048576) : W (fun k => laws_eqBoolS.f k xs xs) (· = true) := by
  unfold laws_eqBoolS.f
  refine W.pos rfl ?_
  have h : W (fun k => laws_eqBoolS.l0 k xs xs ((0 : Nat) : Int)) (· = true) := by
    refine down_ind (Q := fun i => W (fun k => laws_eqBoolS.l0 k xs xs (i : Int)) (· = true)) xs.length ?_ ?_
    · refine W.step (fun k => by simp only [laws_eqBoolS.l0]; rfl) ?_
      exact W.neg (by omega) (W.ret rfl)
    · intro i hi ih
      refine W.step (fun k => by simp only [laws_eqBoolS.l0]; rfl) ?_
      refine W.pos (by omega) (W.pos (by omega) (W.pos (by omega) (W.neg (by simp) ?_)))
      rw [wrap64_id (n := (i : Int) + 1) (by omega) (by omega), show (i : Int) + 1 = ((i + 1 : Nat) : Int) by omega]
      exact ih
  exact h
theorem eqEdges {xs : List S111} (hx : xs.length ≤ 1048576) : W (fun k => laws_eqEdgeS.f k xs xs) (· = true) := by
  unfold laws_eqEdgeS.f
  refine W.pos rfl ?_
  have one : ∀ a b c d e : Int, laws_eqEdge.f a b c d e a b c d e = some true := fun a b c d e => by simp [laws_eqEdge.f]
  have h : W (fun k => laws_eqEdgeS.l0 k xs xs ((0 : Nat) : Int)) (· = true) := by
    refine down_ind (Q := fun i => W (fun k => laws_eqEdgeS.l0 k xs xs (i : Int)) (· = true)) xs.length ?_ ?_
    · refine W.step (fun k => by simp only [laws_eqEdgeS.l0]; rfl) ?_
      exact W.neg (by omega) (W.ret rfl)
    · intro i hi ih
      refine W.step (fun k => by simp only [laws_eqEdgeS.l0]; rfl) ?_
      refine W.pos (by omega) (W.pos (by omega) (W.pos (by omega) ?_))
      refine W.bind (Q := (· = true)) (W.const (one _ _ _ _ _) rfl) ?_
      rintro _ rfl
      refine W.pos rfl ?_
      rw [wrap64_id (n := (i : Int) + 1) (by omega) (by omega), show (i : Int) + 1 = ((i + 1 : Nat) : Int) by omega]
      exact ih
  exact h
theorem eqFlow {a b : List Int} {c : List Bool} {d : List S111} (ha : a.length ≤ 1048576) (hb : b.length ≤ 1048576) (hc : c.length ≤ 1048576) (hd : d.length ≤ 1048576) : W (fun k => laws_eqFlow.f k a b c d a b c d) (· = true) := by
  unfold laws_eqFlow.f
  refine W.bind (eqInts ha) ?_
  rintro _ rfl
  refine W.pos rfl (W.bind (eqInts hb) ?_)
  rintro _ rfl
  refine W.pos rfl (W.bind (eqBools hc) ?_)
  rintro _ rfl
  refine W.pos rfl (W.bind (eqEdges hd) ?_)
  rintro _ rfl
  exact W.pos rfl (W.ret rfl)
theorem markBools {xs : List Bool} (hx : xs.length ≤ 1048576) (k0 : Int) (h0 : 0 ≤ k0) (h1 : k0 ≤ 900000000) : W (fun k => laws_markBoolS.f k xs k0) (fun r => r.1 = k0 + xs.length) := by
  unfold laws_markBoolS.f
  have h : ∀ ys : List Bool, ys.length = xs.length → W (fun k => laws_markBoolS.l0 k ys (k0 + ((0 : Nat) : Int)) ((0 : Nat) : Int)) (fun r => r.1 = k0 + xs.length) := by
    refine down_ind (Q := fun i => ∀ ys : List Bool, ys.length = xs.length → W (fun k => laws_markBoolS.l0 k ys (k0 + (i : Int)) (i : Int)) (fun r => r.1 = k0 + xs.length)) xs.length ?_ ?_
    · intro ys hl
      refine W.step (fun k => by simp only [laws_markBoolS.l0]; rfl) ?_
      exact W.neg (by omega) (W.ret rfl)
    · intro i hi ih ys hl
      refine W.step (fun k => by simp only [laws_markBoolS.l0]; rfl) ?_
      refine W.pos (by omega) (W.pos (by omega) ?_)
      rw [wrap64_id (n := k0 + (i : Int) + 1) (by omega) (by omega), wrap64_id (n := (i : Int) + 1) (by omega) (by omega), show k0 + (i : Int) + 1 = k0 + ((i + 1 : Nat) : Int) by omega, show (i : Int) + 1 = ((i + 1 : Nat) : Int) by omega]
      exact ih _ (by simp [hl])
  have := h xs rfl
  simpa using this
theorem markEdges {xs : List S111} (hx : xs.length ≤ 1048576) (k0 : Int) (h0 : 0 ≤ k0) (h1 : k0 ≤ 900000000) : W (fun k => laws_markEdgeS.f k xs k0) (fun r => r.1 = k0 + 5 * (xs.length : Int)) := by
  unfold laws_markEdgeS.f
  have h : ∀ ys : List S111, ys.length = xs.length → W (fun k => laws_markEdgeS.l0 k ys (k0 + 5 * ((0 : Nat) : Int)) ((0 : Nat) : Int)) (fun r => r.1 = k0 + 5 * (xs.length : Int)) := by
    refine down_ind (Q := fun i => ∀ ys : List S111, ys.length = xs.length → W (fun k => laws_markEdgeS.l0 k ys (k0 + 5 * (i : Int)) (i : Int)) (fun r => r.1 = k0 + 5 * (xs.length : Int))) xs.length ?_ ?_
    · intro ys hl
      refine W.step (fun k => by simp only [laws_markEdgeS.l0]; rfl) ?_
      exact W.neg (by omega) (W.ret rfl)
    · intro i hi ih ys hl
      refine W.step (fun k => by simp only [laws_markEdgeS.l0, Option.bind_some]; rfl) ?_
      refine W.pos (by omega) (W.pos (by omega) ?_)
      have e1 : wrap64 (k0 + 5 * (i : Int) + 1) = k0 + 5 * (i : Int) + 1 := wrap64_id (by omega) (by omega)
      have e2 : wrap64 (k0 + 5 * (i : Int) + 1 + 1) = k0 + 5 * (i : Int) + 2 := by rw [wrap64_id (by omega) (by omega)]; omega
      have e3 : wrap64 (k0 + 5 * (i : Int) + 2 + 1) = k0 + 5 * (i : Int) + 3 := by rw [wrap64_id (by omega) (by omega)]; omega
      have e4 : wrap64 (k0 + 5 * (i : Int) + 3 + 1) = k0 + 5 * (i : Int) + 4 := by rw [wrap64_id (by omega) (by omega)]; omega
      have e5 : wrap64 (k0 + 5 * (i : Int) + 4 + 1) = k0 + 5 * ((i + 1 : Nat) : Int) := by rw [wrap64_id (by omega) (by omega)]; omega
      have e6 : wrap64 ((i : Int) + 1) = ((i + 1 : Nat) : Int) := by rw [wrap64_id (by omega) (by omega)]; omega
      rw [e1, e2, e3, e4, e5, e6]
      exact ih _ (by simp [hl])
  have := h xs rfl
  simpa using this
theorem markFlow {a b : List Int} {c : List Bool} {d : List S111} (ha : a.length ≤ 1048576) (hb : b.length ≤ 1048576) (hc : c.length ≤ 1048576) (hd : d.length ≤ 1048576) : W (fun k => laws_markFlow.f k a b c d 1) (fun r => 0 ≤ r.1) := by
  unfold laws_markFlow.f
  refine W.bind (marks (by omega) 1 (by omega) (by omega)) ?_
  rintro _ rfl
  refine W.bind (marks (by omega) (1 + (a.length : Int)) (by omega) (by omega)) ?_
  rintro _ rfl
  refine W.bind (markBools hc (1 + (a.length : Int) + b.length) (by omega) (by omega)) ?_
  intro r hr
  refine W.bind (markEdges hd r.1 (by omega) (by omega)) ?_
  intro q hq
  exact W.ret (show 0 ≤ q.1 by omega)
/-- The places of the edges that leave a, counted from i. -/
def outF (a : Int) : List S111 → Int → List Int
  | [], _ => []
  | e :: es, i => if e.f0 = a then i :: outF a es (i + 1) else outF a es (i + 1)
theorem outF_len (a : Int) : ∀ (es : List S111) (i : Int), (outF a es i).length ≤ es.length
  | [], _ => Nat.le_refl _
  | e :: es, i => by
    have := outF_len a es (i + 1)
    unfold outF
    split
    · simp only [List.length_cons]; omega
    · simp only [List.length_cons]; omega
theorem sOut (a : Int) (x0 x1 : List Int) (x2 : List Bool) {es : List S111} (hx : es.length ≤ 1048576) : W (fun k => spec_FlowOut.f k x0 x1 x2 es a) (· = outF a es 0) := by
  unfold spec_FlowOut.f
  have h : ∀ ys : List Int, ys.length ≤ 0 → W (fun k => spec_FlowOut.l0 k a ys ((0 : Nat) : Int) x0 x1 x2 es) (· = ys ++ outF a (es.drop 0) ((0 : Nat) : Int)) := by
    refine down_ind (Q := fun i => ∀ ys : List Int, ys.length ≤ i → W (fun k => spec_FlowOut.l0 k a ys (i : Int) x0 x1 x2 es) (· = ys ++ outF a (es.drop i) (i : Int))) es.length ?_ ?_
    · intro ys hl
      refine W.step (fun k => by simp only [spec_FlowOut.l0]; rfl) ?_
      refine W.neg (by omega) (W.ret ?_)
      rw [List.drop_length]; simp [outF]
    · intro i hi ih ys hl
      refine W.step (fun k => by simp only [spec_FlowOut.l0]; rfl) ?_
      refine W.pos (by omega) (W.pos (by omega) ?_)
      rw [rd111 hi, wrap64_id (n := (i : Int) + 1) (by omega) (by omega), List.drop_eq_getElem_cons hi]
      have e : (i : Int) + 1 = ((i + 1 : Nat) : Int) := by omega
      refine W.ite (fun h1 => ?_) (fun h1 => ?_)
      · refine W.pos (by omega) ?_
        have := ih (ys ++ [(i : Int)]) (by simp; omega)
        unfold outF
        rw [if_pos h1, e]
        simpa using this
      · have := ih ys (by omega)
        unfold outF
        rw [if_neg h1, e]
        exact this
  have := h [] (Nat.le_refl _)
  simpa using this
theorem iOut (a : Int) (x0 x1 : List Int) (x2 : List Bool) {es : List S111} (hx : es.length ≤ 1048576) : W (fun k => impl_FlowOut.f k x0 x1 x2 es a) (· = outF a es 0) := by
  unfold impl_FlowOut.f
  have h : ∀ ys : List Int, ys.length ≤ 0 → W (fun k => impl_FlowOut.l0 k a ys es (es.length : Int) ((0 : Nat) : Int)) (· = ys ++ outF a (es.drop 0) ((0 : Nat) : Int)) := by
    refine down_ind (Q := fun i => ∀ ys : List Int, ys.length ≤ i → W (fun k => impl_FlowOut.l0 k a ys es (es.length : Int) (i : Int)) (· = ys ++ outF a (es.drop i) (i : Int))) es.length ?_ ?_
    · intro ys hl
      refine W.step (fun k => by simp only [impl_FlowOut.l0]; rfl) ?_
      refine W.neg (by omega) (W.ret ?_)
      rw [List.drop_length]; simp [outF]
    · intro i hi ih ys hl
      refine W.step (fun k => by simp only [impl_FlowOut.l0]; rfl) ?_
      refine W.pos (by omega) (W.pos (by omega) (W.pos (by omega) ?_))
      rw [rd111 hi, wrap64_id (n := (i : Int) + 1) (by omega) (by omega), List.drop_eq_getElem_cons hi]
      have e : (i : Int) + 1 = ((i + 1 : Nat) : Int) := by omega
      refine W.ite (fun h1 => ?_) (fun h1 => ?_)
      · refine W.pos (by omega) ?_
        have := ih (ys ++ [(i : Int)]) (by simp; omega)
        unfold outF
        rw [if_pos h1, e]
        simpa using this
      · have := ih ys (by omega)
        unfold outF
        rw [if_neg h1, e]
        exact this
  have := h [] (Nat.le_refl _)
  simpa using this
theorem szOne (n : Nat) (left : Int) (h0 : 0 ≤ left) (h1 : left ≤ 1048576) (hm : n ≤ 9223372036854775807) : (if wrap64 (left - (n : Int)) < 0 then some (-1) else some (wrap64 (left - (n : Int)))) = some (if left - (n : Int) < 0 then -1 else left - (n : Int)) := by
  rw [wrap64_id (n := left - (n : Int)) (by omega) (by omega)]
  split <;> rfl
theorem FnExactFlowOut {Q0 Q1 Q2 Q3 : Prop} (a b : List Int) (c : List Bool) (d : List S140) (n : Int) (ha : a.length ≤ maxLen) (_ : Q0) (hb : b.length ≤ maxLen) (_ : Q1) (hc : c.length ≤ maxLen) (_ : Q2) (hd : d.length ≤ maxLen) (_ : Q3) (_ : (Lit.int .i64 n).wf = true) : ∃ k, laws_FnExactFlowOut.f k a b c d n = some true := by
  unfold maxLen at ha hb hc hd
  apply W.eq
  unfold laws_FnExactFlowOut.f
  have hz : ∃ t, laws_szFlow.f a b c d 1048576 = some t ∧ (0 ≤ t → a.length ≤ 1048576 ∧ b.length ≤ 1048576 ∧ c.length ≤ 1048576 ∧ d.length ≤ 1048576) := by
    unfold laws_szFlow.f laws_szIntS.f laws_szBoolS.f laws_szEdgeS.f
    rw [szOne a.length 1048576 (by omega) (by omega) ha]
    simp only [Option.bind_some]
    by_cases h1 : (1048576 : Int) - a.length < 0
    · rw [if_pos (show (if (1048576 : Int) - a.length < 0 then (-1 : Int) else 1048576 - a.length) < 0 by rw [if_pos h1]; omega)]
      exact ⟨_, rfl, fun h => by omega⟩
    rw [if_neg h1, if_neg h1, szOne b.length _ (by omega) (by omega) hb]
    simp only [Option.bind_some]
    by_cases h2 : (1048576 : Int) - a.length - b.length < 0
    · rw [if_pos (show (if (1048576 : Int) - a.length - b.length < 0 then (-1 : Int) else 1048576 - a.length - b.length) < 0 by rw [if_pos h2]; omega)]
      exact ⟨_, rfl, fun h => by omega⟩
    rw [if_neg h2, if_neg h2, szOne c.length _ (by omega) (by omega) hc]
    simp only [Option.bind_some]
    by_cases h3 : (1048576 : Int) - a.length - b.length - c.length < 0
    · rw [if_pos (show (if (1048576 : Int) - a.length - b.length - c.length < 0 then (-1 : Int) else 1048576 - a.length - b.length - c.length) < 0 by rw [if_pos h3]; omega)]
      exact ⟨_, rfl, fun h => by omega⟩
    rw [if_neg h3, if_neg h3, szOne d.length _ (by omega) (by omega) hd]
    simp only [Option.bind_some]
    by_cases h4 : (1048576 : Int) - a.length - b.length - c.length - d.length < 0
    · rw [if_pos (show (if (1048576 : Int) - a.length - b.length - c.length - d.length < 0 then (-1 : Int) else 1048576 - a.length - b.length - c.length - d.length) < 0 by rw [if_pos h4]; omega)]
      exact ⟨_, rfl, fun h => by omega⟩
    rw [if_neg h4, if_neg h4]
    exact ⟨_, rfl, fun h => by omega⟩
  obtain ⟨t, et, ht⟩ := hz
  rw [et]
  simp only [Option.bind_some]
  refine W.ite (fun _ => W.ret rfl) (fun h0 => ?_)
  obtain ⟨za, zb, zc, zd⟩ := ht (by omega)
  have ze : (d.map edge).length ≤ 1048576 := by simpa using zd
  have zo : (outF n (d.map edge) 0).length ≤ 1048576 := Nat.le_trans (outF_len _ _ _) ze
  refine W.bind (toFlow za zb zc zd) ?_
  rintro _ rfl
  refine W.bind (sOut n a b c ze) ?_
  rintro _ rfl
  refine W.bind (toFlow za zb zc zd) ?_
  rintro _ rfl
  refine W.bind (iOut n a b c ze) ?_
  rintro _ rfl
  refine W.bind (eqInts zo) ?_
  rintro _ rfl
  refine W.pos rfl ?_
  refine W.bind (toFlow za zb zc zd) ?_
  rintro _ rfl
  refine W.bind (eqFlow za zb zc ze) ?_
  rintro _ rfl
  refine W.pos rfl ?_
  refine W.bind (markFlow za zb zc ze) ?_
  intro r hr
  refine W.neg (by omega) ?_
  refine W.bind (eqInts zo) ?_
  rintro _ rfl
  refine W.step (fun k => by simp only [laws_FnExactFlowOut.j0]; rfl) ?_
  refine W.neg (by decide) ?_
  refine W.bind (marks (by omega) 1 (by omega) (by omega)) ?_
  rintro _ rfl
  refine W.bind (helds (n := (outF n (d.map edge) 0).length) (by omega) 1 (by omega) (by omega)) ?_
  rintro _ rfl
  refine W.neg (by omega) (W.pos rfl ?_)
  refine W.bind (toFlow za zb zc zd) ?_
  rintro _ rfl
  refine W.bind (iOut n a b c ze) ?_
  rintro _ rfl
  refine W.bind (eqInts zo) ?_
  rintro _ rfl
  refine W.pos rfl ?_
  refine W.bind (helds (n := (outF n (d.map edge) 0).length) (by omega) 1 (by omega) (by omega)) ?_
  rintro _ rfl
  exact W.neg (by omega) (W.pos rfl (W.ret rfl))

end Go.Proofs.Ytnmccgjdnceheaa.Pure
