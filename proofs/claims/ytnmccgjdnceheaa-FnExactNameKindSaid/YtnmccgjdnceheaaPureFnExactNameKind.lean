/- The pure statement of the law FnExactNameKind: for every input the printed function answers true. -/
import Derived.Test.YtnmccgjdnceheaaPFnExactNameKindx0
import Derived.Test.YtnmccgjdnceheaaPFnExactNameKindx1
import Derived.Test.YtnmccgjdnceheaaPFnExactNameKindx2
import Derived.Test.YtnmccgjdnceheaaPFnExactNameKindx3
import Derived.Test.YtnmccgjdnceheaaPFnExactNameKindx4
import Derived.Test.YtnmccgjdnceheaaPFnExactNameKindx5
import Derived.Test.YtnmccgjdnceheaaPFnExactNameKindx6
import Derived.Test.YtnmccgjdnceheaaPFnExactNameKindx7
import Derived.Test.YtnmccgjdnceheaaLib
namespace Go.Proofs.Ytnmccgjdnceheaa.Pure
open Go Go.RowKit Go.Proofs.Ytnmccgjdnceheaa.PFnExactNameKind Go.Proofs.YtnmccgjdnceheaaW.PrintWords Go.Proofs.YtnmccgjdnceheaaW.PrintLast Go.Proofs.YtnmccgjdnceheaaW.PrintMore Go.Proofs.Ytnmccgjdnceheaa.Lib
set_option linter.unusedVariables false
set_option linter.unusedSimpArgs false

-- parts:
/-! ### names and what they stand for -/
def arr (x : S143) : S128 := ⟨x.f0, x.f1⟩
def fn (x : S145) : S123 := ⟨x.f0, x.f1, x.f2, x.f3, x.f4⟩
theorem rd143 {xs : List S143} {i : Nat} (h : i < xs.length) : rd_T143 xs (i : Int) = xs[i] := by simp [rd_T143, List.getD_eq_getElem?_getD, List.getElem?_eq_getElem h]
theorem rd128 {xs : List S128} {i : Nat} (h : i < xs.length) : rd_T128 xs (i : Int) = xs[i] := by simp [rd_T128, List.getD_eq_getElem?_getD, List.getElem?_eq_getElem h]
theorem rd145 {xs : List S145} {i : Nat} (h : i < xs.length) : rd_T145 xs (i : Int) = xs[i] := by simp [rd_T145, List.getD_eq_getElem?_getD, List.getElem?_eq_getElem h]
theorem rd123 {xs : List S123} {i : Nat} (h : i < xs.length) : rd_T123 xs (i : Int) = xs[i] := by simp [rd_T123, List.getD_eq_getElem?_getD, List.getElem?_eq_getElem h]
theorem rdS {xs : List ByteArray} {i : Nat} (h : i < xs.length) : rdOf ByteArray.empty xs (i : Int) = xs[i] := by simp [rdOf, List.getD_eq_getElem?_getD, List.getElem?_eq_getElem h]
theorem next {i n : Nat} (h : i < n) (hn : n ≤ 1048576) : wrap64 ((i : Int) + 1) = ((i + 1 : Nat) : Int) := by rw [wrap64_id (by omega) (by omega)]; omega
/-! #### what they weigh -/
theorem szStrings {xs : List ByteArray} (hl : xs.length ≤ maxLen) (hs : ∀ y ∈ xs, y.size ≤ maxLen) (left : Int) (h0 : 0 ≤ left) (h1 : left ≤ 1048576) : W (fun k => laws_szStringS.f k xs left) (fun r => -1 ≤ r ∧ r ≤ left ∧ (0 ≤ r → xs.length ≤ 1048576)) := by
  unfold maxLen at hl hs
  unfold laws_szStringS.f
  rw [wrap64_id (n := left - (xs.length : Int)) (by omega) (by omega)]
  refine W.ite (fun _ => W.ret ⟨by omega, by omega, fun h => by omega⟩) (fun h2 => ?_)
  have h : ∀ l : Int, 0 ≤ l → l ≤ left → W (fun k => laws_szStringS.l0 k xs l ((0 : Nat) : Int)) (fun r => -1 ≤ r ∧ r ≤ left ∧ (0 ≤ r → xs.length ≤ 1048576)) := by
    refine down_ind (Q := fun i => ∀ l : Int, 0 ≤ l → l ≤ left → W (fun k => laws_szStringS.l0 k xs l (i : Int)) (fun r => -1 ≤ r ∧ r ≤ left ∧ (0 ≤ r → xs.length ≤ 1048576))) xs.length ?_ ?_
    · intro l a b
      refine W.step (fun k => by simp only [laws_szStringS.l0]; rfl) ?_
      exact W.neg (by omega) (W.ret ⟨by omega, by omega, fun _ => by omega⟩)
    · intro i hi ih l a b
      have hz := hs xs[i] (List.getElem_mem hi)
      refine W.step (fun k => by simp only [laws_szStringS.l0]; rfl) ?_
      refine W.pos (by omega) (W.pos (by omega) ?_)
      rw [rdS hi, next hi (by omega), wrap64_id (n := l - (xs[i].size : Int)) (by omega) (by omega)]
      refine W.ite (fun _ => W.ret ⟨by omega, by omega, fun h => by omega⟩) (fun h3 => ?_)
      exact ih _ (by omega) (by omega)
  exact h _ (by omega) (by omega)
theorem szArray {a : ByteArray} (ha : a.size ≤ maxLen) (b : Int) (left : Int) (h0 : 0 ≤ left) (h1 : left ≤ 1048576) : laws_szArray.f a b left = some (if left - (a.size : Int) < 0 then -1 else left - a.size) := by
  unfold maxLen at ha
  unfold laws_szArray.f
  rw [wrap64_id (n := left - (a.size : Int)) (by omega) (by omega)]
  split <;> rfl
theorem szArrays {xs : List S143} (hl : xs.length ≤ maxLen) (hs : ∀ y ∈ xs, y.f0.size ≤ maxLen ∧ True) (left : Int) (h0 : 0 ≤ left) (h1 : left ≤ 1048576) : W (fun k => laws_szArrayS.f k xs left) (fun r => -1 ≤ r ∧ r ≤ left ∧ (0 ≤ r → xs.length ≤ 1048576)) := by
  unfold laws_szArrayS.f
  have hl2 : xs.length ≤ 9223372036854775807 := hl
  rw [wrap64_id (n := left - (xs.length : Int)) (by omega) (by omega)]
  refine W.ite (fun _ => W.ret ⟨by omega, by omega, fun h => by omega⟩) (fun h2 => ?_)
  have h : ∀ l : Int, 0 ≤ l → l ≤ left → W (fun k => laws_szArrayS.l0 k xs l ((0 : Nat) : Int)) (fun r => -1 ≤ r ∧ r ≤ left ∧ (0 ≤ r → xs.length ≤ 1048576)) := by
    refine down_ind (Q := fun i => ∀ l : Int, 0 ≤ l → l ≤ left → W (fun k => laws_szArrayS.l0 k xs l (i : Int)) (fun r => -1 ≤ r ∧ r ≤ left ∧ (0 ≤ r → xs.length ≤ 1048576))) xs.length ?_ ?_
    · intro l a b
      refine W.step (fun k => by simp only [laws_szArrayS.l0]; rfl) ?_
      exact W.neg (by omega) (W.ret ⟨by omega, by omega, fun _ => by omega⟩)
    · intro i hi ih l a b
      have hz := (hs xs[i] (List.getElem_mem hi)).1
      refine W.step (fun k => by simp only [laws_szArrayS.l0]; rfl) ?_
      refine W.pos (by omega) (W.pos (by omega) ?_)
      rw [rd143 hi, next hi (by omega), szArray hz _ l a (by omega)]
      simp only [Option.bind_some]
      by_cases h3 : l - (xs[i].f0.size : Int) < 0
      · rw [if_pos h3]
        exact W.pos (by omega) (W.ret ⟨by omega, by omega, fun h => by omega⟩)
      · rw [if_neg h3]
        exact W.neg h3 (ih _ (by omega) (by omega))
  exact h _ (by omega) (by omega)
def sized (x : S145) : Prop := x.f0.size ≤ maxLen ∧ x.f2.length ≤ maxLen ∧ (∀ y ∈ x.f2, y.size ≤ maxLen) ∧ x.f3.length ≤ maxLen ∧ (∀ y ∈ x.f3, y.size ≤ maxLen) ∧ True
def small (x : S145) : Prop := x.f2.length ≤ 1048576 ∧ x.f3.length ≤ 1048576
theorem szFunc {x : S145} (hx : sized x) (left : Int) (h0 : 0 ≤ left) (h1 : left ≤ 1048576) : W (fun k => laws_szFunc.f k x.f0 x.f1 x.f2 x.f3 x.f4 left) (fun r => -1 ≤ r ∧ r ≤ left ∧ (0 ≤ r → small x)) := by
  obtain ⟨z0, z2, t2, z3, t3, _⟩ := hx
  have z0' : x.f0.size ≤ 9223372036854775807 := z0
  unfold laws_szFunc.f
  rw [wrap64_id (n := left - (x.f0.size : Int)) (by omega) (by omega)]
  refine W.ite (fun _ => W.ret ⟨by omega, by omega, fun h => by omega⟩) (fun h2 => ?_)
  refine W.bind (szStrings z2 t2 (left - (x.f0.size : Int)) (by omega) (by omega)) ?_
  rintro r ⟨ra, rb, rc⟩
  refine W.ite (fun _ => W.ret ⟨by omega, by omega, fun h => by omega⟩) (fun h3 => ?_)
  refine W.bind (szStrings z3 t3 r (by omega) (by omega)) ?_
  rintro q ⟨qa, qb, qc⟩
  refine W.ite (fun _ => W.ret ⟨by omega, by omega, fun h => by omega⟩) (fun h4 => ?_)
  exact W.ret ⟨by omega, by omega, fun _ => ⟨rc (by omega), qc (by omega)⟩⟩
theorem szFuncs {xs : List S145} (hl : xs.length ≤ maxLen) (hs : ∀ y ∈ xs, sized y) (left : Int) (h0 : 0 ≤ left) (h1 : left ≤ 1048576) : W (fun k => laws_szFuncS.f k xs left) (fun r => -1 ≤ r ∧ r ≤ left ∧ (0 ≤ r → xs.length ≤ 1048576 ∧ ∀ y ∈ xs, small y)) := by
  unfold laws_szFuncS.f
  have hl2 : xs.length ≤ 9223372036854775807 := hl
  rw [wrap64_id (n := left - (xs.length : Int)) (by omega) (by omega)]
  refine W.ite (fun _ => W.ret ⟨by omega, by omega, fun h => by omega⟩) (fun h2 => ?_)
  have h : ∀ l : Int, 0 ≤ l → l ≤ left → W (fun k => laws_szFuncS.l0 k xs l ((0 : Nat) : Int)) (fun r => -1 ≤ r ∧ r ≤ left ∧ (0 ≤ r → ∀ y ∈ xs.drop 0, small y)) := by
    refine down_ind (Q := fun i => ∀ l : Int, 0 ≤ l → l ≤ left → W (fun k => laws_szFuncS.l0 k xs l (i : Int)) (fun r => -1 ≤ r ∧ r ≤ left ∧ (0 ≤ r → ∀ y ∈ xs.drop i, small y))) xs.length ?_ ?_
    · intro l a b
      refine W.step (fun k => by simp only [laws_szFuncS.l0]; rfl) ?_
      exact W.neg (by omega) (W.ret ⟨by omega, by omega, fun _ => by simp⟩)
    · intro i hi ih l a b
      refine W.step (fun k => by simp only [laws_szFuncS.l0]; rfl) ?_
      refine W.pos (by omega) (W.pos (by omega) ?_)
      rw [rd145 hi, next hi (by omega)]
      refine W.bind (szFunc (hs xs[i] (List.getElem_mem hi)) l a (by omega)) ?_
      rintro r ⟨ra, rb, rc⟩
      refine W.ite (fun _ => W.ret ⟨by omega, by omega, fun h => by omega⟩) (fun h3 => ?_)
      refine (ih r (by omega) (by omega)).mono ?_
      rintro q ⟨qa, qb, qc⟩
      refine ⟨qa, qb, fun h => ?_⟩
      rw [List.drop_eq_getElem_cons hi]
      intro y hy
      rcases List.mem_cons.mp hy with rfl | hy
      · exact rc (by omega)
      · exact qc h y hy
  refine (h _ (by omega) (by omega)).mono ?_
  rintro r ⟨ra, rb, rc⟩
  exact ⟨ra, by omega, fun h => ⟨by omega, by simpa using rc h⟩⟩
theorem szTable {a : List S143} {b : List ByteArray} {c : List S145} (ha : a.length ≤ maxLen) (qa : ∀ y ∈ a, y.f0.size ≤ maxLen ∧ True) (hb : b.length ≤ maxLen) (qb : ∀ y ∈ b, y.size ≤ maxLen) (hc : c.length ≤ maxLen) (qc : ∀ y ∈ c, sized y) : W (fun k => laws_szTable.f k a b c 1048576) (fun r => 0 ≤ r → a.length ≤ 1048576 ∧ b.length ≤ 1048576 ∧ c.length ≤ 1048576 ∧ ∀ y ∈ c, small y) := by
  unfold laws_szTable.f
  refine W.bind (szArrays ha qa 1048576 (by omega) (by omega)) ?_
  rintro r ⟨ra, rb, rc⟩
  refine W.ite (fun _ => W.ret (fun h => by omega)) (fun h3 => ?_)
  refine W.bind (szStrings hb qb r (by omega) (by omega)) ?_
  rintro s ⟨sa, sb, sc⟩
  refine W.ite (fun _ => W.ret (fun h => by omega)) (fun h3 => ?_)
  refine W.bind (szFuncs hc qc s (by omega) (by omega)) ?_
  rintro t ⟨ta, tb, tc⟩
  refine W.ite (fun _ => W.ret (fun h => by omega)) (fun h3 => ?_)
  exact W.ret (fun h => ⟨rc (by omega), sc (by omega), tc (by omega)⟩)
/-! #### taken over, and held against each other -/
theorem toStrings {xs : List ByteArray} (hx : xs.length ≤ 1048576) : W (fun k => laws_toStringS.f k xs) (· = xs) := by
  unfold laws_toStringS.f
  refine W.pos (by omega) (W.pos (by omega) ?_)
  rw [Int.toNat_natCast]
  have h : W (fun k => laws_toStringS.l0 k xs (List.replicate xs.length (⟨#[]⟩ : ByteArray)) 0) (· = xs.map id) := by
    refine copyL id xs (g := fun k ys i => laws_toStringS.l0 k xs ys i) (fun ys hl => ?_) (fun i hi ys hl P hP => ?_)
    · refine W.step (fun k => by simp only [laws_toStringS.l0]; rfl) ?_
      exact W.neg (by omega) (W.ret rfl)
    · refine W.step (fun k => by simp only [laws_toStringS.l0]; rfl) ?_
      refine W.pos (by omega) (W.pos (by omega) (W.pos (by omega) ?_))
      rw [rdS hi, next hi hx, Int.toNat_natCast]
      exact hP
  simpa using h
theorem toArrays {xs : List S143} (hx : xs.length ≤ 1048576) : W (fun k => laws_toArrayS.f k xs) (· = xs.map arr) := by
  unfold laws_toArrayS.f
  refine W.pos (by omega) (W.pos (by omega) ?_)
  rw [Int.toNat_natCast]
  refine copyL arr xs (g := fun k ys i => laws_toArrayS.l0 k xs ys i) (fun ys hl => ?_) (fun i hi ys hl P hP => ?_)
  · refine W.step (fun k => by simp only [laws_toArrayS.l0]; rfl) ?_
    exact W.neg (by omega) (W.ret rfl)
  · refine W.step (fun k => by simp only [laws_toArrayS.l0, laws_toArray.f, Option.bind_some]; rfl) ?_
    refine W.pos (by omega) (W.pos (by omega) (W.pos (by omega) ?_))
    rw [rd143 hi, next hi hx, Int.toNat_natCast]
    exact hP
theorem toFunc {x : S145} (hx : small x) : W (fun k => laws_toFunc.f k x.f0 x.f1 x.f2 x.f3 x.f4) (· = (x.f0, x.f1, x.f2, x.f3, x.f4)) := by
  unfold laws_toFunc.f
  refine W.bind (toStrings hx.1) ?_
  rintro _ rfl
  refine W.bind (toStrings hx.2) ?_
  rintro _ rfl
  exact W.ret rfl
theorem toFuncs {xs : List S145} (hx : xs.length ≤ 1048576) (hs : ∀ y ∈ xs, small y) : W (fun k => laws_toFuncS.f k xs) (· = xs.map fn) := by
  unfold laws_toFuncS.f
  refine W.pos (by omega) (W.pos (by omega) ?_)
  rw [Int.toNat_natCast]
  refine copyL fn xs (g := fun k ys i => laws_toFuncS.l0 k xs ys i) (fun ys hl => ?_) (fun i hi ys hl P hP => ?_)
  · refine W.step (fun k => by simp only [laws_toFuncS.l0]; rfl) ?_
    exact W.neg (by omega) (W.ret rfl)
  · refine W.step (fun k => by simp only [laws_toFuncS.l0]; rfl) ?_
    refine W.pos (by omega) (W.pos (by omega) ?_)
    rw [rd145 hi, next hi hx, Int.toNat_natCast]
    refine W.bind (toFunc (hs xs[i] (List.getElem_mem hi))) ?_
    rintro _ rfl
    exact W.pos (by omega) hP
theorem toTable {a : List S143} {b : List ByteArray} {c : List S145} (ha : a.length ≤ 1048576) (hb : b.length ≤ 1048576) (hc : c.length ≤ 1048576) (qc : ∀ y ∈ c, small y) : W (fun k => laws_toTable.f k a b c) (· = (a.map arr, b, c.map fn)) := by
  unfold laws_toTable.f
  refine W.bind (toArrays ha) ?_
  rintro _ rfl
  refine W.bind (toStrings hb) ?_
  rintro _ rfl
  refine W.bind (toFuncs hc qc) ?_
  rintro _ rfl
  exact W.ret rfl
theorem eqStrings {xs : List ByteArray} (hx : xs.length ≤ 1048576) : W (fun k => laws_eqStringS.f k xs xs) (· = true) := by
  unfold laws_eqStringS.f
  refine W.pos rfl ?_
  have h : W (fun k => laws_eqStringS.l0 k xs xs ((0 : Nat) : Int)) (· = true) := by
    refine down_ind (Q := fun i => W (fun k => laws_eqStringS.l0 k xs xs (i : Int)) (· = true)) xs.length ?_ ?_
    · refine W.step (fun k => by simp only [laws_eqStringS.l0]; rfl) ?_
      exact W.neg (by omega) (W.ret rfl)
    · intro i hi ih
      refine W.step (fun k => by simp only [laws_eqStringS.l0]; rfl) ?_
      refine W.pos (by omega) (W.pos (by omega) (W.pos (by omega) (W.pos True.intro ?_)))
      rw [next hi hx]
      exact ih
  exact h
theorem eqArrays {xs : List S128} (hx : xs.length ≤ 1048576) : W (fun k => laws_eqArrayS.f k xs xs) (· = true) := by
  unfold laws_eqArrayS.f
  refine W.pos rfl ?_
  have one : ∀ (a : ByteArray) (b : Int), laws_eqArray.f a b a b = some true := fun a b => by simp [laws_eqArray.f]
  have h : W (fun k => laws_eqArrayS.l0 k xs xs ((0 : Nat) : Int)) (· = true) := by
    refine down_ind (Q := fun i => W (fun k => laws_eqArrayS.l0 k xs xs (i : Int)) (· = true)) xs.length ?_ ?_
    · refine W.step (fun k => by simp only [laws_eqArrayS.l0]; rfl) ?_
      exact W.neg (by omega) (W.ret rfl)
    · intro i hi ih
      refine W.step (fun k => by simp only [laws_eqArrayS.l0]; rfl) ?_
      refine W.pos (by omega) (W.pos (by omega) (W.pos (by omega) ?_))
      refine W.bind (Q := (· = true)) (W.const (one _ _) rfl) ?_
      rintro _ rfl
      rw [next hi hx]
      exact W.pos rfl ih
  exact h
def smallF (x : S123) : Prop := x.f2.length ≤ 1048576 ∧ x.f3.length ≤ 1048576
theorem eqFuncs {xs : List S123} (hx : xs.length ≤ 1048576) (hs : ∀ y ∈ xs, smallF y) : W (fun k => laws_eqFuncS.f k xs xs) (· = true) := by
  unfold laws_eqFuncS.f
  refine W.pos rfl ?_
  have one : ∀ x : S123, smallF x → W (fun k => laws_eqFunc.f k x.f0 x.f1 x.f2 x.f3 x.f4 x.f0 x.f1 x.f2 x.f3 x.f4) (· = true) := by
    intro x hx
    unfold laws_eqFunc.f
    refine W.pos rfl (W.pos rfl (W.bind (eqStrings hx.1) ?_))
    rintro _ rfl
    refine W.pos rfl (W.bind (eqStrings hx.2) ?_)
    rintro _ rfl
    exact W.pos rfl (W.pos rfl (W.ret rfl))
  have h : W (fun k => laws_eqFuncS.l0 k xs xs ((0 : Nat) : Int)) (· = true) := by
    refine down_ind (Q := fun i => W (fun k => laws_eqFuncS.l0 k xs xs (i : Int)) (· = true)) xs.length ?_ ?_
    · refine W.step (fun k => by simp only [laws_eqFuncS.l0]; rfl) ?_
      exact W.neg (by omega) (W.ret rfl)
    · intro i hi ih
      refine W.step (fun k => by simp only [laws_eqFuncS.l0]; rfl) ?_
      refine W.pos (by omega) (W.pos (by omega) (W.pos (by omega) ?_))
      rw [rd123 hi, next hi hx]
      refine W.bind (one xs[i] (hs _ (List.getElem_mem hi))) ?_
      rintro _ rfl
      exact W.pos rfl ih
  exact h
/-! #### the first place of a name -/
theorem placeK {α β : Type} (p : α → Bool) (xs : List α) {g : Nat → Int → Option β} {F : Int → β} {c : β}
    (hend : W (fun k => g k (xs.length : Int)) (· = c))
    (hstep : ∀ (i : Nat) (h : i < xs.length) (r : β), (p xs[i] = true → r = F i) → (p xs[i] ≠ true → W (fun k => g k ((i + 1 : Nat) : Int)) (· = r)) → W (fun k => g k (i : Int)) (· = r)) :
    W (fun k => g k ((0 : Nat) : Int)) (· = if 0 ≤ place p xs 0 then F (place p xs 0) else c) := by
  have h : W (fun k => g k ((0 : Nat) : Int)) (· = if 0 ≤ place p (xs.drop 0) ((0 : Nat) : Int) then F (place p (xs.drop 0) ((0 : Nat) : Int)) else c) := by
    refine down_ind (Q := fun i => W (fun k => g k (i : Int)) (· = if 0 ≤ place p (xs.drop i) (i : Int) then F (place p (xs.drop i) (i : Int)) else c)) xs.length ?_ ?_
    · rw [place_nil (Nat.le_refl _)]
      exact hend
    · intro i hi ih
      refine hstep i hi _ (fun h => ?_) (fun h => ?_)
      · rw [place_cons hi, if_pos h, if_pos (by omega)]
      · rw [place_cons hi, if_neg h]
        exact ih
  simpa using h
theorem place_fix {α : Type} (p : α → Bool) (xs : List α) : (if 0 ≤ place p xs 0 then place p xs 0 else -1) = place p xs 0 := by
  rcases place_bound (p := p) xs 0 with h | ⟨h, _⟩
  · rw [h]; rfl
  · rw [if_pos h]
def isT (x y : ByteArray) : Bool := decide (y.toList = x.toList)
def isA (x : ByteArray) (y : S128) : Bool := decide (y.f0.toList = x.toList)
def isF (x : ByteArray) (y : S123) : Bool := decide (y.f0.toList = x.toList)
theorem sTexts (x : ByteArray) {xs : List ByteArray} (hx : xs.length ≤ 1048576) : W (fun k => spec_l4Texts.f k xs x) (· = place (isT x) xs 0) := by
  rw [← place_fix]
  refine placeK (isT x) xs (g := fun k i => spec_l4Texts.l0 k xs x i) (F := fun i => i) ?_ (fun i hi r h1 h2 => ?_)
  · refine W.step (fun k => by simp only [spec_l4Texts.l0]; rfl) ?_
    exact W.neg (by omega) (W.ret rfl)
  · refine W.step (fun k => by simp only [spec_l4Texts.l0]; rfl) ?_
    refine W.pos (by omega) (W.pos (by omega) ?_)
    rw [rdS hi, next hi hx]
    exact W.ite (fun h => W.ret (h1 (decide_eq_true h)).symm) (fun h => h2 (fun hc => h (of_decide_eq_true hc)))
theorem iTexts (x : ByteArray) {xs : List ByteArray} (hx : xs.length ≤ 1048576) : W (fun k => impl_namePlace.f k xs x) (· = place (isT x) xs 0) := by
  rw [← place_fix]
  refine placeK (isT x) xs (g := fun k i => impl_namePlace.l0 k x xs (xs.length : Int) i) (F := fun i => i) ?_ (fun i hi r h1 h2 => ?_)
  · refine W.step (fun k => by simp only [impl_namePlace.l0]; rfl) ?_
    exact W.neg (by omega) (W.ret rfl)
  · refine W.step (fun k => by simp only [impl_namePlace.l0]; rfl) ?_
    refine W.pos (by omega) (W.pos (by omega) (W.pos (by omega) ?_))
    rw [rdS hi, next hi hx]
    exact W.ite (fun h => W.ret (h1 (decide_eq_true h)).symm) (fun h => h2 (fun hc => h (of_decide_eq_true hc)))
theorem sFunc (x : ByteArray) (a : List S128) (b : List ByteArray) {c : List S123} (hx : c.length ≤ 1048576) : W (fun k => spec_l4Func.f k a b c x) (· = place (isF x) c 0) := by
  rw [← place_fix]
  refine placeK (isF x) c (g := fun k i => spec_l4Func.l0 k x i a b c) (F := fun i => i) ?_ (fun i hi r h1 h2 => ?_)
  · refine W.step (fun k => by simp only [spec_l4Func.l0]; rfl) ?_
    exact W.neg (by omega) (W.ret rfl)
  · refine W.step (fun k => by simp only [spec_l4Func.l0]; rfl) ?_
    refine W.pos (by omega) (W.pos (by omega) ?_)
    rw [rd123 hi, next hi hx]
    exact W.ite (fun h => W.ret (h1 (decide_eq_true h)).symm) (fun h => h2 (fun hc => h (of_decide_eq_true hc)))
theorem sArray (x : ByteArray) {a : List S128} (b : List ByteArray) (c : List S123) (hx : a.length ≤ 1048576) : W (fun k => spec_l4Array.f k a b c x) (· = place (isA x) a 0) := by
  rw [← place_fix]
  refine placeK (isA x) a (g := fun k i => spec_l4Array.l0 k x i a b c) (F := fun i => i) ?_ (fun i hi r h1 h2 => ?_)
  · refine W.step (fun k => by simp only [spec_l4Array.l0]; rfl) ?_
    exact W.neg (by omega) (W.ret rfl)
  · refine W.step (fun k => by simp only [spec_l4Array.l0]; rfl) ?_
    refine W.pos (by omega) (W.pos (by omega) ?_)
    rw [rd128 hi, next hi hx]
    exact W.ite (fun h => W.ret (h1 (decide_eq_true h)).symm) (fun h => h2 (fun hc => h (of_decide_eq_true hc)))
/-- What a name stands for outside a function's own names. -/
def tailR (x : ByteArray) (a : List S128) (b : List ByteArray) (c : List S123) : Int × Int :=
  if 0 ≤ place (isA x) a 0 then (1, place (isA x) a 0) else if 0 ≤ place (isT x) b 0 then (2, place (isT x) b 0) else if 0 ≤ place (isF x) c 0 then (5, place (isF x) c 0) else (0, 0)
/-- What it stands for in the function at place i. -/
def funR (x : ByteArray) (a : List S128) (b : List ByteArray) (c : List S123) (i : Int) : Int × Int :=
  if 0 ≤ place (isT x) (rd_T123 c i).f2 0 then (3, place (isT x) (rd_T123 c i).f2 0) else if 0 ≤ place (isT x) (rd_T123 c i).f3 0 then (4, place (isT x) (rd_T123 c i).f3 0) else tailR x a b c
def kindR (f x : ByteArray) (a : List S128) (b : List ByteArray) (c : List S123) : Int × Int := if 0 ≤ place (isF f) c 0 then funR x a b c (place (isF f) c 0) else tailR x a b c
section
variable (x : ByteArray) {a : List S128} {b : List ByteArray} {c : List S123} (ha : a.length ≤ 1048576) (hb : b.length ≤ 1048576) (hc : c.length ≤ 1048576)
include ha hb hc
theorem sTail (t : Int) : W (fun k => spec_NameKind.j1 k x t false a b c) (· = tailR x a b c) := by
  refine W.step (fun k => by simp only [spec_NameKind.j1]; rfl) ?_
  refine W.neg (by decide) ?_
  unfold tailR
  refine W.bind (sArray x b c ha) ?_
  rintro _ rfl
  refine W.ite (fun h => ?_) (fun h => ?_)
  · rw [if_pos h]
    refine W.bind (sArray x b c ha) ?_
    rintro _ rfl
    exact W.ret rfl
  rw [if_neg h]
  refine W.bind (sTexts x hb) ?_
  rintro _ rfl
  refine W.ite (fun h => ?_) (fun h => ?_)
  · rw [if_pos h]
    refine W.bind (sTexts x hb) ?_
    rintro _ rfl
    exact W.ret rfl
  rw [if_neg h]
  refine W.bind (sFunc x a b hc) ?_
  rintro _ rfl
  refine W.ite (fun h => ?_) (fun h => ?_)
  · rw [if_pos h]
    refine W.bind (sFunc x a b hc) ?_
    rintro _ rfl
    exact W.ret rfl
  rw [if_neg h]
  exact W.ret rfl
theorem iTail : W (fun k => impl_NameKind.j1 k x a b c) (· = tailR x a b c) := by
  refine W.step (fun k => by simp only [impl_NameKind.j1]; rfl) ?_
  have h2 : W (fun k => impl_NameKind.l2 k x c (c.length : Int) ((0 : Nat) : Int)) (· = if 0 ≤ place (isF x) c 0 then (5, place (isF x) c 0) else (0, 0)) := by
    refine placeK (isF x) c (g := fun k i => impl_NameKind.l2 k x c (c.length : Int) i) (F := fun i => ((5 : Int), i)) ?_ (fun i hi r h1 h2 => ?_)
    · refine W.step (fun k => by simp only [impl_NameKind.l2]; rfl) ?_
      exact W.neg (by omega) (W.ret rfl)
    · refine W.step (fun k => by simp only [impl_NameKind.l2]; rfl) ?_
      refine W.pos (by omega) (W.pos (by omega) (W.pos (by omega) ?_))
      rw [rd123 hi, next hi hc]
      exact W.ite (fun h => W.ret (h1 (decide_eq_true h)).symm) (fun h => h2 (fun hc => h (of_decide_eq_true hc)))
  unfold tailR
  refine placeK (isA x) a (g := fun k i => impl_NameKind.l1 k x a (a.length : Int) i a b c) (F := fun i => ((1 : Int), i)) ?_ (fun i hi r h1 h2 => ?_)
  · refine W.step (fun k => by simp only [impl_NameKind.l1]; rfl) ?_
    refine W.neg (by omega) ?_
    refine W.bind (iTexts x hb) ?_
    rintro _ rfl
    refine W.ite (fun h => W.ret ?_) (fun h => ?_)
    · rw [if_pos h]
    · rw [if_neg h]; exact h2
  · refine W.step (fun k => by simp only [impl_NameKind.l1]; rfl) ?_
    refine W.pos (by omega) (W.pos (by omega) (W.pos (by omega) ?_))
    rw [rd128 hi, next hi ha]
    exact W.ite (fun h => W.ret (h1 (decide_eq_true h)).symm) (fun h => h2 (fun hc => h (of_decide_eq_true hc)))
variable (hs : ∀ y ∈ c, smallF y)
include hs
theorem sKind (f : ByteArray) : W (fun k => spec_NameKind.f k a b c f x) (· = kindR f x a b c) := by
  unfold spec_NameKind.f kindR
  refine W.bind (sFunc f a b hc) ?_
  rintro t ht
  rw [← ht]
  refine W.ite (fun h => ?_) (fun h => ?_)
  · rw [if_pos h]
    obtain ⟨j, hj, ej⟩ : ∃ j : Nat, j < c.length ∧ t = (j : Int) := by
      rcases place_bound (p := isF f) c 0 with h2 | ⟨h2, h3, j, hj, h4, _⟩
      · omega
      · exact ⟨j, hj, by omega⟩
    have hm : smallF (rd_T123 c t) := by rw [ej, rd123 hj]; exact hs _ (List.getElem_mem hj)
    refine W.pos (by omega) (W.pos (by omega) ?_)
    unfold funR
    refine W.bind (sTexts x hm.1) ?_
    rintro _ rfl
    refine W.step (fun k => by simp only [spec_NameKind.j0]; rfl) ?_
    refine W.dec (fun h1 => ?_) (fun h1 => ?_)
    · rw [if_pos h1]
      refine W.pos (by omega) (W.pos (by omega) ?_)
      refine W.bind (sTexts x hm.1) ?_
      rintro _ rfl
      exact W.ret rfl
    · rw [if_neg h1]
      refine W.pos h (W.pos (by omega) (W.pos (by omega) ?_))
      refine W.bind (sTexts x hm.2) ?_
      rintro _ rfl
      by_cases h3 : place (isT x) (rd_T123 c t).f3 0 ≥ 0
      · rw [decide_eq_true h3, if_pos h3]
        refine W.step (fun k => by simp only [spec_NameKind.j1]; rfl) ?_
        refine W.pos True.intro (W.pos (by omega) (W.pos (by omega) ?_))
        refine W.bind (sTexts x hm.2) ?_
        rintro _ rfl
        exact W.ret rfl
      · rw [decide_eq_false h3, if_neg h3]
        exact sTail x ha hb hc t
  · rw [if_neg h]
    refine W.step (fun k => by simp only [spec_NameKind.j0]; rfl) ?_
    refine W.neg (by decide) (W.neg h ?_)
    exact sTail x ha hb hc t
theorem iKind (f : ByteArray) : W (fun k => impl_NameKind.f k a b c f x) (· = kindR f x a b c) := by
  unfold impl_NameKind.f kindR
  refine placeK (isF f) c (g := fun k i => impl_NameKind.l0 k f x c (c.length : Int) i a b c) (F := fun i => funR x a b c i) ?_ (fun i hi r h1 h2 => ?_)
  · refine W.step (fun k => by simp only [impl_NameKind.l0]; rfl) ?_
    exact W.neg (by omega) (iTail x ha hb hc)
  · refine W.step (fun k => by simp only [impl_NameKind.l0]; rfl) ?_
    refine W.pos (by omega) (W.pos (by omega) (W.pos (by omega) ?_))
    have e : rd_T123 c (i : Int) = c[i] := rd123 hi
    have hm : smallF (rd_T123 c (i : Int)) := by rw [e]; exact hs _ (List.getElem_mem hi)
    rw [next hi hc]
    refine W.ite (fun h => ?_) (fun h => h2 (fun hc => h (by rw [e]; exact of_decide_eq_true hc)))
    obtain rfl := h1 (by rw [← e]; exact decide_eq_true h)
    unfold funR
    refine W.bind (iTexts x hm.1) ?_
    rintro _ rfl
    refine W.ite (fun h3 => W.ret ?_) (fun h3 => ?_)
    · rw [if_pos h3]
    rw [if_neg h3]
    refine W.bind (iTexts x hm.2) ?_
    rintro _ rfl
    refine W.ite (fun h4 => W.ret ?_) (fun h4 => ?_)
    · rw [if_pos h4]
    rw [if_neg h4]
    exact iTail x ha hb hc
end
theorem FnExactNameKind (a : List S143) (b : List ByteArray) (c : List S145) (f x : ByteArray) (ha : a.length ≤ maxLen) (qa : ∀ y ∈ a, y.f0.size ≤ maxLen ∧ True) (hb : b.length ≤ maxLen) (qb : ∀ y ∈ b, y.size ≤ maxLen) (hc : c.length ≤ maxLen) (qc : ∀ y ∈ c, sized y) (_ : f.size ≤ 140737488351232) (_ : x.size ≤ 140737488351232) : ∃ k, laws_FnExactNameKind.f k a b c f x = some true := by
  apply W.eq
  unfold laws_FnExactNameKind.f
  refine W.ite (fun _ => W.ret rfl) (fun _ => W.ite (fun _ => W.ret rfl) (fun _ => ?_))
  refine W.bind (szTable ha qa hb qb hc qc) ?_
  intro r hr
  refine W.ite (fun _ => W.ret rfl) (fun h0 => ?_)
  obtain ⟨za, zb, zc, zs⟩ := hr (by omega)
  have ya : (a.map arr).length ≤ 1048576 := by simpa using za
  have yc : (c.map fn).length ≤ 1048576 := by simpa using zc
  have ys : ∀ y ∈ c.map fn, smallF y := by
    intro y hy
    obtain ⟨z, hz, rfl⟩ := List.mem_map.mp hy
    exact zs z hz
  refine W.bind (toTable za zb zc zs) ?_
  rintro _ rfl
  refine W.bind (sKind x ya zb yc ys f) ?_
  rintro _ rfl
  refine W.bind (toTable za zb zc zs) ?_
  rintro _ rfl
  refine W.bind (iKind x ya zb yc ys f) ?_
  rintro _ rfl
  refine W.pos rfl ?_
  rw [show ((kindR f x (a.map arr) b (c.map fn)).2 != (kindR f x (a.map arr) b (c.map fn)).2) = false by simp]
  refine W.step (fun k => by simp only [laws_FnExactNameKind.j0]; rfl) ?_
  refine W.neg (by decide) ?_
  refine W.bind (toTable za zb zc zs) ?_
  rintro _ rfl
  refine W.bind (Q := (· = true)) ?_ ?_
  · unfold laws_eqTable.f
    refine W.bind (eqArrays ya) ?_
    rintro _ rfl
    refine W.pos rfl (W.bind (eqStrings zb) ?_)
    rintro _ rfl
    refine W.pos rfl (W.bind (eqFuncs yc ys) ?_)
    rintro _ rfl
    exact W.pos rfl (W.ret rfl)
  rintro _ rfl
  exact W.pos rfl (W.ret rfl)

end Go.Proofs.Ytnmccgjdnceheaa.Pure
