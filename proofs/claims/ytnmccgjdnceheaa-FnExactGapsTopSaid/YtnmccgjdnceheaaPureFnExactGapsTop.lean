/- The pure statement of the law FnExactGapsTop: for every input the printed function answers true. -/
import Derived.Test.YtnmccgjdnceheaaPFnExactGapsTopx0
import Derived.Test.YtnmccgjdnceheaaPFnExactGapsTopx1
import Derived.Test.YtnmccgjdnceheaaPFnExactGapsTopx2
import Derived.Test.YtnmccgjdnceheaaLib
namespace Go.Proofs.Ytnmccgjdnceheaa.Pure
open Go Go.RowKit Go.Proofs.Ytnmccgjdnceheaa.PFnExactGapsTop Go.Proofs.YtnmccgjdnceheaaW.PrintWords Go.Proofs.YtnmccgjdnceheaaW.PrintLast Go.Proofs.YtnmccgjdnceheaaW.PrintMore Go.Proofs.Ytnmccgjdnceheaa.Lib
set_option linter.unusedVariables false
set_option linter.unusedSimpArgs false

theorem eqInts_loop {xs : List Int} (hx : xs.length ≤ 1048576) (d : Nat) : ∀ i : Nat, i ≤ xs.length → xs.length - i = d → W (fun k => laws_eqIntS.l0 k xs xs (i : Int)) (· = true) := by
  induction d with
  | zero =>
    intro i hi hd
    refine W.step (fun k => by simp only [laws_eqIntS.l0]; rfl) ?_
    exact W.neg (by omega) (W.ret rfl)
  | succ d ih =>
    intro i hi hd
    refine W.step (fun k => by simp only [laws_eqIntS.l0]; rfl) ?_
    refine W.pos (by omega) (W.pos (by omega) (W.pos (by omega) (W.pos (by trivial) ?_)))
    rw [wrap64_id (n := (i : Int) + 1) (by omega) (by omega), show (i : Int) + 1 = ((i + 1 : Nat) : Int) by omega]
    exact ih (i + 1) (by omega) (by omega)
theorem eqInts {xs : List Int} (hx : xs.length ≤ 1048576) : W (fun k => laws_eqIntS.f k xs xs) (· = true) := by
  unfold laws_eqIntS.f
  refine W.pos (by trivial) ?_
  exact eqInts_loop hx _ 0 (by omega) rfl

/-! ### marks that are laid and held -/
def markL (k : Int) (n : Nat) : List Int := (List.range n).map fun (i : Nat) => k + (i : Int)
theorem markL_get {k : Int} {n i : Nat} (h : i < n) : rd (markL k n) (i : Int) = k + i := by
  have : i < (markL k n).length := by simpa [markL] using h
  simp [rd, List.getD_eq_getElem?_getD, markL, List.getElem?_range h]
theorem marks {xs : List Int} (hx : xs.length ≤ 9000000000000) (k0 : Int) (h0 : 0 ≤ k0) (h1 : k0 ≤ 9000000000000) : W (fun k => laws_markIntS.f k xs k0) (· = (k0 + xs.length, markL k0 xs.length)) := by
  unfold laws_markIntS.f
  have h : ∀ ys : List Int, ys.length = xs.length → ys.take 0 = (markL k0 xs.length).take 0 → W (fun k => laws_markIntS.l0 k ys (k0 + ((0 : Nat) : Int)) ((0 : Nat) : Int)) (· = (k0 + xs.length, markL k0 xs.length)) := by
    refine down_ind (Q := fun i => ∀ ys : List Int, ys.length = xs.length → ys.take i = (markL k0 xs.length).take i → W (fun k => laws_markIntS.l0 k ys (k0 + (i : Int)) (i : Int)) (· = (k0 + xs.length, markL k0 xs.length))) xs.length ?_ ?_
    · intro ys hl ht
      refine W.step (fun k => by simp only [laws_markIntS.l0]; rfl) ?_
      refine W.neg (by omega) (W.ret ?_)
      have hm : (markL k0 xs.length).length = xs.length := by simp [markL]
      rw [← List.take_length (l := ys), hl, ht, show List.take xs.length (markL k0 xs.length) = markL k0 xs.length by rw [List.take_of_length_le (by omega)]]
    · intro i hi ih ys hl ht
      refine W.step (fun k => by simp only [laws_markIntS.l0]; rfl) ?_
      refine W.pos (by omega) (W.pos (by omega) ?_)
      rw [wrap64_id (n := k0 + (i : Int) + 1) (by omega) (by omega), wrap64_id (n := (i : Int) + 1) (by omega) (by omega), show k0 + (i : Int) + 1 = k0 + ((i + 1 : Nat) : Int) by omega, show (i : Int) + 1 = ((i + 1 : Nat) : Int) by omega, Int.toNat_natCast]
      refine ih _ (by simp [hl]) ?_
      have h1 : i < (ys.set i (k0 + (i : Int))).length := by simp [hl, hi]
      have h2 : i < (markL k0 xs.length).length := by simpa [markL] using hi
      rw [List.take_succ_eq_append_getElem h1, List.take_succ_eq_append_getElem h2, List.getElem_set_self, List.take_set_of_le (by omega), ht]
      simp [markL]
  have := h xs rfl rfl
  simpa using this
theorem helds {n : Nat} (hx : n ≤ 9000000000000) (k0 : Int) (h0 : 0 ≤ k0) (h1 : k0 ≤ 9000000000000) : W (fun k => laws_heldIntS.f k (markL k0 n) k0) (· = k0 + n) := by
  unfold laws_heldIntS.f
  have hm : (markL k0 n).length = n := by simp [markL]
  have h : W (fun k => laws_heldIntS.l0 k (markL k0 n) (k0 + ((0 : Nat) : Int)) ((0 : Nat) : Int)) (· = k0 + n) := by
    refine down_ind (Q := fun i => W (fun k => laws_heldIntS.l0 k (markL k0 n) (k0 + (i : Int)) (i : Int)) (· = k0 + n)) n ?_ ?_
    · refine W.step (fun k => by simp only [laws_heldIntS.l0]; rfl) ?_
      exact W.neg (by omega) (W.ret rfl)
    · intro i hi ih
      refine W.step (fun k => by simp only [laws_heldIntS.l0]; rfl) ?_
      refine W.pos (by omega) (W.pos (by omega) (W.pos (markL_get hi) ?_))
      rw [wrap64_id (n := k0 + (i : Int) + 1) (by omega) (by omega), wrap64_id (n := (i : Int) + 1) (by omega) (by omega), show k0 + (i : Int) + 1 = k0 + ((i + 1 : Nat) : Int) by omega, show (i : Int) + 1 = ((i + 1 : Nat) : Int) by omega]
      exact ih
  simpa using h

theorem sInT (v a b : Int) : spec_l1In.f v a b = some (decide (a ≤ v ∧ v ≤ b)) := by
  simp only [spec_l1In.f]
  by_cases h : v ≥ a <;> simp [h]
/-- The bounds of N numbers of which nothing is known: row by row. -/
def topL (N : Nat) : List Int := (List.range ((N + 1) * (N + 1))).map fun q => if q / (N + 1) = q % (N + 1) then 0 else 1099511627776
theorem topL_len (N : Nat) : (topL N).length = (N + 1) * (N + 1) := by simp [topL]
theorem cell_lt {N i j : Nat} (hi : i ≤ N) (hj : j ≤ N) : i * (N + 1) + j < (N + 1) * (N + 1) := by
  have h1 : i * (N + 1) ≤ N * (N + 1) := Nat.mul_le_mul_right _ hi
  have h3 : (N + 1) * (N + 1) = N * (N + 1) + (N + 1) := Nat.succ_mul ..
  omega
theorem topL_get {N i j : Nat} (hi : i ≤ N) (hj : j ≤ N) : (topL N)[i * (N + 1) + j]'(by rw [topL_len]; exact cell_lt hi hj) = if i = j then 0 else 1099511627776 := by
  have e1 : (i * (N + 1) + j) / (N + 1) = i := by rw [Nat.mul_comm, Nat.mul_add_div (by omega), Nat.div_eq_of_lt (by omega)]; omega
  have e2 : (i * (N + 1) + j) % (N + 1) = j := by rw [Nat.mul_comm, Nat.mul_add_mod, Nat.mod_eq_of_lt (by omega)]
  simp only [topL, List.getElem_map, List.getElem_range, e1, e2]
theorem sq169 {N : Nat} (hN : N ≤ 12) : (N + 1) * (N + 1) ≤ 169 := Nat.mul_le_mul (show N + 1 ≤ 13 by omega) (show N + 1 ≤ 13 by omega)
theorem take_next {N i j : Nat} (hi : i ≤ N) (hj : j ≤ N) : (topL N).take (i * (N + 1) + (j + 1)) = (topL N).take (i * (N + 1) + j) ++ [if i = j then 0 else 1099511627776] := by
  have h : i * (N + 1) + j < (topL N).length := by rw [topL_len]; exact cell_lt hi hj
  rw [show i * (N + 1) + (j + 1) = i * (N + 1) + j + 1 by omega, List.take_succ_eq_append_getElem h, topL_get hi hj]
theorem sTop {N : Nat} (hN : N ≤ 12) : W (fun k => spec_GapsTop.l0 k (N : Int) ((0 : Nat) : Int) (N : Int) ((topL N).take (0 * (N + 1)))) (· = ((N : Int), topL N)) := by
  have hs := sq169 hN
  refine down_ind (Q := fun i => W (fun k => spec_GapsTop.l0 k (N : Int) (i : Int) (N : Int) ((topL N).take (i * (N + 1)))) (· = ((N : Int), topL N))) (N + 1) ?_ ?_
  · refine W.step (fun k => by simp only [spec_GapsTop.l0]; rfl) ?_
    refine W.neg (by omega) (W.ret ?_)
    rw [List.take_of_length_le (by rw [topL_len]; omega)]
  · intro i hi ih
    refine W.step (fun k => by simp only [spec_GapsTop.l0]; rfl) ?_
    refine W.pos (by omega) ?_
    have h : W (fun k => spec_GapsTop.l1 k (N : Int) (i : Int) ((0 : Nat) : Int) (N : Int) ((topL N).take (i * (N + 1) + 0))) (· = ((N : Int), topL N)) := by
      refine down_ind (Q := fun j => W (fun k => spec_GapsTop.l1 k (N : Int) (i : Int) (j : Int) (N : Int) ((topL N).take (i * (N + 1) + j))) (· = ((N : Int), topL N))) (N + 1) ?_ ?_
      · refine W.step (fun k => by simp only [spec_GapsTop.l1]; rfl) ?_
        refine W.neg (by omega) ?_
        rw [wrap64_id (n := (i : Int) + 1) (by omega) (by omega), show (i : Int) + 1 = ((i + 1 : Nat) : Int) by omega, show i * (N + 1) + (N + 1) = (i + 1) * (N + 1) by rw [Nat.succ_mul]]
        exact ih
      · intro j hj jh
        refine W.step (fun k => by simp only [spec_GapsTop.l1]; rfl) ?_
        refine W.pos (by omega) ?_
        rw [wrap64_id (n := (j : Int) + 1) (by omega) (by omega), show (j : Int) + 1 = ((j + 1 : Nat) : Int) by omega]
        have hlen : ((topL N).take (i * (N + 1) + j)).length < 17592186044416 := by
          have := List.length_take_le' (i * (N + 1) + j) (topL N); rw [topL_len] at this; omega
        rw [take_next (by omega) (by omega)] at jh
        refine W.ite (fun h1 => W.pos hlen ?_) (fun h1 => W.pos hlen ?_)
        · rw [if_pos (by omega)] at jh; exact jh
        · rw [if_neg (by omega)] at jh; exact jh
    exact h
theorem gAt {N i j : Nat} (D : List Int) (hN : N ≤ 12) (hi : i ≤ N) (hj : j ≤ N) : impl_Gaps_at.f (N : Int) D (i : Int) (j : Int) = some ((i * (N + 1) + j : Nat) : Int) := by
  unfold impl_Gaps_at.f
  have hs := sq169 hN
  have hlt := cell_lt hi hj
  have e : (i : Int) * ((N : Int) + 1) = ((i * (N + 1) : Nat) : Int) := by push_cast; rfl
  rw [wrap64_id (n := (N : Int) + 1) (by omega) (by omega), e, wrap64_id (n := ((i * (N + 1) : Nat) : Int)) (by omega) (by omega), wrap64_id (n := ((i * (N + 1) : Nat) : Int) + (j : Int)) (by omega) (by omega)]
  congr 1
theorem iTop {N : Nat} (hN : N ≤ 12) : ∀ ys : List Int, ys.length = (N + 1) * (N + 1) → (∀ q : Nat, q < 0 * (N + 1) → ys[q]? = (topL N)[q]?) → (∀ q : Nat, 0 * (N + 1) ≤ q → q < (N + 1) * (N + 1) → ys[q]? = some 0) →
    W (fun k => impl_GapsTop.l0 k (N : Int) ((N : Int) + 1) ((0 : Nat) : Int) (N : Int) ys) (· = ((N : Int), topL N)) := by
  have hs := sq169 hN
  refine down_ind (Q := fun i => ∀ ys : List Int, ys.length = (N + 1) * (N + 1) → (∀ q : Nat, q < i * (N + 1) → ys[q]? = (topL N)[q]?) → (∀ q : Nat, i * (N + 1) ≤ q → q < (N + 1) * (N + 1) → ys[q]? = some 0) →
    W (fun k => impl_GapsTop.l0 k (N : Int) ((N : Int) + 1) (i : Int) (N : Int) ys) (· = ((N : Int), topL N))) (N + 1) ?_ ?_
  · intro ys hl h1 h2
    refine W.step (fun k => by simp only [impl_GapsTop.l0]; rfl) ?_
    refine W.neg (by omega) (W.ret ?_)
    congr 1
    apply List.ext_getElem?
    intro q
    by_cases hq : q < (N + 1) * (N + 1)
    · exact h1 q hq
    · rw [List.getElem?_eq_none (by omega), List.getElem?_eq_none (by rw [topL_len]; omega)]
  · intro i hi ih ys hl h1 h2
    refine W.step (fun k => by simp only [impl_GapsTop.l0]; rfl) ?_
    refine W.pos (by omega) ?_
    rw [wrap64_id (n := (N : Int) + 1) (by omega) (by omega)]
    have h : ∀ ys : List Int, ys.length = (N + 1) * (N + 1) → (∀ q : Nat, q < i * (N + 1) + 0 → ys[q]? = (topL N)[q]?) → (∀ q : Nat, i * (N + 1) + 0 ≤ q → q < (N + 1) * (N + 1) → ys[q]? = some 0) →
        W (fun k => impl_GapsTop.l1 k (N : Int) (i : Int) ((N : Int) + 1) (i : Int) ((N : Int) + 1) ((0 : Nat) : Int) (N : Int) ys) (· = ((N : Int), topL N)) := by
      refine down_ind (Q := fun j => ∀ ys : List Int, ys.length = (N + 1) * (N + 1) → (∀ q : Nat, q < i * (N + 1) + j → ys[q]? = (topL N)[q]?) → (∀ q : Nat, i * (N + 1) + j ≤ q → q < (N + 1) * (N + 1) → ys[q]? = some 0) →
        W (fun k => impl_GapsTop.l1 k (N : Int) (i : Int) ((N : Int) + 1) (i : Int) ((N : Int) + 1) (j : Int) (N : Int) ys) (· = ((N : Int), topL N))) (N + 1) ?_ ?_
      · intro ys hl h1 h2
        refine W.step (fun k => by simp only [impl_GapsTop.l1]; rfl) ?_
        refine W.neg (by omega) ?_
        rw [wrap64_id (n := (i : Int) + 1) (by omega) (by omega), show (i : Int) + 1 = ((i + 1 : Nat) : Int) by omega]
        have e : (i + 1) * (N + 1) = i * (N + 1) + (N + 1) := Nat.succ_mul ..
        exact ih ys hl (fun q hq => h1 q (by omega)) (fun q hq => h2 q (by omega))
      · intro j hj jh ys hl h1 h2
        have hlt := cell_lt (show i ≤ N by omega) (show j ≤ N by omega)
        have hg := topL_get (show i ≤ N by omega) (show j ≤ N by omega)
        have hq : (topL N)[i * (N + 1) + j]? = some (if i = j then 0 else 1099511627776) := by
          rw [List.getElem?_eq_getElem (by rw [topL_len]; exact hlt), hg]
        have e : (i : Int) * ((N : Int) + 1) = ((i * (N + 1) : Nat) : Int) := by push_cast; rfl
        refine W.step (fun k => by simp only [impl_GapsTop.l1]; rfl) ?_
        refine W.pos (by omega) ?_
        rw [gAt ys hN (show i ≤ N by omega) (show j ≤ N by omega)]
        simp only [Option.bind_some]
        rw [wrap64_id (n := (j : Int) + 1) (by omega) (by omega), show (j : Int) + 1 = ((j + 1 : Nat) : Int) by omega]
        refine W.ite (fun h3 => ?_) (fun h3 => ?_)
        · refine jh ys hl (fun q h4 => ?_) (fun q h4 => h2 q (by omega))
          by_cases e2 : q = i * (N + 1) + j
          · subst e2; rw [hq, if_pos (by omega)]; exact h2 _ (by omega) hlt
          · exact h1 q (by omega)
        · refine W.pos (by omega) (W.pos (by omega) ?_)
          rw [Int.toNat_natCast]
          refine jh _ (by simpa using hl) (fun q h4 => ?_) (fun q h4 h5 => ?_)
          · by_cases e2 : q = i * (N + 1) + j
            · subst e2; rw [hq, if_neg (by omega), List.getElem?_set_self (by omega)]
            · rw [List.getElem?_set_ne (by omega)]; exact h1 q (by omega)
          · rw [List.getElem?_set_ne (by omega)]; exact h2 q (by omega) h5
    exact h ys hl (fun q hq => h1 q (by omega)) (fun q hq => h2 q (by omega))
theorem FnExactGapsTop : laws_FnExactGapsTop.Pure := by
  intro n hn
  apply W.eq
  have hS : ∀ (m : Int) (D : List Int), D.length ≤ 1048576 → W (fun k => spec_GapsTop.f k n) (· = (m, D)) → W (fun k => impl_GapsTop.f k n) (· = (m, D)) → W (fun k => laws_FnExactGapsTop.f k n) (· = true) := by
    intro m D hD h1 h2
    have eq : W (fun k => laws_eqGaps.f k m D m D) (· = true) := by
      unfold laws_eqGaps.f
      refine W.pos rfl ?_
      refine W.bind (eqInts hD) ?_
      rintro _ rfl
      exact W.pos rfl (W.ret rfl)
    have held : W (fun k => laws_heldGaps.f k m (markL 1 D.length) 1) (· = 1 + (D.length : Int)) := by
      unfold laws_heldGaps.f
      refine W.bind (helds (n := D.length) (by omega) 1 (by omega) (by omega)) ?_
      rintro _ rfl
      exact W.neg (by omega) (W.ret rfl)
    unfold laws_FnExactGapsTop.f
    refine W.bind h1 ?_
    rintro _ rfl
    refine W.bind h2 ?_
    rintro _ rfl
    refine W.bind eq ?_
    rintro _ rfl
    refine W.pos rfl ?_
    refine W.bind (Q := (· = (1 + (D.length : Int), markL 1 D.length))) ?_ ?_
    · unfold laws_markGaps.f
      refine W.bind (marks (xs := D) (by omega) 1 (by omega) (by omega)) ?_
      rintro _ rfl
      exact W.ret rfl
    rintro _ rfl
    refine W.bind held ?_
    rintro _ rfl
    refine W.neg (by omega) (W.pos rfl ?_)
    refine W.bind h2 ?_
    rintro _ rfl
    refine W.bind eq ?_
    rintro _ rfl
    refine W.pos rfl ?_
    refine W.bind held ?_
    rintro _ rfl
    exact W.neg (by omega) (W.pos rfl (W.ret rfl))
  have no : W (fun k => impl_GapsTop.j0 k n true) (· = (0, [])) := by
    refine W.step (fun k => by simp only [impl_GapsTop.j0]; rfl) ?_
    (try refine W.pos True.intro ?_)
    exact W.ret rfl
  by_cases h : 0 ≤ n ∧ n ≤ 12
  · obtain ⟨N, rfl⟩ := Int.eq_ofNat_of_zero_le h.1
    have hN : N ≤ 12 := by omega
    have hs := sq169 hN
    have e : ((N : Int) + 1) * ((N : Int) + 1) = (((N + 1) * (N + 1) : Nat) : Int) := by push_cast; rfl
    refine hS (N : Int) (topL N) (by rw [topL_len]; omega) ?_ ?_
    · unfold spec_GapsTop.f
      rw [sInT]
      simp only [Option.bind_some]
      refine W.dpos h ?_
      have := sTop hN
      simpa using this
    · unfold impl_GapsTop.f
      refine W.neg (by omega) ?_
      rw [decide_eq_false (show ¬ (N : Int) > 12 by omega)]
      refine W.step (fun k => by simp only [impl_GapsTop.j0]; rfl) ?_
      (try refine W.neg (by decide) ?_)
      rw [wrap64_id (n := (N : Int) + 1) (by omega) (by omega), e, wrap64_id (n := (((N + 1) * (N + 1) : Nat) : Int)) (by omega) (by omega), Int.toNat_natCast]
      refine W.pos (by omega) (W.pos (by omega) ?_)
      exact iTop hN _ (by simp) (fun q hq => by omega) (fun q _ hq => by rw [List.getElem?_replicate, if_pos hq])
  · refine hS 0 [] (by simp) ?_ ?_
    · unfold spec_GapsTop.f
      rw [sInT]
      simp only [Option.bind_some]
      exact W.dneg h (W.ret rfl)
    · unfold impl_GapsTop.f
      refine W.ite (fun _ => no) (fun h1 => ?_)
      rw [decide_eq_true (show n > 12 by omega)]
      exact no

end Go.Proofs.Ytnmccgjdnceheaa.Pure
