/- The pure statement of the law FnExactSignAt: for every input the printed function answers true. -/
import Derived.Test.YtnbpgnkplahknaaDoorSign
import Derived.Test.YtnbpgnkplahknaaDoorLib
namespace Go.Proofs.YtnbpgnkplahknaaDoor.Pure
open Go Go.RowKit Go.Proofs.YtnbpgnkplahknaaDoor.PFnExactSignAt Go.Proofs.YtnbpgnkplahknaaDoorW.PrintWords Go.Proofs.YtnbpgnkplahknaaDoorW.PrintLast Go.Proofs.YtnbpgnkplahknaaDoorW.PrintMore Go.Proofs.YtnbpgnkplahknaaDoor.Lib
set_option linter.unusedVariables false
set_option linter.unusedSimpArgs false

-- parts:
/-! ### the sign at a place -/
def sgn (a : ByteArray) (n : Nat) (s : ByteArray) : Prop := n + s.size ≤ a.size ∧ (a.extract n (n + s.size)).toList = s.toList
instance (a : ByteArray) (n : Nat) (s : ByteArray) : Decidable (sgn a n s) := by unfold sgn; exact inferInstance
def first (a : ByteArray) (n : Nat) : List ByteArray → ByteArray
  | [] => (⟨#[]⟩ : ByteArray)
  | s :: l => if sgn a n s then s else first a n l
theorem rdT {i : Nat} (h : i < tbl.length) : rdOf ByteArray.empty tbl (i : Int) = tbl[i] := by simp [rdOf, List.getD_eq_getElem?_getD, List.getElem?_eq_getElem h]
theorem prefix_eq (a s : ByteArray) (n : Nat) (hn : n ≤ a.size) : strings_HasPrefix.f (a.extract n a.size) s = some (decide (sgn a n s)) := by
  have hz : (a.extract n a.size).size = a.size - n := by simp [ByteArray.size_extract]
  unfold strings_HasPrefix.f stringslite_HasPrefix.f
  rw [hz]
  by_cases h : n + s.size ≤ a.size
  · rw [if_pos (by omega), if_pos (by omega), if_pos (by omega)]
    have e : (a.extract n a.size).extract 0 s.size = a.extract n (n + s.size) := by
      simp [ByteArray.extract_extract, Nat.min_eq_left h]
    rw [Int.toNat_natCast, e]
    simp only [Option.bind_some]
    congr 1
    rw [Bool.eq_iff_iff, decide_eq_true_iff]
    unfold sgn
    simp [h]
  · rw [if_neg (by omega)]
    simp only [Option.bind_some]
    congr 1
    symm
    exact decide_eq_false (fun hc => h hc.1)
theorem iLoop {a : ByteArray} {n : Nat} (hn : n < a.size) : W (fun k => impl_SignAt.l0 k a (n : Int) ((0 : Nat) : Int)) (· = first a n (tbl.drop 0)) := by
  refine down_ind (Q := fun i => W (fun k => impl_SignAt.l0 k a (n : Int) (i : Int)) (· = first a n (tbl.drop i))) 30 ?_ ?_
  · refine W.step (fun k => by simp only [impl_SignAt.l0]; rfl) ?_
    exact W.neg (by omega) (W.ret rfl)
  · intro i hi ih
    have hl : i < tbl.length := by rw [tbl_len]; exact hi
    refine W.step (fun k => by simp only [impl_SignAt.l0]; rfl) ?_
    refine W.pos (by omega) (W.pos (by omega) ?_)
    rw [rdT hl, Int.toNat_natCast, wrap64_id (n := (i : Int) + 1) (by omega) (by omega), show (i : Int) + 1 = ((i + 1 : Nat) : Int) by omega, List.drop_eq_getElem_cons hl]
    refine W.bind (Q := (· = decide (sgn a n tbl[i]))) (W.const (prefix_eq a tbl[i] n (by omega)) rfl) ?_
    rintro _ rfl
    refine W.dec (fun h => W.ret ?_) (fun h => ?_)
    · simp only [first, if_pos h]
    · simp only [first, if_neg h]; exact ih
theorem sLoop {a : ByteArray} {n : Nat} (hn : n < a.size) (ha : a.size ≤ 1048576) : W (fun k => spec_SignAt.l0 k a (n : Int) tbl ((0 : Nat) : Int)) (· = first a n (tbl.drop 0)) := by
  have hs : ∀ s ∈ tbl, s.size ≤ 2 := by decide
  refine down_ind (Q := fun i => W (fun k => spec_SignAt.l0 k a (n : Int) tbl (i : Int)) (· = first a n (tbl.drop i))) 30 ?_ ?_
  · refine W.step (fun k => by simp only [spec_SignAt.l0]; rfl) ?_
    exact W.neg (by rw [tbl_len]; omega) (W.ret rfl)
  · intro i hi ih
    have hl : i < tbl.length := by rw [tbl_len]; exact hi
    have h2 := hs tbl[i] (List.getElem_mem hl)
    refine W.step (fun k => by simp only [spec_SignAt.l0]; rfl) ?_
    refine W.pos (by omega) (W.pos (by omega) ?_)
    rw [rdT hl, wrap64_id (n := (i : Int) + 1) (by omega) (by omega), show (i : Int) + 1 = ((i + 1 : Nat) : Int) by omega, wrap64_id (n := (a.size : Int) - (n : Int)) (by omega) (by omega), wrap64_id (n := (n : Int) + (tbl[i].size : Int)) (by omega) (by omega), List.drop_eq_getElem_cons hl]
    refine W.ite (fun h3 => ?_) (fun h3 => ?_)
    · refine W.pos (by omega) (W.pos (by omega) (W.pos (by omega) ?_))
      rw [Int.toNat_natCast, show ((n : Int) + (tbl[i].size : Int)).toNat = n + tbl[i].size by omega]
      refine W.ite (fun h => W.ret ?_) (fun h => ?_)
      · simp only [first]; rw [if_pos (show sgn a n tbl[i] from ⟨by omega, h⟩)]
      · simp only [first]; rw [if_neg (fun hc : sgn a n tbl[i] => h hc.2)]; exact ih
    · simp only [first]; rw [if_neg (fun hc : sgn a n tbl[i] => h3 (by have := hc.1; omega))]; exact ih
theorem FnExactSignAt (a : ByteArray) (n : Int) (ha : a.size ≤ 1048576) : ∃ k r, spec_SignAt.f k a n = some r ∧ impl_SignAt.f k a n = some r := by
  have both : ∀ r, W (fun k => spec_SignAt.f k a n) (· = r) → W (fun k => impl_SignAt.f k a n) (· = r) → ∃ k r, spec_SignAt.f k a n = some r ∧ impl_SignAt.f k a n = some r := by
    rintro r ⟨_, rfl, K, hK⟩ ⟨_, rfl, L, hL⟩
    exact ⟨K + L, _, hK _ (by omega), hL _ (by omega)⟩
  have bad : W (fun k => spec_SignAt.j0 k a n true) (· = (⟨#[]⟩ : ByteArray)) := by
    refine W.step (fun k => by simp only [spec_SignAt.j0]; rfl) ?_
    (try refine W.pos True.intro ?_)
    exact W.ret rfl
  by_cases h1 : n < 0
  · refine both (⟨#[]⟩ : ByteArray) ?_ ?_
    · unfold spec_SignAt.f; exact W.pos h1 bad
    · unfold impl_SignAt.f; exact W.pos h1 (W.ret rfl)
  by_cases h2 : n ≥ (a.size : Int)
  · refine both (⟨#[]⟩ : ByteArray) ?_ ?_
    · unfold spec_SignAt.f; rw [decide_eq_true h2]; exact W.neg h1 bad
    · unfold impl_SignAt.f; exact W.neg h1 (W.pos h2 (W.ret rfl))
  obtain ⟨m, rfl⟩ := Int.eq_ofNat_of_zero_le (show 0 ≤ n by omega)
  refine both (first a m (tbl.drop 0)) ?_ ?_
  · unfold spec_SignAt.f
    rw [decide_eq_false h2]
    refine W.neg h1 ?_
    refine W.step (fun k => by simp only [spec_SignAt.j0]; rfl) ?_
    (try refine W.neg (by decide) ?_)
    refine W.bind (Q := (· = tbl)) (W.const rfl rfl) ?_
    rintro _ rfl
    exact sLoop (by omega) ha
  · unfold impl_SignAt.f
    exact W.neg h1 (W.neg h2 (iLoop (by omega)))

end Go.Proofs.YtnbpgnkplahknaaDoor.Pure
