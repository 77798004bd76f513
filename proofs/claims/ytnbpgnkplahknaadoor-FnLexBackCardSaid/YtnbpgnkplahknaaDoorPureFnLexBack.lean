/- The pure statement of the law FnLexBack: for every input the printed function answers true. -/
import Derived.Test.YtnbpgnkplahknaaDoorPFnLexBackx0
import Derived.Test.YtnbpgnkplahknaaDoorPFnLexBackx1
import Derived.Test.YtnbpgnkplahknaaDoorPFnLexBackx10
import Derived.Test.YtnbpgnkplahknaaDoorPFnLexBackx11
import Derived.Test.YtnbpgnkplahknaaDoorPFnLexBackx2
import Derived.Test.YtnbpgnkplahknaaDoorPFnLexBackx3
import Derived.Test.YtnbpgnkplahknaaDoorPFnLexBackx4
import Derived.Test.YtnbpgnkplahknaaDoorPFnLexBackx5
import Derived.Test.YtnbpgnkplahknaaDoorPFnLexBackx6
import Derived.Test.YtnbpgnkplahknaaDoorPFnLexBackx7
import Derived.Test.YtnbpgnkplahknaaDoorPFnLexBackx8
import Derived.Test.YtnbpgnkplahknaaDoorPFnLexBackx9
import Derived.Test.YtnbpgnkplahknaaDoorLib
namespace Go.Proofs.YtnbpgnkplahknaaDoor.Pure
open Go Go.RowKit Go.Proofs.YtnbpgnkplahknaaDoor.PFnLexBack Go.Proofs.YtnbpgnkplahknaaDoorW.PrintWords Go.Proofs.YtnbpgnkplahknaaDoorW.PrintLast Go.Proofs.YtnbpgnkplahknaaDoorW.PrintMore Go.Proofs.YtnbpgnkplahknaaDoor.Lib
set_option linter.unusedVariables false
set_option linter.unusedSimpArgs false

theorem tmod_pos {a n : Int} (h : 0 ≤ a) (hn : 1 ≤ n) : 0 ≤ a.tmod n ∧ a.tmod n < n := by
  rw [Int.tmod_eq_emod_of_nonneg h]
  exact ⟨Int.emod_nonneg _ (by omega), Int.emod_lt_of_pos _ (by omega)⟩

/-! ### the lexer: both -/
theorem down_all {Q : Nat → Prop} (n : Nat) (hn : Q n) (hs : ∀ i, i < n → Q (i + 1) → Q i) : ∀ i, i ≤ n → Q i := by
  intro i hi
  obtain ⟨d, hd⟩ : ∃ d, n - i = d := ⟨_, rfl⟩
  induction d generalizing i with
  | zero => have : i = n := by omega
            subst this; exact hn
  | succ d ih => exact hs i (by omega) (ih (i + 1) (by omega) (by omega))
theorem w1 {i : Nat} (h : i ≤ 1048576) : wrap64 ((i : Int) + 1) = ((i + 1 : Nat) : Int) := by
  rw [wrap64_id (by omega) (by omega)]; omega
theorem skipBoth {a : ByteArray} (ha : a.size ≤ 1048576) : ∀ i, i ≤ a.size →
    (∃ r : Nat, i ≤ r ∧ r ≤ a.size ∧ W (fun k => spec_l2Skip.l0 k a (i : Int)) (· = (r : Int)) ∧ W (fun k => impl_lexSkip.l0 k a (i : Int)) (· = (r : Int))) ∧
    (∃ r : Nat, i ≤ r ∧ r ≤ a.size ∧ W (fun k => spec_l2Skip.l1 k a (i : Int)) (· = (r : Int)) ∧ W (fun k => impl_lexSkip.l1 k a (i : Int)) (· = (r : Int))) := by
  refine down_all a.size ?_ ?_
  · have s0 : W (fun k => spec_l2Skip.l0 k a (a.size : Int)) (· = (a.size : Int)) := W.step (fun k => by simp only [spec_l2Skip.l0]; rfl) (W.neg (by omega) (W.ret rfl))
    have i0 : W (fun k => impl_lexSkip.l0 k a (a.size : Int)) (· = (a.size : Int)) := W.step (fun k => by simp only [impl_lexSkip.l0]; rfl) (W.neg (by omega) (W.ret rfl))
    refine ⟨⟨a.size, by omega, by omega, s0, i0⟩, ⟨a.size, by omega, by omega, ?_, ?_⟩⟩
    · exact W.step (fun k => by simp only [spec_l2Skip.l1]; rfl) (W.neg (by omega) s0)
    · exact W.step (fun k => by simp only [impl_lexSkip.l1]; rfl) (W.neg (by omega) i0)
  · rintro i hi ⟨⟨r, hr, hr2, s, j⟩, ⟨r1, hr1, hr12, s1, j1⟩⟩
    have e1 := w1 (i := i) (by omega)
    have st : W (fun k => spec_l2Skip.j1 k a (i : Int) true) (· = (r : Int)) := by
      refine W.step (fun k => by simp only [spec_l2Skip.j1]; rfl) ?_
      refine W.pos (by trivial) ?_
      rw [e1]; exact s
    have it : ∀ b, W (fun k => impl_lexSkip.j1 k a (i : Int) b true) (· = (r : Int)) := by
      intro b
      refine W.step (fun k => by simp only [impl_lexSkip.j1]; rfl) ?_
      refine W.pos (by trivial) ?_
      rw [e1]; exact j
    have Z : ∃ r : Nat, i ≤ r ∧ r ≤ a.size ∧ W (fun k => spec_l2Skip.l0 k a (i : Int)) (· = (r : Int)) ∧ W (fun k => impl_lexSkip.l0 k a (i : Int)) (· = (r : Int)) := by
      by_cases h32 : bt a (i : Int) = 32
      · refine ⟨r, by omega, hr2, ?_, ?_⟩
        · exact W.step (fun k => by simp only [spec_l2Skip.l0]; rfl) (W.pos (by omega) (W.pos (by omega) (W.pos h32 st)))
        · refine W.step (fun k => by simp only [impl_lexSkip.l0]; rfl) (W.pos (by omega) (W.pos (by omega) (W.pos h32 ?_)))
          rw [h32]; exact it _
      by_cases h10 : bt a (i : Int) = 10
      · refine ⟨r, by omega, hr2, ?_, ?_⟩
        · refine W.step (fun k => by simp only [spec_l2Skip.l0]; rfl) (W.pos (by omega) (W.pos (by omega) (W.neg h32 ?_)))
          rw [h10]; exact st
        · refine W.step (fun k => by simp only [impl_lexSkip.l0]; rfl) (W.pos (by omega) (W.pos (by omega) (W.neg h32 ?_)))
          rw [h10]; exact it _
      have b10 : (bt a (i : Int) == 10) = false := beq_eq_false_iff_ne.2 h10
      by_cases h35 : bt a (i : Int) = 35
      · refine ⟨r1, by omega, hr12, ?_, ?_⟩
        · refine W.step (fun k => by simp only [spec_l2Skip.l0]; rfl) (W.pos (by omega) (W.pos (by omega) (W.neg h32 ?_)))
          rw [b10]
          refine W.step (fun k => by simp only [spec_l2Skip.j1]; rfl) (W.neg (by decide) (W.pos (by omega) (W.pos (by omega) (W.pos h35 ?_))))
          refine W.step (fun k => by simp only [spec_l2Skip.l1]; rfl) (W.pos (by omega) (W.pos (by omega) (W.neg h10 ?_)))
          rw [e1]; exact s1
        · refine W.step (fun k => by simp only [impl_lexSkip.l0]; rfl) (W.pos (by omega) (W.pos (by omega) (W.neg h32 ?_)))
          rw [b10]
          refine W.step (fun k => by simp only [impl_lexSkip.j1]; rfl) (W.neg (by decide) (W.pos h35 ?_))
          refine W.step (fun k => by simp only [impl_lexSkip.l1]; rfl) (W.pos (by omega) (W.pos (by omega) (W.neg h10 ?_)))
          rw [e1]; exact j1
      · refine ⟨i, by omega, by omega, ?_, ?_⟩
        · refine W.step (fun k => by simp only [spec_l2Skip.l0]; rfl) (W.pos (by omega) (W.pos (by omega) (W.neg h32 ?_)))
          rw [b10]
          exact W.step (fun k => by simp only [spec_l2Skip.j1]; rfl) (W.neg (by decide) (W.pos (by omega) (W.pos (by omega) (W.neg h35 (W.ret rfl)))))
        · refine W.step (fun k => by simp only [impl_lexSkip.l0]; rfl) (W.pos (by omega) (W.pos (by omega) (W.neg h32 ?_)))
          rw [b10]
          exact W.step (fun k => by simp only [impl_lexSkip.j1]; rfl) (W.neg (by decide) (W.neg h35 (W.ret rfl)))
    refine ⟨Z, ?_⟩
    by_cases h10 : bt a (i : Int) = 10
    · obtain ⟨r, hr, hr2, s, j⟩ := Z
      refine ⟨r, hr, hr2, ?_, ?_⟩
      · exact W.step (fun k => by simp only [spec_l2Skip.l1]; rfl) (W.pos (by omega) (W.pos (by omega) (W.pos h10 s)))
      · exact W.step (fun k => by simp only [impl_lexSkip.l1]; rfl) (W.pos (by omega) (W.pos (by omega) (W.pos h10 j)))
    · refine ⟨r1, by omega, hr12, ?_, ?_⟩
      · refine W.step (fun k => by simp only [spec_l2Skip.l1]; rfl) (W.pos (by omega) (W.pos (by omega) (W.neg h10 ?_)))
        rw [e1]; exact s1
      · refine W.step (fun k => by simp only [impl_lexSkip.l1]; rfl) (W.pos (by omega) (W.pos (by omega) (W.neg h10 ?_)))
        rw [e1]; exact j1
def ltr (b : Int) : Prop := 97 ≤ b ∧ b ≤ 122
def dgt (b : Int) : Prop := 48 ≤ b ∧ b ≤ 57
instance (b : Int) : Decidable (ltr b) := by unfold ltr; exact inferInstance
instance (b : Int) : Decidable (dgt b) := by unfold dgt; exact inferInstance
theorem sLetter (b : Int) : spec_l2Letter.f b = some (decide (ltr b)) := by
  unfold spec_l2Letter.f ltr; by_cases h : b ≥ 97 <;> simp [h]
theorem iLetter (b : Int) : impl_lexLetter.f b = some (decide (ltr b)) := by
  unfold impl_lexLetter.f ltr; by_cases h : b ≥ 97 <;> simp [h]
theorem sDigit (b : Int) : spec_l2Digit.f b = some (decide (dgt b)) := by
  unfold spec_l2Digit.f dgt; by_cases h : b ≥ 48 <;> simp [h]
theorem iDigit (b : Int) : impl_lexDigit.f b = some (decide (dgt b)) := by
  unfold impl_lexDigit.f dgt; by_cases h : b ≥ 48 <;> simp [h]
theorem runBoth {a : ByteArray} (ha : a.size ≤ 1048576) : ∀ i, i ≤ a.size →
    ∃ r : Nat, i ≤ r ∧ r ≤ a.size ∧ W (fun k => spec_l2Run.l0 k a (i : Int)) (· = (r : Int)) ∧ (∀ (x : Int) (P : Int × Int × ByteArray × Int × Int → Prop), W (fun k => impl_lexToken.j1 k a x (r : Int)) P → W (fun k => impl_lexToken.l0 k a x (i : Int)) P) ∧ (i < a.size → ltr (bt a (i : Int)) → i < r) := by
  refine down_all a.size ?_ ?_
  · refine ⟨a.size, by omega, by omega, ?_, fun x P h => ?_, fun h => absurd h (by omega)⟩
    · exact W.step (fun k => by simp only [spec_l2Run.l0]; rfl) (W.neg (by omega) (W.ret rfl))
    · exact W.step (fun k => by simp only [impl_lexToken.l0]; rfl) (W.neg (by omega) h)
  · rintro i hi ⟨r, hr, hr2, s, j, _⟩
    have e1 := w1 (i := i) (by omega)
    by_cases hl : ltr (bt a (i : Int))
    · refine ⟨r, by omega, hr2, ?_, fun x P h => ?_, fun _ _ => by omega⟩
      · refine W.step (fun k => by simp only [spec_l2Run.l0, sLetter, Option.bind_some]; rfl) (W.pos (by omega) (W.pos (by omega) (W.dpos hl ?_)))
        rw [e1]; exact s
      · refine W.step (fun k => by simp only [impl_lexToken.l0, iLetter, Option.bind_some]; rfl) (W.pos (by omega) (W.pos (by omega) (W.dpos hl ?_)))
        rw [e1]; exact j x P h
    by_cases hd : dgt (bt a (i : Int))
    · refine ⟨r, by omega, hr2, ?_, fun x P h => ?_, fun _ _ => by omega⟩
      · refine W.step (fun k => by simp only [spec_l2Run.l0, sLetter, sDigit, Option.bind_some]; rfl) (W.pos (by omega) (W.pos (by omega) (W.dneg hl (W.dpos hd ?_))))
        rw [e1]; exact s
      · refine W.step (fun k => by simp only [impl_lexToken.l0, iLetter, iDigit, Option.bind_some]; rfl) (W.pos (by omega) (W.pos (by omega) (W.dneg hl (W.dpos hd ?_))))
        rw [e1]; exact j x P h
    · refine ⟨i, by omega, by omega, ?_, fun x P h => ?_, fun _ h => absurd h hl⟩
      · exact W.step (fun k => by simp only [spec_l2Run.l0, sLetter, sDigit, Option.bind_some]; rfl) (W.pos (by omega) (W.pos (by omega) (W.dneg hl (W.dneg hd (W.ret rfl)))))
      · exact W.step (fun k => by simp only [impl_lexToken.l0, iLetter, iDigit, Option.bind_some]; rfl) (W.pos (by omega) (W.pos (by omega) (W.dneg hl (W.dneg hd h))))
theorem digBoth {a : ByteArray} (ha : a.size ≤ 1048576) : ∀ i, i ≤ a.size →
    ∃ r : Nat, i ≤ r ∧ r ≤ a.size ∧ W (fun k => spec_l2Digits.l0 k a (i : Int)) (· = (r : Int)) ∧ (∀ (x : Int) (P : Int × Int × ByteArray × Int × Int → Prop), W (fun k => impl_lexToken.j4 k a x (r : Int)) P → W (fun k => impl_lexToken.l1 k a x (i : Int)) P) ∧ (i < a.size → dgt (bt a (i : Int)) → i < r) ∧ (∀ j : Nat, i ≤ j → j < r → dgt (bt a (j : Int))) := by
  refine down_all a.size ?_ ?_
  · refine ⟨a.size, by omega, by omega, ?_, fun x P h => ?_, fun h => absurd h (by omega), fun j h1 h2 => absurd h1 (by omega)⟩
    · exact W.step (fun k => by simp only [spec_l2Digits.l0]; rfl) (W.neg (by omega) (W.ret rfl))
    · exact W.step (fun k => by simp only [impl_lexToken.l1]; rfl) (W.neg (by omega) h)
  · rintro i hi ⟨r, hr, hr2, s, j, _, hall⟩
    have e1 := w1 (i := i) (by omega)
    by_cases hd : dgt (bt a (i : Int))
    · refine ⟨r, by omega, hr2, ?_, fun x P h => ?_, fun _ _ => by omega, fun q h1 h2 => ?_⟩
      · refine W.step (fun k => by simp only [spec_l2Digits.l0, sDigit, Option.bind_some]; rfl) (W.pos (by omega) (W.pos (by omega) (W.dpos hd ?_)))
        rw [e1]; exact s
      · refine W.step (fun k => by simp only [impl_lexToken.l1, iDigit, Option.bind_some]; rfl) (W.pos (by omega) (W.pos (by omega) (W.dpos hd ?_)))
        rw [e1]; exact j x P h
      · rcases Nat.eq_or_lt_of_le h1 with rfl | h3
        · exact hd
        · exact hall q h3 h2
    · refine ⟨i, by omega, by omega, ?_, fun x P h => ?_, fun _ h => absurd h hd, fun q h1 h2 => absurd h1 (by omega)⟩
      · exact W.step (fun k => by simp only [spec_l2Digits.l0, sDigit, Option.bind_some]; rfl) (W.pos (by omega) (W.pos (by omega) (W.dneg hd (W.ret rfl))))
      · exact W.step (fun k => by simp only [impl_lexToken.l1, iDigit, Option.bind_some]; rfl) (W.pos (by omega) (W.pos (by omega) (W.dneg hd h)))
/-! ### numbers -/
theorem bt_get {s : ByteArray} {i : Nat} (h : i < s.size) : bt s (i : Int) = ((s.data.toList[i]'(by rw [data_length]; exact h)).toNat : Int) := by
  unfold bt
  rw [dif_pos (show (i : Int).toNat < s.size by simpa using h)]
  simp
  rfl
theorem decFrom_all {l : List UInt8} (h : ∀ b ∈ l, 48 ≤ b.toNat ∧ b.toNat ≤ 57) : ∀ acc, ∃ V, Go.Lib.decFrom acc l = some V ∧ V < (acc + 1) * 10 ^ l.length ∧ acc ≤ V := by
  induction l with
  | nil => intro acc; exact ⟨acc, rfl, by simp, by omega⟩
  | cons b r ih =>
    intro acc
    have hb := h b (by simp)
    obtain ⟨V, h1, h2, h3⟩ := ih (fun c hc => h c (by simp [hc])) (acc * 10 + (b.toNat - 48))
    refine ⟨V, ?_, ?_, by omega⟩
    · simp only [Go.Lib.decFrom, Go.Lib.digitVal, if_pos hb]
      exact h1
    · refine Nat.lt_of_lt_of_le h2 ?_
      rw [List.length_cons, Nat.pow_succ, Nat.mul_comm (10 ^ r.length) 10, ← Nat.mul_assoc]
      exact Nat.mul_le_mul_right _ (by omega)
theorem value_loop {s : ByteArray} (hz : s.size ≤ 10) (hd : ∀ j : Nat, j < s.size → dgt (bt s (j : Int))) : ∀ i, i ≤ s.size → ∀ acc V : Nat, acc < 10 ^ i → Go.Lib.decFrom acc (s.data.toList.drop i) = some V → W (fun k => spec_l2Value.l0 k s (acc : Int) (i : Int)) (· = if (V : Int) > 2147483647 then -1 else (V : Int)) := by
  refine down_all s.size ?_ ?_
  · intro acc V ha h
    rw [List.drop_of_length_le (by rw [data_length]; omega)] at h
    obtain rfl := Option.some.inj h
    refine W.step (fun k => by simp only [spec_l2Value.l0]; rfl) (W.neg (by omega) ?_)
    exact W.ite (fun h => W.ret (by rw [if_pos h])) (fun h => W.ret (by rw [if_neg h]))
  · intro i hi ih acc V ha h
    have hl : i < s.data.toList.length := by rw [data_length]; exact hi
    rw [List.drop_eq_getElem_cons hl] at h
    have hb := hd i hi
    have hg := bt_get hi
    unfold dgt at hb
    rw [hg] at hb
    simp only [Go.Lib.decFrom, Go.Lib.digitVal, if_pos (show 48 ≤ (s.data.toList[i]).toNat ∧ (s.data.toList[i]).toNat ≤ 57 by omega)] at h
    have hp : (10 : Nat) ^ i ≤ 10 ^ 9 := Nat.pow_le_pow_right (by omega) (by omega)
    have h2 := ih _ V (by rw [Nat.pow_succ]; omega) h
    refine W.step (fun k => by simp only [spec_l2Value.l0]; rfl) (W.pos (by omega) (W.pos (by omega) ?_))
    rw [w1 (by omega), hg, wrap64_id (n := (acc : Int) * 10) (by omega) (by omega), wrap64_id (n := (acc : Int) * 10 + (((s.data.toList[i]).toNat : Int) - 48) % 256) (by omega) (by omega)]
    rw [show (acc : Int) * 10 + (((s.data.toList[i]).toNat : Int) - 48) % 256 = ((acc * 10 + ((s.data.toList[i]).toNat - 48) : Nat) : Int) by omega]
    exact h2
theorem numBoth {s : ByteArray} (h0 : 0 < s.size) (hm : s.size ≤ 1048576) (hd : ∀ j : Nat, j < s.size → dgt (bt s (j : Int))) : ∃ v : Int, W (fun k => spec_l2Value.f k s) (· = v) ∧ W (fun k => impl_lexNumber.f k s) (· = if v < 0 then (0, false) else (v, true)) := by
  have sb : W (fun k => spec_l2Value.j0 k s true) (· = -1) := W.step (fun k => by simp only [spec_l2Value.j0]; rfl) (W.pos (by trivial) (W.ret rfl))
  have ib : W (fun k => impl_lexNumber.j0 k s true) (· = if (-1 : Int) < 0 then (0, false) else (-1, true)) := W.step (fun k => by simp only [impl_lexNumber.j0]; rfl) (W.pos (by trivial) (W.ret rfl))
  by_cases h10 : (s.size : Int) > 10
  · refine ⟨-1, ?_, ?_⟩
    · unfold spec_l2Value.f
      exact W.pos h10 sb
    · unfold impl_lexNumber.f
      rw [decide_eq_true h10]
      exact W.pos (by omega) (W.pos (by omega) (W.ite (fun _ => ib) (fun _ => ib)))
  have good : ∃ v : Int, W (fun k => spec_l2Value.j0 k s false) (· = v) ∧ W (fun k => impl_lexNumber.j0 k s false) (· = if v < 0 then (0, false) else (v, true)) := by
    have hall : ∀ b ∈ s.data.toList, 48 ≤ b.toNat ∧ b.toNat ≤ 57 := by
      intro b hb
      obtain ⟨j, hj, rfl⟩ := List.getElem_of_mem hb
      have hj' : j < s.size := by rw [data_length] at hj; exact hj
      have := hd j hj'
      rw [bt_get hj'] at this
      unfold dgt at this
      omega
    obtain ⟨V, h1, h2, _⟩ := decFrom_all hall 0
    have hA : Go.Lib.atoi s.data.toList = some (V : Int) := by
      cases hl : s.data.toList with
      | nil =>
        have h3 := data_length s
        rw [hl] at h3
        change 0 = s.size at h3
        omega
      | cons b r =>
        rw [hl] at h1 hall
        have hb := hall b (by simp)
        have n1 : (b == 45) = false := by
          apply beq_eq_false_iff_ne.2; rintro rfl; exact absurd hb (by decide)
        have n2 : (b == 43) = false := by
          apply beq_eq_false_iff_ne.2; rintro rfl; exact absurd hb (by decide)
        simp only [Go.Lib.atoi, n1, n2, Go.Lib.decNat]
        simp [h1]
    refine ⟨if (V : Int) > 2147483647 then -1 else (V : Int), ?_, ?_⟩
    · refine W.step (fun k => by simp only [spec_l2Value.j0]; rfl) (W.neg (by decide) ?_)
      exact value_loop (by omega) hd 0 (by omega) 0 V (by decide) (by simpa using h1)
    · have ea : strconv_Atoi.f s = some ((V : Int), none) := by
        unfold strconv_Atoi.f
        rw [if_pos (by omega), hA]; rfl
      refine W.step (fun k => by simp only [impl_lexNumber.j0, ea, Option.bind_some]; rfl) (W.neg (by decide) (W.pos (by trivial) ?_))
      refine W.ite (fun h => W.ret ?_) (fun h => W.ret ?_)
      · rw [if_pos h]; rfl
      · rw [if_neg h, if_neg (by omega)]
  by_cases h1 : (s.size : Int) > 1
  · by_cases h48 : bt s 0 = 48
    · refine ⟨-1, ?_, ?_⟩
      · unfold spec_l2Value.f
        rw [h48]
        exact W.neg h10 (W.pos h1 (W.pos (by omega) sb))
      · unfold impl_lexNumber.f
        exact W.pos h1 (W.pos (by omega) (W.pos h48 ib))
    · obtain ⟨v, g1, g2⟩ := good
      refine ⟨v, ?_, ?_⟩
      · unfold spec_l2Value.f
        rw [show (bt s 0 == 48) = false from beq_eq_false_iff_ne.2 h48]
        exact W.neg h10 (W.pos h1 (W.pos (by omega) g1))
      · unfold impl_lexNumber.f
        rw [decide_eq_false h10]
        exact W.pos h1 (W.pos (by omega) (W.neg h48 g2))
  · obtain ⟨v, g1, g2⟩ := good
    refine ⟨v, ?_, ?_⟩
    · unfold spec_l2Value.f
      exact W.neg h10 (W.neg h1 g1)
    · unfold impl_lexNumber.f
      rw [decide_eq_false h10]
      exact W.neg h1 g2

/-! ### signs -/
theorem sSign {a : ByteArray} {n : Nat} (hn : n < a.size) (ha : a.size ≤ 1048576) : W (fun k => spec_SignAt.f k a (n : Int)) (· = Base.signAt a n) := by
  have sLoop2 : W (fun k => spec_SignAt.l0 k a (n : Int) PFnExactSignAt.tbl ((0 : Nat) : Int)) (· = first a n (PFnExactSignAt.tbl.drop 0)) := by
    have hs : ∀ s ∈ PFnExactSignAt.tbl, s.size ≤ 2 := by decide
    refine down_ind (Q := fun i => W (fun k => spec_SignAt.l0 k a (n : Int) PFnExactSignAt.tbl (i : Int)) (· = first a n (PFnExactSignAt.tbl.drop i))) 30 ?_ ?_
    · refine W.step (fun k => by simp only [spec_SignAt.l0]; rfl) ?_
      exact W.neg (by rw [PFnExactSignAt.tbl_len]; omega) (W.ret rfl)
    · intro i hi ih
      have hl : i < PFnExactSignAt.tbl.length := by rw [PFnExactSignAt.tbl_len]; exact hi
      have h2 := hs PFnExactSignAt.tbl[i] (List.getElem_mem hl)
      refine W.step (fun k => by simp only [spec_SignAt.l0]; rfl) ?_
      refine W.pos (by omega) (W.pos (by omega) ?_)
      rw [rdT hl, wrap64_id (n := (i : Int) + 1) (by omega) (by omega), show (i : Int) + 1 = ((i + 1 : Nat) : Int) by omega, wrap64_id (n := (a.size : Int) - (n : Int)) (by omega) (by omega), wrap64_id (n := (n : Int) + (PFnExactSignAt.tbl[i].size : Int)) (by omega) (by omega), List.drop_eq_getElem_cons hl]
      refine W.ite (fun h3 => ?_) (fun h3 => ?_)
      · refine W.pos (by omega) (W.pos (by omega) (W.pos (by omega) ?_))
        rw [Int.toNat_natCast, show ((n : Int) + (PFnExactSignAt.tbl[i].size : Int)).toNat = n + PFnExactSignAt.tbl[i].size by omega]
        refine W.ite (fun h => W.ret ?_) (fun h => ?_)
        · simp only [first]; rw [if_pos (show sgn a n PFnExactSignAt.tbl[i] from ⟨by omega, h⟩)]
        · simp only [first]; rw [if_neg (fun hc : sgn a n PFnExactSignAt.tbl[i] => h hc.2)]; exact ih
      · simp only [first]; rw [if_neg (fun hc : sgn a n PFnExactSignAt.tbl[i] => h3 (by have := hc.1; omega))]; exact ih
  have e : Base.signAt a n = first a n (PFnExactSignAt.tbl.drop 0) := by
    unfold Base.signAt
    rw [if_neg (by omega), if_neg (by omega)]
    rfl
  rw [e]
  unfold spec_SignAt.f
  rw [decide_eq_false (show ¬ ((n : Int) ≥ (a.size : Int)) by omega)]
  refine W.neg (by omega) ?_
  refine W.step (fun k => by simp only [spec_SignAt.j0]; rfl) ?_
  (try refine W.neg (by decide) ?_)
  refine W.bind (Q := (· = PFnExactSignAt.tbl)) (W.const rfl rfl) ?_
  rintro _ rfl
  exact sLoop2
theorem toList_inj {x y : ByteArray} (h : x.toList = y.toList) : x = y := by
  rw [Go.ByteArray.toList_eq, Go.ByteArray.toList_eq] at h
  exact ByteArray.ext (Array.toList_inj.mp h)
theorem toList_length (x : ByteArray) : x.toList.length = x.size := by rw [Go.ByteArray.toList_eq, data_length]
theorem first_cases (a : ByteArray) (n : Nat) : ∀ l : List ByteArray, first a n l = (⟨#[]⟩ : ByteArray) ∨ (first a n l ∈ l ∧ sgn a n (first a n l))
  | [] => .inl rfl
  | s :: l => by
    unfold first
    by_cases h : sgn a n s
    · rw [if_pos h]; exact .inr ⟨by simp, h⟩
    · rw [if_neg h]
      rcases first_cases a n l with e | ⟨h1, h2⟩
      · exact .inl e
      · exact .inr ⟨by simp [h1], h2⟩
theorem sign_cases {a : ByteArray} {n : Nat} (hn : n < a.size) : Base.signAt a n = (⟨#[]⟩ : ByteArray) ∨ (Base.signAt a n ∈ PFnExactSignAt.tbl ∧ n + (Base.signAt a n).size ≤ a.size ∧ Base.signAt a n = a.extract n (n + (Base.signAt a n).size)) := by
  have e : Base.signAt a n = first a n PFnExactSignAt.tbl := by
    unfold Base.signAt
    rw [if_neg (by omega), if_neg (by omega)]
    rfl
  rw [e]
  rcases first_cases a n PFnExactSignAt.tbl with h | ⟨h1, h2, h3⟩
  · exact .inl h
  · exact .inr ⟨h1, h2, (toList_inj h3).symm⟩
/-! ### words -/
theorem word_step {c : Prop} {ic1 ic2 : Decidable c} {y w : Option Bool} (h : ¬ c → ∃ r, y = some r ∧ w = some r) : ∃ r, (@_root_.ite _ c ic1 (some true) y) = some r ∧ (@_root_.ite _ c ic2 (some true) w) = some r := by
  by_cases hc : c
  · exact ⟨true, by rw [if_pos hc], by rw [if_pos hc]⟩
  · obtain ⟨r, h1, h2⟩ := h hc
    exact ⟨r, by rw [if_neg hc]; exact h1, by rw [if_neg hc]; exact h2⟩
theorem words_same (a : ByteArray) : ∃ r, spec_WordOk.f a = some r ∧ impl_WordOk.f a = some r := by
  unfold spec_WordOk.f impl_WordOk.f
  iterate 16 (refine word_step (fun h => ?_); clear h)
  by_cases h : a.toList = ([110, 117, 108, 108] : List UInt8)
  · exact ⟨true, by rw [h]; rfl, by rw [if_pos h]⟩
  · exact ⟨false, by congr 1; exact beq_eq_false_iff_ne.2 h, by rw [if_neg h]⟩
theorem word_head {c : Prop} {ic : Decidable c} {y : Option Bool} {Q : Prop} (h1 : c → Q) (h2 : y = some true → Q) (h : (@_root_.ite _ c ic (some true) y) = some true) : Q := by
  by_cases hc : c
  · exact h1 hc
  · rw [if_neg hc] at h; exact h2 h
/-- A word begins with a letter. -/
theorem word_letter {a : ByteArray} (h : impl_WordOk.f a = some true) : ∃ b r, a.toList = b :: r ∧ 97 ≤ b.toNat ∧ b.toNat ≤ 122 := by
  unfold impl_WordOk.f at h
  iterate 17 (revert h; refine word_head (fun h => ⟨_, _, h, by decide⟩) ?_; intro h)
  cases h
theorem word_sign {s : ByteArray} (h : s ∈ PFnExactSignAt.tbl) : impl_WordOk.f s = some false := by
  have hb : ∀ s ∈ PFnExactSignAt.tbl, (s.data.toList.headD 97).toNat < 97 ∨ 122 < (s.data.toList.headD 97).toNat := by decide
  obtain ⟨r, _, h2⟩ := words_same s
  cases r with
  | false => exact h2
  | true =>
    obtain ⟨b, q, e, h3, h4⟩ := word_letter h2
    have h5 := hb s h
    rw [Go.ByteArray.toList_eq] at e
    rw [e] at h5
    simp only [List.headD_cons] at h5
    omega
/-! ### one token -/
/-- A token that stands at n and ends at m. -/
def Tk (a : ByteArray) (n m : Nat) (t : S42) : Prop :=
  n < m ∧ m ≤ a.size ∧ t.f1 = (n : Int) ∧ t.f2 = a.extract n m ∧ (t.f0 = 4 → Base.signAt a n = t.f2) ∧ impl_WordOk.f t.f2 = some (decide (t.f0 = 3))
theorem ext_size {a : ByteArray} {n m : Nat} (h : m ≤ a.size) : (a.extract n m).size = m - n := by
  simp [ByteArray.size_extract]; omega
theorem bt_ext {a : ByteArray} {n m j : Nat} (h : m ≤ a.size) (hj : n + j < m) : bt (a.extract n m) (j : Int) = bt a ((n + j : Nat) : Int) := by
  unfold bt
  rw [dif_pos (show (j : Int).toNat < (a.extract n m).size by rw [ext_size h]; omega), dif_pos (show ((n + j : Nat) : Int).toNat < a.size by omega)]
  simp only [Int.toNat_natCast, ByteArray.getElem_extract]
theorem clone_f {a : ByteArray} (h : a.size ≤ 1048576) : strings_Clone.f a = some a := by
  unfold strings_Clone.f; rw [if_pos (by omega)]
theorem oneBoth {a : ByteArray} (ha : a.size ≤ 1048576) {i : Nat} (hi : i < a.size) :
    ∃ (t : S42) (e c : Int), W (fun k => spec_l2One.f k a (i : Int)) (· = (t.f0, t.f1, t.f2, t.f3, e, c)) ∧ W (fun k => impl_lexToken.f k a (i : Int)) (· = if c = 0 then (t.f0, t.f1, t.f2, t.f3, 0) else (0, 0, (⟨#[]⟩ : ByteArray), 0, c)) ∧ (c = 0 → ∃ m : Nat, e = (m : Int) ∧ Tk a i m t) := by
  by_cases hl : ltr (bt a (i : Int))
  · obtain ⟨r, hr, hr2, s, j, hlt⟩ := runBoth ha i (by omega)
    have hir := hlt hi hl
    have hx := ext_size (a := a) (n := i) hr2
    obtain ⟨b, hw1, hw2⟩ := words_same (a.extract i r)
    have s' : ∀ z : Int, z = (if b = true then 3 else 1) → W (fun k => spec_l2One.f k a (i : Int)) (· = (z, (i : Int), a.extract i r, 0, (r : Int), if r - i > 8 then 3 else 0)) := by
      rintro _ rfl
      unfold spec_l2One.f
      simp only [sLetter, Option.bind_some]
      refine W.pos (by omega) (W.pos (by omega) (W.dpos hl ?_))
      refine W.bind (Q := (· = (r : Int))) (by unfold spec_l2Run.f; exact s) ?_
      rintro _ rfl
      refine W.pos (by omega) (W.pos (by omega) ?_)
      simp only [Int.toNat_natCast, hw1, Option.bind_some, hx]
      cases b
      · refine W.neg (by decide) (W.ite (fun h => W.ret ?_) (fun h => W.ret ?_))
        · rw [if_neg (by decide), if_pos (by omega)]
        · rw [if_neg (by decide), if_neg (by omega)]
      · refine W.pos (by trivial) (W.ite (fun h => W.ret ?_) (fun h => W.ret ?_))
        · rw [if_pos (by trivial), if_pos (by omega)]
        · rw [if_pos (by trivial), if_neg (by omega)]
    have i0 : ∀ P : Int × Int × ByteArray × Int × Int → Prop, W (fun k => impl_lexToken.j1 k a (i : Int) (r : Int)) P → W (fun k => impl_lexToken.f k a (i : Int)) P := by
      intro P h
      unfold impl_lexToken.f
      simp only [iLetter, Option.bind_some]
      exact W.pos (by omega) (W.pos (by omega) (W.dpos hl (j _ _ h)))
    by_cases h8 : r - i > 8
    · refine ⟨⟨if b = true then 3 else 1, (i : Int), a.extract i r, 0⟩, (r : Int), 3, ?_, ?_, fun h => absurd h (by decide)⟩
      · have := s' _ rfl
        rw [if_pos h8] at this
        exact this
      · refine i0 _ (W.step (fun k => by simp only [impl_lexToken.j1]; rfl) ?_)
        rw [wrap64_id (n := (r : Int) - (i : Int)) (by omega) (by omega)]
        exact W.pos (by omega) (W.ret (by rw [if_neg (by decide)]))
    · refine ⟨⟨if b = true then 3 else 1, (i : Int), a.extract i r, 0⟩, (r : Int), 0, ?_, ?_, fun _ => ⟨r, rfl, hir, hr2, rfl, rfl, ?_, ?_⟩⟩
      · have := s' _ rfl
        rw [if_neg h8] at this
        exact this
      · refine i0 _ (W.step (fun k => by simp only [impl_lexToken.j1]; rfl) ?_)
        show W _ (· = ((if b = true then (3 : Int) else 1), (i : Int), a.extract i r, (0 : Int), (0 : Int)))
        rw [wrap64_id (n := (r : Int) - (i : Int)) (by omega) (by omega)]
        refine W.neg (by omega) (W.pos (by omega) (W.pos (by omega) (W.pos (by omega) ?_)))
        simp only [Int.toNat_natCast, hw2, Option.bind_some]
        have j2 : ∀ z : Int, W (fun k => impl_lexToken.j2 k a (i : Int) (r : Int) z) (· = (z, (i : Int), a.extract i r, 0, 0)) := by
          intro z
          refine W.step (fun k => by simp only [impl_lexToken.j2, Int.toNat_natCast, clone_f (show (a.extract i r).size ≤ 1048576 by omega), Option.bind_some]; rfl) ?_
          exact W.pos (by omega) (W.pos (by omega) (W.pos (by omega) (W.ret rfl)))
        cases b
        · exact W.neg (by decide) (j2 1)
        · exact W.pos (by trivial) (j2 3)
      · cases b <;> simp
      · rw [hw2]; cases b <;> rfl
  by_cases hd : dgt (bt a (i : Int))
  · obtain ⟨r, hr, hr2, s, j, hlt, hall⟩ := digBoth ha i (by omega)
    have hir := hlt hi hd
    have hx := ext_size (a := a) (n := i) hr2
    have hbt : ∀ q : Nat, q < (a.extract i r).size → dgt (bt (a.extract i r) (q : Int)) := by
      intro q hq
      rw [bt_ext hr2 (by omega)]
      exact hall _ (by omega) (by omega)
    obtain ⟨v, hv1, hv2⟩ := numBoth (s := a.extract i r) (by omega) (by omega) hbt
    have hnw : impl_WordOk.f (a.extract i r) = some false := by
      obtain ⟨b, _, hw2⟩ := words_same (a.extract i r)
      cases b with
      | false => exact hw2
      | true =>
        obtain ⟨b, q, h1, h2, _⟩ := word_letter hw2
        have h3 := hbt 0 (by omega)
        rw [bt_get (by omega)] at h3
        rw [Go.ByteArray.toList_eq] at h1
        have : ((a.extract i r).data.toList[0]'(by rw [data_length]; omega)) = b := (List.getElem_of_eq h1 _).trans rfl
        rw [this] at h3
        unfold dgt at h3
        omega
    refine ⟨⟨2, (i : Int), a.extract i r, v⟩, (r : Int), if v < 0 then 4 else 0, ?_, ?_, fun _ => ⟨r, rfl, hir, hr2, rfl, rfl, fun h => absurd (show (2 : Int) = 4 from h) (by decide), ?_⟩⟩
    · unfold spec_l2One.f
      simp only [sLetter, sDigit, Option.bind_some]
      refine W.pos (by omega) (W.pos (by omega) (W.dneg hl (W.dpos hd ?_)))
      refine W.bind (Q := (· = (r : Int))) (by unfold spec_l2Digits.f; exact s) ?_
      rintro _ rfl
      refine W.pos (by omega) (W.pos (by omega) ?_)
      simp only [Int.toNat_natCast]
      refine W.bind hv1 ?_
      rintro _ rfl
      exact W.ite (fun h => W.ret (by rw [if_pos h])) (fun h => W.ret (by rw [if_neg h]))
    · unfold impl_lexToken.f
      simp only [iLetter, iDigit, Option.bind_some]
      refine W.pos (by omega) (W.pos (by omega) (W.dneg hl (W.dpos hd (j _ _ ?_))))
      refine W.step (fun k => by simp only [impl_lexToken.j4, Int.toNat_natCast, clone_f (show (a.extract i r).size ≤ 1048576 by omega), Option.bind_some]; rfl) ?_
      refine W.pos (by omega) (W.pos (by omega) (W.pos (by omega) ?_))
      refine W.bind hv2 ?_
      rintro _ rfl
      by_cases h : v < 0
      · simp only [if_pos h]
        exact W.neg (by decide) (W.ret (by rw [if_neg (by decide)]))
      · simp only [if_neg h]
        exact W.pos (by trivial) (W.ret rfl)
    · rw [hnw]; rfl
  · have sg : ∀ P, (∀ t : ByteArray, t = Base.signAt a i → W (fun _ => if t.toList = ([] : List UInt8) then some (4, (i : Int), t, 0, (i : Int), 2) else some (4, (i : Int), t, 0, wrap64 ((i : Int) + (t.size : Int)), 0)) P) → W (fun k => spec_l2One.f k a (i : Int)) P := by
      intro P h
      unfold spec_l2One.f
      simp only [sLetter, sDigit, Option.bind_some]
      refine W.pos (by omega) (W.pos (by omega) (W.dneg hl (W.dneg hd ?_)))
      refine W.bind (sSign hi ha) ?_
      intro t ht
      exact h t ht
    have ig : ∀ P, (∀ t : ByteArray, t = Base.signAt a i → W (fun _ => if t.toList = ([] : List UInt8) then some (0, 0, (⟨#[]⟩ : ByteArray), 0, 2) else some (4, (i : Int), t, 0, 0)) P) → W (fun k => impl_lexToken.f k a (i : Int)) P := by
      intro P h
      unfold impl_lexToken.f
      simp only [iLetter, iDigit, Option.bind_some, impl_SignAt.f]
      refine W.pos (by omega) (W.pos (by omega) (W.dneg hl (W.dneg hd ?_)))
      exact h _ rfl
    rcases sign_cases hi with h0 | ⟨h1, h2, h3⟩
    · refine ⟨⟨4, (i : Int), Base.signAt a i, 0⟩, (i : Int), 2, sg _ ?_, ig _ ?_, fun h => absurd h (by decide)⟩
      · rintro _ rfl
        exact W.pos (by rw [h0, Go.ByteArray.toList_eq]) (W.ret rfl)
      · rintro _ rfl
        exact W.pos (by rw [h0, Go.ByteArray.toList_eq]) (W.ret (by rw [if_neg (by decide)]))
    · have hne : 0 < (Base.signAt a i).size := by
        have : ∀ s ∈ PFnExactSignAt.tbl, 0 < s.size := by decide
        exact this _ h1
      have hnl : ¬ (Base.signAt a i).toList = ([] : List UInt8) := by
        intro h
        have := congrArg List.length h
        rw [toList_length] at this
        change (Base.signAt a i).size = 0 at this
        omega
      refine ⟨⟨4, (i : Int), Base.signAt a i, 0⟩, wrap64 ((i : Int) + ((Base.signAt a i).size : Int)), 0, sg _ ?_, ig _ ?_, fun _ => ⟨i + (Base.signAt a i).size, ?_, by omega, h2, rfl, h3, fun _ => rfl, ?_⟩⟩
      · rintro _ rfl
        exact W.neg hnl (W.ret rfl)
      · rintro _ rfl
        exact W.neg hnl (W.ret rfl)
      · rw [wrap64_id (by omega) (by omega)]; omega
      · rw [word_sign h1]; rfl
/-! ### all tokens -/
def Chain (a : ByteArray) : Nat → List S42 → Prop
  | _, [] => True
  | e, t :: l => ∃ n m : Nat, e ≤ n ∧ Tk a n m t ∧ Chain a m l
theorem toksFrom {a : ByteArray} (ha : a.size ≤ 3000) (d : Nat) : ∀ (i e : Nat) (ys : List S42), a.size - i ≤ d → i ≤ a.size → e ≤ i → ys.length ≤ 700 →
    ∃ (l : List S42) (c p : Int), W (fun k => spec_LexTokens.l0 k a [] ys (i : Int)) (· = (l, c, p)) ∧ W (fun k => impl_LexTokens.l0 k a ys (i : Int)) (· = (l, c, p)) ∧ l.length ≤ 700 ∧ (c ≠ 0 → l = []) ∧ (c = 0 → ∃ new, l = ys ++ new ∧ Chain a e new) := by
  induction d with
  | zero =>
    intro i e ys hd hi he hy
    refine ⟨ys, 0, 0, ?_, ?_, hy, fun h => absurd rfl h, fun _ => ⟨[], by simp, trivial⟩⟩
    · exact W.step (fun k => by simp only [spec_LexTokens.l0]; rfl) (W.neg (by omega) (W.ret rfl))
    · exact W.step (fun k => by simp only [impl_LexTokens.l0]; rfl) (W.neg (by omega) (W.ret rfl))
  | succ d ih =>
    intro i e ys hd hi he hy
    rcases Nat.eq_or_lt_of_le hi with rfl | hlt
    · exact ⟨ys, 0, 0, W.step (fun k => by simp only [spec_LexTokens.l0]; rfl) (W.neg (by omega) (W.ret rfl)), W.step (fun k => by simp only [impl_LexTokens.l0]; rfl) (W.neg (by omega) (W.ret rfl)), hy, fun h => absurd rfl h, fun _ => ⟨[], by simp, trivial⟩⟩
    obtain ⟨t, x, c, hs, hI, htk⟩ := oneBoth (by omega) hlt
    have sS : ∀ P, W (fun k => if c = 0 then (if (ys.length : Int) ≥ 700 then some (([] : List S42), 5, (i : Int)) else if ys.length < 3518437208883 then (spec_l2Skip.f k a x).bind fun t140 => spec_LexTokens.l0 k a [] (ys ++ [t]) t140 else none) else some (([] : List S42), c, (i : Int))) P → W (fun k => spec_LexTokens.l0 k a [] ys (i : Int)) P := by
      intro P h
      refine W.step (fun k => by simp only [spec_LexTokens.l0]; rfl) (W.pos (by omega) ?_)
      refine W.bind hs ?_
      rintro _ rfl
      exact h
    by_cases hc : c = 0
    · subst hc
      obtain ⟨m, rfl, tk⟩ := htk rfl
      rw [if_pos rfl] at hI
      have iS : ∀ P, W (fun k => impl_LexTokens.j1 k a ys (i : Int) 0 ((ys.length : Int) == 700) t.f0 t.f1 t.f2 t.f3) P → W (fun k => impl_LexTokens.l0 k a ys (i : Int)) P := by
        intro P h
        refine W.step (fun k => by simp only [impl_LexTokens.l0]; rfl) (W.pos (by omega) ?_)
        refine W.bind hI ?_
        rintro _ rfl
        exact W.pos rfl h
      by_cases h7 : ys.length = 700
      · refine ⟨[], 5, (i : Int), sS _ ?_, iS _ ?_, by simp, fun _ => rfl, fun h => absurd h (by decide)⟩
        · exact W.pos rfl (W.pos (by omega) (W.ret rfl))
        · rw [show ((ys.length : Int) == 700) = true by simp [h7]]
          exact W.step (fun k => by simp only [impl_LexTokens.j1]; rfl) (W.pos (by trivial) (W.ret rfl))
      · have tk0 := tk
        obtain ⟨h1, h2, h3, h4, -⟩ := tk
        obtain ⟨⟨r, hr, hr2, q1, q2⟩, -⟩ := skipBoth (a := a) (by omega) m h2
        obtain ⟨l, c, p, g1, g2, g3, g4, g5⟩ := ih r m (ys ++ [t]) (by omega) hr2 hr (by simp; omega)
        refine ⟨l, c, p, sS _ ?_, iS _ ?_, g3, g4, fun hc => ?_⟩
        · refine W.pos rfl (W.neg (by omega) (W.pos (by omega) ?_))
          refine W.bind (Q := (· = (r : Int))) (by unfold spec_l2Skip.f; exact q1) ?_
          rintro _ rfl
          exact g1
        · rw [show ((ys.length : Int) == 700) = false by simp; omega]
          refine W.step (fun k => by simp only [impl_LexTokens.j1]; rfl) (W.neg (by decide) (W.pos (by trivial) (W.pos (by omega) ?_)))
          have hz : t.f2.size = m - i := by rw [h4, ext_size h2]
          rw [wrap64_id (n := (i : Int) + (t.f2.size : Int)) (by omega) (by omega), show (i : Int) + (t.f2.size : Int) = (m : Int) by omega]
          refine W.bind (Q := (· = (r : Int))) (by unfold impl_lexSkip.f; exact q2) ?_
          rintro _ rfl
          exact g2
        · obtain ⟨new, e1, e2⟩ := g5 hc
          exact ⟨t :: new, by rw [e1]; simp, i, m, he, tk0, e2⟩
    · rw [if_neg hc] at hI
      refine ⟨[], c, (i : Int), sS _ (W.neg hc (W.ret rfl)), ?_, by simp, fun _ => rfl, fun h => absurd h hc⟩
      refine W.step (fun k => by simp only [impl_LexTokens.l0]; rfl) (W.pos (by omega) ?_)
      refine W.bind hI ?_
      rintro _ rfl
      refine W.neg hc ?_
      exact W.step (fun k => by simp only [impl_LexTokens.j1]; rfl) (W.neg (by decide) (W.neg hc (W.ret rfl)))
theorem toksBoth (a : ByteArray) : ∃ (l : List S42) (c p : Int), W (fun k => spec_LexTokens.f k a) (· = (l, c, p)) ∧ W (fun k => impl_LexTokens.f k a) (· = (l, c, p)) ∧ l.length ≤ 700 ∧ (c ≠ 0 → l = []) ∧ (c = 0 → Chain a 0 l) ∧ (c = 0 → a.size ≤ 3000) := by
  by_cases h : (a.size : Int) > 3000
  · refine ⟨[], 1, 0, ?_, ?_, by simp, fun _ => rfl, fun h => absurd h (by decide), fun h => absurd h (by decide)⟩
    · unfold spec_LexTokens.f
      simp only [Option.bind_some]
      exact W.pos h (W.ret rfl)
    · unfold impl_LexTokens.f
      exact W.pos h (W.ret rfl)
  · obtain ⟨⟨r, hr, hr2, q1, q2⟩, -⟩ := skipBoth (a := a) (by omega) 0 (by omega)
    obtain ⟨l, c, p, g1, g2, g3, g4, g5⟩ := toksFrom (by omega) (a.size - r) r 0 [] (by omega) hr2 (by omega) (by simp)
    refine ⟨l, c, p, ?_, ?_, g3, g4, fun hc => ?_, fun _ => by omega⟩
    · unfold spec_LexTokens.f
      simp only [Option.bind_some]
      refine W.neg h ?_
      refine W.bind (Q := (· = (r : Int))) (by unfold spec_l2Skip.f; exact q1) ?_
      rintro _ rfl
      exact g1
    · unfold impl_LexTokens.f
      refine W.neg h ?_
      refine W.bind (Q := (· = (r : Int))) (by unfold impl_lexSkip.f; exact q2) ?_
      rintro _ rfl
      exact g2
    · obtain ⟨new, e1, e2⟩ := g5 hc
      rw [e1]; exact e2

/-! ### the reader of codes -/
theorem rd_byte {b : List Int} (hb : ∀ x ∈ b, 0 ≤ x ∧ x ≤ 255) (i : Int) : 0 ≤ rd b i ∧ rd b i ≤ 255 := by
  unfold rd
  rw [List.getD_eq_getElem?_getD]
  by_cases h : i.toNat < b.length
  · rw [List.getElem?_eq_getElem h]; exact hb _ (List.getElem_mem h)
  · rw [List.getElem?_eq_none (by omega)]; simp
theorem xor64 {a b : Int} (h0 : 0 ≤ a) (h1 : a ≤ 9223372036854775807) (h2 : 0 ≤ b) (h3 : b ≤ 9223372036854775807) : 0 ≤ Go.bits .xor .i64 a b := by
  show 0 ≤ IntKind.i64.wrap ((BitVec.ofInt 64 a ^^^ BitVec.ofInt 64 b).toNat : Int)
  rw [wrap64_bv]
  have e : ∀ x : Int, 0 ≤ x → x ≤ 9223372036854775807 → (BitVec.ofInt 64 x).toNat = x.toNat := by
    intro x g0 g1
    rw [BitVec.toNat_ofInt]; congr 1; exact Int.emod_eq_of_lt g0 (by omega)
  rw [BitVec.toInt_eq_toNat_cond, BitVec.toNat_xor, e a h0 h1, e b h2 h3]
  have := Nat.xor_lt_two_pow (n := 63) (x := a.toNat) (y := b.toNat) (by omega) (by omega)
  rw [if_pos (by omega)]
  omega
def Pick (p n : Int) (r : Int × Int) : Prop := r.2 = p + 1 ∧ (1 ≤ n → 0 ≤ r.1 ∧ r.1 < n)
theorem pick_ok {b : List Int} (hb : ∀ x ∈ b, 0 ≤ x ∧ x ≤ 255) (hl : b.length ≤ 2000) (p n : Int) (hp : 0 ≤ p) (hq : p ≤ 1000000) : W (fun k => spec_l1Rd_pick.f k b p n) (Pick p n) := by
  unfold spec_l1Rd_pick.f
  rw [wrap64_id (n := p + 1) (by omega) (by omega)]
  refine W.ite (fun h => ?_) (fun h => ?_)
  · exact W.step (f := fun _ => some (0, p + 1)) (fun k => by simp only [spec_l1Rd_pick.j0, if_true]) (W.ret ⟨rfl, fun h1 => by omega⟩)
  · by_cases hz : b.length = 0
    · exact W.step (f := fun _ => some (0, p + 1)) (fun k => by simp only [spec_l1Rd_pick.j0, hz]; rfl) (W.ret ⟨rfl, fun h1 => by simp only; omega⟩)
    · have e : ((b.length : Int) == 0) = false := by simpa using hz
      rw [e]
      refine W.step (fun k => by simp only [spec_l1Rd_pick.j0]; rfl) ?_
      rw [show p + 1 - 1 = p by omega, wrap64_id (n := p) (by omega) (by omega)]
      refine W.neg (by decide) ?_
      have hn0 : ¬ n = 0 := by omega
      have ht : ∀ x : Int, 0 ≤ x → Pick p n (x.tmod n, p + 1) := fun x hx => ⟨rfl, fun h1 => tmod_pos hx h1⟩
      refine W.ite (fun h1 => ?_) (fun h1 => ?_)
      · refine W.pos hp (W.neg hn0 (W.ret ?_))
        have := rd_byte hb p
        rw [wrap64_id (by omega) (by omega)]
        exact ht _ this.1
      · have hL : (1 : Int) ≤ b.length := by omega
        refine W.neg (by omega) ?_
        have t1 := tmod_pos (a := p) hp hL
        have t2 := tmod_pos (a := p * 7 + 3) (by omega) hL
        rw [wrap64_id (n := p * 7) (by omega) (by omega), wrap64_id (n := p * 7 + 3) (by omega) (by omega)]
        refine W.pos t1.1 (W.pos t1.2 (W.pos t2.1 (W.pos t2.2 (W.neg hn0 (W.ret ?_)))))
        have r1 := rd_byte hb (Int.tmod p b.length)
        have r2 := rd_byte hb (Int.tmod (p * 7 + 3) b.length)
        have d1 : 0 ≤ Int.tdiv p b.length ∧ Int.tdiv p b.length ≤ p := by
          rw [Int.tdiv_eq_ediv_of_nonneg hp]
          exact ⟨Int.ediv_nonneg hp (by omega), Int.ediv_le_self _ hp⟩
        generalize rd b (Int.tmod p b.length) = c1 at *
        generalize rd b (Int.tmod (p * 7 + 3) b.length) = c2 at *
        generalize Int.tdiv p b.length = c3 at *
        rw [wrap64_id (n := c1) (by omega) (by omega), wrap64_id (n := c2) (by omega) (by omega), wrap64_id (n := c3) (by omega) (by omega), wrap64_id (n := c1 * 131) (by omega) (by omega), wrap64_id (n := c2 * 1117) (by omega) (by omega),
          wrap64_id (n := c1 * 131 + c2 * 1117) (by omega) (by omega), wrap64_id (n := p * 29) (by omega) (by omega), wrap64_id (n := c1 * 131 + c2 * 1117 + p * 29) (by omega) (by omega), wrap64_id (n := c3 * 53) (by omega) (by omega),
          wrap64_id (n := c1 * 131 + c2 * 1117 + p * 29 + c3 * 53) (by omega) (by omega)]
        refine ht _ (xor64 (by omega) (by omega) ?_ ?_)
        · rw [Int.tdiv_eq_ediv_of_nonneg (by omega), wrap64_id (by omega) (by omega)]; omega
        · rw [Int.tdiv_eq_ediv_of_nonneg (by omega), wrap64_id (by omega) (by omega)]; omega

theorem open_ok (code : List Int) (hb : ∀ x ∈ code, (Lit.int .u8 x).wf = true) : ∃ b, spec_l1Open.f code = some (b, 0) ∧ b.length ≤ 2000 ∧ ∀ x ∈ b, 0 ≤ x ∧ x ≤ 255 := by
  unfold spec_l1Open.f
  by_cases h : (code.length : Int) > 2000
  · rw [if_pos h, if_pos (by omega)]
    exact ⟨_, rfl, by simp; omega, fun x hx => u8_wf (hb x (List.mem_of_mem_take hx))⟩
  · rw [if_neg h]
    exact ⟨_, rfl, by omega, fun x hx => u8_wf (hb x hx)⟩

/-! ### the drawn texts -/
/-- One of some texts, picked. -/
theorem pick_text {b : List Int} (hb : ∀ x ∈ b, 0 ≤ x ∧ x ≤ 255) (hl : b.length ≤ 2000) (p : Int) (hp : 0 ≤ p) (hq : p ≤ 1000000) {n : Int} {ys : List ByteArray} {α : Type} {P : α → Prop} (f : Nat → ByteArray → Int → Option α)
    (h0 : n = (ys.length : Int) ∧ 0 < ys.length) (hs : ∀ y ∈ ys, y.size ≤ 30) (h : ∀ y : ByteArray, y.size ≤ 30 → W (fun k => f k y (p + 1)) P) :
    W (fun k => (spec_l1Rd_pick.f k b p n).bind fun bt => if 0 ≤ bt.1 then (if bt.1 < (ys.length : Int) then f k (rdOf ByteArray.empty ys bt.1) bt.2 else none) else none) P := by
  refine W.bind (pick_ok hb hl p _ hp hq) ?_
  rintro ⟨c, q⟩ ⟨rfl, hc⟩
  obtain ⟨rfl, hn⟩ := h0
  have hc' := hc (by omega)
  simp only at hc'
  refine W.pos hc'.1 (W.pos hc'.2 (h _ ?_))
  have hi : c.toNat < ys.length := by omega
  have e : rdOf ByteArray.empty ys c = ys[c.toNat] := by simp [rdOf, List.getD_eq_getElem?_getD, List.getElem?_eq_getElem hi]
  rw [e]
  exact hs _ (List.getElem_mem hi)
theorem word_ok {b : List Int} (hb : ∀ x ∈ b, 0 ≤ x ∧ x ≤ 255) (hl : b.length ≤ 2000) (p : Int) (hp : 0 ≤ p) (hq : p ≤ 900000) : W (fun k => spec_l2Word.f k b p) (fun r => r.1.size ≤ 30 ∧ r.2 = p + 2) := by
  unfold spec_l2Word.f
  refine W.bind (pick_ok hb hl p 8 hp (by omega)) ?_
  rintro ⟨c, q⟩ ⟨rfl, _⟩
  simp only
  refine W.ite (fun _ => ?_) (fun _ => W.ite (fun _ => ?_) (fun _ => W.ite (fun _ => ?_) (fun _ => ?_)))
  · refine W.bind (W.ret (P := (· = _)) rfl) ?_
    rintro _ rfl
    refine pick_text hb hl (p + 1) (by omega) (by omega) (fun _ y q => some (y, q)) ⟨rfl, by decide⟩ ?_ (fun y hy => W.ret ⟨hy, by omega⟩)
    decide
  · refine W.bind (W.ret (P := (· = _)) rfl) ?_
    rintro _ rfl
    refine pick_text hb hl (p + 1) (by omega) (by omega) (fun _ y q => some (y, q)) ⟨rfl, by decide⟩ ?_ (fun y hy => W.ret ⟨hy, by omega⟩)
    decide
  · refine W.bind (W.ret (P := (· = _)) rfl) ?_
    rintro _ rfl
    refine pick_text hb hl (p + 1) (by omega) (by omega) (fun _ y q => some (y, q)) ⟨rfl, by decide⟩ ?_ (fun y hy => W.ret ⟨hy, by omega⟩)
    decide
  · refine W.bind (Q := (· = PFnExactSignAt.tbl)) (W.const rfl rfl) ?_
    rintro _ rfl
    refine pick_text hb hl (p + 1) (by omega) (by omega) (fun _ y q => some (y, q)) ⟨rfl, by decide⟩ ?_ (fun y hy => W.ret ⟨hy, by omega⟩)
    decide
theorem odd_ok {b : List Int} (hb : ∀ x ∈ b, 0 ≤ x ∧ x ≤ 255) (hl : b.length ≤ 2000) (p : Int) (hp : 0 ≤ p) (hq : p ≤ 900000) : W (fun k => spec_l2Odd.f k b p) (fun r => r.1.size ≤ 30 ∧ r.2 = p + 1) := by
  unfold spec_l2Odd.f
  refine W.bind (W.ret (P := (· = _)) rfl) ?_
  rintro _ rfl
  refine pick_text hb hl p (by omega) (by omega) (fun _ y q => some (y, q)) ⟨rfl, by decide⟩ ?_ (fun y hy => W.ret ⟨hy, by omega⟩)
  decide
theorem text_loop {b : List Int} (hb : ∀ x ∈ b, 0 ≤ x ∧ x ≤ 255) (hl : b.length ≤ 2000) (d : Nat) : ∀ (x : ByteArray) (n p : Int), n ≤ d → 0 ≤ p → p + 10 * d ≤ 800000 → x.size + 100 * d ≤ 1000000 → W (fun k => spec_l2Text.l0 k x n b p) (fun r => r.1.size ≤ 1000000) := by
  induction d with
  | zero =>
    intro x n p h1 h2 h3 h4
    exact W.step (fun k => by simp only [spec_l2Text.l0]; rfl) (W.neg (by omega) (W.ret (by simp only; omega)))
  | succ d ih =>
    intro x n p h1 h2 h3 h4
    refine W.step (fun k => by simp only [spec_l2Text.l0]; rfl) ?_
    refine W.ite (fun hn => ?_) (fun _ => W.ret (by simp only; omega))
    refine W.bind (word_ok hb hl p h2 (by omega)) ?_
    rintro ⟨y, q⟩ ⟨hy, rfl⟩
    simp only at hy
    simp only
    refine W.pos (by omega) ?_
    refine W.bind (pick_ok hb hl (p + 2) 20 (by omega) (by omega)) ?_
    rintro ⟨c, q⟩ ⟨rfl, _⟩
    simp only
    have e1 : wrap64 (n - 1) = n - 1 ∨ n > 9223372036854775807 := by
      by_cases h : n ≤ 9223372036854775807
      · exact .inl (wrap64_id (by omega) (by omega))
      · exact .inr (by omega)
    have e2 : wrap64 (n - 1) = n - 1 := e1.resolve_right (by omega)
    refine W.ite (fun _ => ?_) (fun _ => ?_)
    · refine W.bind (odd_ok hb hl (p + 2 + 1) (by omega) (by omega)) ?_
      rintro ⟨z, q⟩ ⟨hz, rfl⟩
      simp only at hz
      simp only
      have s1 : (x ++ y).size = x.size + y.size := ByteArray.size_append
      refine W.pos (by omega) ?_
      refine W.bind (W.ret (P := (· = _)) rfl) ?_
      rintro _ rfl
      refine pick_text hb hl (p + 2 + 1 + 1) (by omega) (by omega) (fun k u q => if ((x ++ y) ++ z).size + u.size ≤ 9223372036854775807 then spec_l2Text.l0 k (((x ++ y) ++ z) ++ u) (wrap64 (n - 1)) b q else none) ⟨rfl, by decide⟩ (by decide) (fun u hu => ?_)
      have s2 : ((x ++ y) ++ z).size = x.size + y.size + z.size := by rw [ByteArray.size_append, s1]
      have s3 : (((x ++ y) ++ z) ++ u).size = x.size + y.size + z.size + u.size := by rw [ByteArray.size_append, s2]
      refine W.pos (by omega) ?_
      rw [e2]
      exact ih _ _ _ (by omega) (by omega) (by omega) (by omega)
    · have s1 : (x ++ y).size = x.size + y.size := ByteArray.size_append
      refine W.bind (W.ret (P := (· = _)) rfl) ?_
      rintro _ rfl
      refine pick_text hb hl (p + 2 + 1) (by omega) (by omega) (fun k u q => if (x ++ y).size + u.size ≤ 9223372036854775807 then spec_l2Text.l0 k ((x ++ y) ++ u) (wrap64 (n - 1)) b q else none) ⟨rfl, by decide⟩ (by decide) (fun u hu => ?_)
      have s3 : ((x ++ y) ++ u).size = x.size + y.size + u.size := by rw [ByteArray.size_append, s1]
      refine W.pos (by omega) ?_
      rw [e2]
      exact ih _ _ _ (by omega) (by omega) (by omega) (by omega)
theorem many_loop (d : Nat) : ∀ (n : Nat) (x y : ByteArray), n < 2 ^ d → d ≤ 20 → x.size * 2 ^ d ≤ 1048576 → y.size + x.size * 2 ^ d ≤ 4194304 + x.size → W (fun k => spec_l1Many.l0 k x (n : Int) y) (fun r => r.size ≤ 4194304) := by
  induction d with
  | zero =>
    intro n x y h1 h2 h3 h4
    have : n = 0 := by simpa using h1
    exact W.step (fun k => by simp only [spec_l1Many.l0]; rfl) (W.neg (by omega) (W.ret (by omega)))
  | succ d ih =>
    intro n x y h1 h2 h3 h4
    have hp : 1 ≤ 2 ^ d := Nat.one_le_two_pow
    have hx : x.size ≤ x.size * 2 ^ d := Nat.le_mul_of_pos_right _ hp
    rw [Nat.pow_succ] at h1 h3 h4
    have e3 : x.size * (2 ^ d * 2) = (x.size + x.size) * 2 ^ d := by rw [Nat.add_mul, ← Nat.mul_assoc]; omega
    have e4 : (x.size + x.size) * 2 ^ d = x.size * 2 ^ d + x.size * 2 ^ d := Nat.add_mul _ _ _
    have sx : (x ++ x).size = x.size + x.size := ByteArray.size_append
    have hd : wrap64 (Int.tdiv (n : Int) 2) = ((n / 2 : Nat) : Int) := by
      rw [show Int.tdiv (n : Int) 2 = ((n / 2 : Nat) : Int) from rfl]
      have : 2 ^ d ≤ 2 ^ 20 := Nat.pow_le_pow_right (by omega) (by omega)
      exact wrap64_id (by omega) (by omega)
    refine W.step (fun k => by simp only [spec_l1Many.l0]; rfl) ?_
    refine W.ite (fun hn => ?_) (fun _ => W.ret (by omega))
    rw [hd]
    refine W.ite (fun _ => ?_) (fun _ => ?_)
    · have sy : (y ++ x).size = y.size + x.size := ByteArray.size_append
      refine W.pos (by omega) (W.pos (by omega) (ih _ _ _ (by omega) (by omega) (by rw [sx]; omega) (by rw [sx, sy]; omega)))
    · exact W.pos (by omega) (ih _ _ _ (by omega) (by omega) (by rw [sx]; omega) (by rw [sx]; omega))
theorem drawLex_ok (code : List Int) (hb : ∀ x ∈ code, (Lit.int .u8 x).wf = true) : W (fun k => spec_DrawLexTokens.f k code) (fun _ => True) := by
  obtain ⟨b, ho, hl, hb⟩ := open_ok code hb
  unfold spec_DrawLexTokens.f
  rw [ho]
  simp only [Option.bind_some]
  refine W.bind (pick_ok hb hl 0 40 (by omega) (by omega)) ?_
  rintro ⟨c, q⟩ ⟨rfl, _⟩
  simp only
  have many : ∀ (s : ByteArray) (z : Int), s.size = 1 → 0 ≤ z → z ≤ 4000 → W (fun k => spec_l1Many.f k s z) (fun _ => True) := by
    intro s z hs h0 h1
    obtain ⟨n, rfl⟩ := Int.eq_ofNat_of_zero_le h0
    unfold spec_l1Many.f
    refine (many_loop 12 n s (⟨#[]⟩ : ByteArray) (by omega) (by omega) (by omega) ?_).mono (fun _ _ => trivial)
    show 0 + s.size * 2 ^ 12 ≤ 4194304 + s.size
    omega
  refine W.ite (fun _ => ?_) (fun _ => W.ite (fun _ => ?_) (fun _ => ?_))
  · refine W.bind (pick_ok hb hl (0 + 1) 2 (by omega) (by omega)) ?_
    rintro ⟨c, q⟩ ⟨rfl, hc⟩
    have hc' := hc (by omega)
    simp only at hc'
    simp only
    rw [wrap64_id (n := 700 + c) (by omega) (by omega)]
    refine W.bind (many _ _ rfl (by omega) (by omega)) ?_
    exact fun _ _ => W.ret trivial
  · refine W.bind (pick_ok hb hl (0 + 1) 2 (by omega) (by omega)) ?_
    rintro ⟨c, q⟩ ⟨rfl, hc⟩
    have hc' := hc (by omega)
    simp only at hc'
    simp only
    rw [wrap64_id (n := 3000 + c) (by omega) (by omega)]
    refine W.bind (many _ _ rfl (by omega) (by omega)) ?_
    exact fun _ _ => W.ret trivial
  · refine W.bind (Q := fun _ => True) ?_ (fun _ _ => W.ret trivial)
    unfold spec_l2Text.f
    refine W.bind (pick_ok hb hl (0 + 1) 16 (by omega) (by omega)) ?_
    rintro ⟨c, q⟩ ⟨rfl, hc⟩
    have hc' := hc (by omega)
    simp only at hc'
    exact (text_loop hb hl 16 (⟨#[]⟩ : ByteArray) c _ (by omega) (by first | omega | (simp only; omega)) (by first | omega | (simp only; omega)) (by show 0 + 100 * 16 ≤ 1000000; omega)).mono (fun _ _ => trivial)

theorem rdT_get {l : List S42} {i : Nat} (h : i < l.length) : rd_T42 l (i : Int) = l[i] := by
  simp [rd_T42, List.getD_eq_getElem?_getD, List.getElem?_eq_getElem h]

/-! ### tokens written down -/
def sp : ByteArray := (⟨#[32]⟩ : ByteArray)
theorem ba_ext {x y : ByteArray} (h : x.data.toList = y.data.toList) : x = y := ByteArray.ext (Array.toList_inj.mp h)
theorem joined_nil : Base.joined [] sp = (⟨#[]⟩ : ByteArray) := rfl
theorem joined_snoc (xs : List ByteArray) (y : ByteArray) : Base.joined (xs ++ [y]) sp = if xs = [] then y else (Base.joined xs sp ++ sp) ++ y := by
  cases xs with
  | nil =>
    rw [if_pos rfl]
    apply ba_ext
    simp [Base.joined, Go.Lib.join_one]
  | cons x r =>
    rw [if_neg (by simp)]
    apply ba_ext
    rw [ByteArray.toList_data_append, ByteArray.toList_data_append]
    simp [Base.joined, Go.Lib.join_cons, Go.Lib.joinTail, List.append_assoc]
/-- The texts of the tokens ahead of place i. -/
def txt (l : List S42) (i : Nat) : ByteArray := Base.joined ((l.take i).map (·.f2)) sp
theorem txt_zero (l : List S42) : txt l 0 = (⟨#[]⟩ : ByteArray) := rfl
theorem txt_succ {l : List S42} {i : Nat} (h : i < l.length) : txt l (i + 1) = if i = 0 then l[i].f2 else (txt l i ++ sp) ++ l[i].f2 := by
  unfold txt
  rw [List.take_succ_eq_append_getElem h, List.map_append, List.map_singleton, joined_snoc]
  by_cases h0 : i = 0
  · subst h0; rw [if_pos rfl, if_pos (by simp)]
  · rw [if_neg h0, if_neg]
    intro hc
    have h3 := congrArg List.length hc
    rw [List.length_map, List.length_take] at h3
    change min i l.length = 0 at h3
    omega
def wide (l : List S42) (i : Nat) : Nat := if i = 0 then 0 else (txt l i).size + 1
theorem wide_succ {l : List S42} {i : Nat} (h : i < l.length) : wide l (i + 1) = wide l i + l[i].f2.size + 1 := by
  unfold wide
  rw [if_neg (by omega), txt_succ h]
  by_cases h0 : i = 0
  · subst h0; simp
  · rw [if_neg h0, if_neg h0, ByteArray.size_append, ByteArray.size_append]
    show (txt l i).size + 1 + _ + 1 = _
    omega
/-- Two lists of tokens are the same but for their places. -/
def Like (m l : List S42) : Prop := m.length = l.length ∧ ∀ (j : Nat) (h1 : j < m.length) (h2 : j < l.length), m[j].f0 = l[j].f0 ∧ m[j].f2 = l[j].f2 ∧ m[j].f3 = l[j].f3
theorem cmpBoth {m l : List S42} (s : ByteArray) (he : m.length = l.length) (hl : l.length ≤ 1048576) : ∀ i, i ≤ l.length →
    ∃ ok : Bool, W (fun k => spec_LexJoin.l1 k l s m (i : Int)) (· = if ok then (s, true) else ((⟨#[]⟩ : ByteArray), false)) ∧ W (fun k => impl_LexJoin.l2 k s m l (l.length : Int) (i : Int)) (· = if ok then (s, true) else ((⟨#[]⟩ : ByteArray), false)) ∧
      (ok = true → ∀ (j : Nat) (h1 : j < m.length) (h2 : j < l.length), i ≤ j → m[j].f0 = l[j].f0 ∧ m[j].f2 = l[j].f2 ∧ m[j].f3 = l[j].f3) := by
  refine down_all l.length ?_ ?_
  · refine ⟨true, ?_, ?_, fun _ j h1 h2 h3 => absurd h2 (by omega)⟩
    · exact W.step (fun k => by simp only [spec_LexJoin.l1]; rfl) (W.neg (by omega) (W.ret rfl))
    · exact W.step (fun k => by simp only [impl_LexJoin.l2]; rfl) (W.neg (by omega) (W.ret rfl))
  · rintro i hi ⟨ok, s1, i1, hq⟩
    have him : i < m.length := by omega
    have rm := rdT_get him
    have rl := rdT_get hi
    have e1 := w1 (i := i) (by omega)
    have c1 : (i : Int) < (m.length : Int) := by omega
    have c2 : 0 ≤ (i : Int) := by omega
    have c3 : (i : Int) < (l.length : Int) := by omega
    have sS : ∀ P, W (fun k => if (m[i].f2).toList = (l[i].f2).toList then (if m[i].f0 = l[i].f0 then (if m[i].f3 = l[i].f3 then spec_LexJoin.l1 k l s m (((i + 1 : Nat)) : Int) else some ((⟨#[]⟩ : ByteArray), false)) else some ((⟨#[]⟩ : ByteArray), false)) else some ((⟨#[]⟩ : ByteArray), false)) P → W (fun k => spec_LexJoin.l1 k l s m (i : Int)) P := by
      intro P h
      refine W.step (fun k => by simp only [spec_LexJoin.l1]; rfl) (W.pos c1 (W.pos c2 (W.pos c3 ?_)))
      rw [rm, rl, e1]; exact h
    have iS : ∀ P, W (fun k => if m[i].f0 = l[i].f0 then (if (m[i].f2).toList = (l[i].f2).toList then (if m[i].f3 = l[i].f3 then impl_LexJoin.l2 k s m l (l.length : Int) (((i + 1 : Nat)) : Int) else some ((⟨#[]⟩ : ByteArray), false)) else some ((⟨#[]⟩ : ByteArray), false)) else some ((⟨#[]⟩ : ByteArray), false)) P → W (fun k => impl_LexJoin.l2 k s m l (l.length : Int) (i : Int)) P := by
      intro P h
      refine W.step (fun k => by simp only [impl_LexJoin.l2]; rfl) (W.pos c3 (W.pos c2 (W.pos c3 (W.pos c1 ?_))))
      rw [rm, rl, e1]; exact h
    by_cases h0 : m[i].f0 = l[i].f0
    · by_cases h2 : (m[i].f2).toList = (l[i].f2).toList
      · by_cases h3 : m[i].f3 = l[i].f3
        · refine ⟨ok, sS _ (W.pos h2 (W.pos h0 (W.pos h3 s1))), iS _ (W.pos h0 (W.pos h2 (W.pos h3 i1))), fun h j g1 g2 g3 => ?_⟩
          rcases Nat.eq_or_lt_of_le g3 with rfl | g4
          · exact ⟨h0, toList_inj h2, h3⟩
          · exact hq h j g1 g2 g4
        · exact ⟨false, sS _ (W.pos h2 (W.pos h0 (W.neg h3 (W.ret rfl)))), iS _ (W.pos h0 (W.pos h2 (W.neg h3 (W.ret rfl)))), fun h => by cases h⟩
      · exact ⟨false, sS _ (W.neg h2 (W.ret rfl)), iS _ (W.pos h0 (W.neg h2 (W.ret rfl))), fun h => by cases h⟩
    · refine ⟨false, sS _ ?_, iS _ (W.neg h0 (W.ret rfl)), fun h => by cases h⟩
      exact W.ite (fun _ => W.neg h0 (W.ret rfl)) (fun _ => W.ret rfl)
/-- What is written down reads again as what it was, but for places. -/
def Good (l : List S42) (s : ByteArray) (ok : Bool) : Prop := ok = true → ∃ m p, W (fun k => impl_LexTokens.f k s) (· = (m, 0, p)) ∧ Like m l
theorem endBoth {l : List S42} (hl : l.length ≤ 700) (s : ByteArray) :
    ∃ (r : ByteArray) (ok : Bool), W (fun k => (spec_LexTokens.f k s).bind fun bt152 => (if bt152.2.1 = 0 then (spec_LexJoin.j1 k l s bt152.1 ((bt152.1.length : Int) != (l.length : Int))) else (spec_LexJoin.j1 k l s bt152.1 true))) (· = (r, ok)) ∧
      W (fun k => (impl_LexTokens.f k s).bind fun bt214 => (if bt214.2.1 = 0 then (impl_LexJoin.j2 k l s bt214.1 ((bt214.1.length : Int) != (l.length : Int))) else (impl_LexJoin.j2 k l s bt214.1 true))) (· = (r, ok)) ∧ Good l r ok := by
  obtain ⟨m, c, p, g1, g2, g3, -⟩ := toksBoth s
  have bad : (¬ c = 0 ∨ ¬ m.length = l.length) → ∃ (r : ByteArray) (ok : Bool), W (fun k => (spec_LexTokens.f k s).bind fun bt152 => (if bt152.2.1 = 0 then (spec_LexJoin.j1 k l s bt152.1 ((bt152.1.length : Int) != (l.length : Int))) else (spec_LexJoin.j1 k l s bt152.1 true))) (· = (r, ok)) ∧
      W (fun k => (impl_LexTokens.f k s).bind fun bt214 => (if bt214.2.1 = 0 then (impl_LexJoin.j2 k l s bt214.1 ((bt214.1.length : Int) != (l.length : Int))) else (impl_LexJoin.j2 k l s bt214.1 true))) (· = (r, ok)) ∧ Good l r ok := by
    intro h
    have js : W (fun k => spec_LexJoin.j1 k l s m true) (· = ((⟨#[]⟩ : ByteArray), false)) := W.step (fun k => by simp only [spec_LexJoin.j1]; rfl) (W.pos (by trivial) (W.ret rfl))
    have ji : W (fun k => impl_LexJoin.j2 k l s m true) (· = ((⟨#[]⟩ : ByteArray), false)) := W.step (fun k => by simp only [impl_LexJoin.j2]; rfl) (W.pos (by trivial) (W.ret rfl))
    refine ⟨(⟨#[]⟩ : ByteArray), false, W.bind g1 ?_, W.bind g2 ?_, fun h => by cases h⟩
    · rintro _ rfl
      refine W.ite (fun hc => ?_) (fun _ => js)
      rw [show ((m.length : Int) != (l.length : Int)) = true by simp; have := h.resolve_left (fun z => z hc); omega]
      exact js
    · rintro _ rfl
      refine W.ite (fun hc => ?_) (fun _ => ji)
      rw [show ((m.length : Int) != (l.length : Int)) = true by simp; have := h.resolve_left (fun z => z hc); omega]
      exact ji
  by_cases hc : c = 0
  · by_cases hm : m.length = l.length
    · subst hc
      obtain ⟨ok, q1, q2, q3⟩ := cmpBoth s hm (by omega) 0 (by omega)
      refine ⟨(if ok then (s, true) else ((⟨#[]⟩ : ByteArray), false)).1, (if ok then (s, true) else ((⟨#[]⟩ : ByteArray), false)).2, W.bind g1 ?_, W.bind g2 ?_, fun h => ?_⟩
      · rintro _ rfl
        refine W.pos rfl ?_
        rw [show ((m.length : Int) != (l.length : Int)) = false by simp; omega]
        exact W.step (fun k => by simp only [spec_LexJoin.j1]; rfl) (W.neg (by decide) q1)
      · rintro _ rfl
        refine W.pos rfl ?_
        rw [show ((m.length : Int) != (l.length : Int)) = false by simp; omega]
        exact W.step (fun k => by simp only [impl_LexJoin.j2]; rfl) (W.neg (by decide) q2)
      · cases ok with
        | false => cases h
        | true => exact ⟨m, p, g2, hm, fun j h1 h2 => q3 rfl j h1 h2 (by omega)⟩
    · exact bad (.inr hm)
  · exact bad (.inl hc)
theorem textsOf {l : List S42} (hl : l.length ≤ 700) {P : ByteArray × Bool → Prop} (h : W (fun k => (strings_Join.f (l.map (·.f2)) (⟨#[32]⟩ : ByteArray)).bind fun t213 => ((impl_LexTokens.f k t213).bind fun bt214 => (if bt214.2.1 = 0 then (impl_LexJoin.j2 k l t213 bt214.1 ((bt214.1.length : Int) != (l.length : Int))) else (impl_LexJoin.j2 k l t213 bt214.1 true)))) P) :
    W (fun k => impl_LexJoin.l1 k l ([] : List ByteArray) l (l.length : Int) 0) P := by
  have h1 : ∀ i, i ≤ l.length → W (fun k => impl_LexJoin.l1 k l ((l.take i).map (·.f2)) l (l.length : Int) (i : Int)) P := by
    refine down_all l.length ?_ ?_
    · rw [List.take_length]
      exact W.step (fun k => by simp only [impl_LexJoin.l1]; rfl) (W.neg (by omega) h)
    · intro i hi ih
      have hlen : ((l.take i).map (·.f2)).length < 8796093022208 := by
        rw [List.length_map, List.length_take]; omega
      refine W.step (fun k => by simp only [impl_LexJoin.l1]; rfl) (W.pos (by omega) (W.pos (by omega) (W.pos (by omega) (W.pos hlen ?_))))
      rw [rdT_get hi, w1 (by omega), show (l.take i).map (·.f2) ++ [l[i].f2] = (l.take (i + 1)).map (·.f2) by rw [List.take_succ_eq_append_getElem hi, List.map_append, List.map_singleton]]
      exact ih
  exact h1 0 (by omega)
theorem joinBoth {l : List S42} (hz : ∀ t ∈ l, t.f2.size ≤ 1048576) : ∃ (s : ByteArray) (ok : Bool), W (fun k => spec_LexJoin.f k l) (· = (s, ok)) ∧ W (fun k => impl_LexJoin.f k l) (· = (s, ok)) ∧ Good l s ok := by
  by_cases h7 : (l.length : Int) > 700
  · refine ⟨(⟨#[]⟩ : ByteArray), false, ?_, ?_, fun h => by cases h⟩
    · unfold spec_LexJoin.f; exact W.pos h7 (W.ret rfl)
    · unfold impl_LexJoin.f; exact W.pos h7 (W.ret rfl)
  have hl : l.length ≤ 700 := by omega
  have main : ∀ i, i ≤ l.length → (txt l i).size ≤ 3000 → ∃ (s : ByteArray) (ok : Bool), W (fun k => spec_LexJoin.l0 k l (txt l i) (i : Int)) (· = (s, ok)) ∧ W (fun k => impl_LexJoin.l0 k l ((wide l i : Nat) : Int) l (l.length : Int) (i : Int)) (· = (s, ok)) ∧ Good l s ok := by
    refine down_all l.length ?_ ?_
    · intro hs
      obtain ⟨r, ok, q1, q2, q3⟩ := endBoth hl (txt l l.length)
      refine ⟨r, ok, ?_, ?_, q3⟩
      · exact W.step (fun k => by simp only [spec_LexJoin.l0]; rfl) (W.neg (by omega) q1)
      · refine W.step (fun k => by simp only [impl_LexJoin.l0]; rfl) (W.neg (by omega) (W.pos (by omega) (W.pos (by omega) ?_)))
        refine textsOf hl ?_
        have ej : strings_Join.f (l.map (·.f2)) (⟨#[32]⟩ : ByteArray) = some (txt l l.length) := by
          have e2 : txt l l.length = Base.joined (l.map (·.f2)) (⟨#[32]⟩ : ByteArray) := by
            unfold txt; rw [List.take_length]; rfl
          unfold strings_Join.f
          rw [← e2, if_pos ⟨by rw [List.length_map]; omega, by omega⟩]
        refine W.bind (W.const ej (P := (· = txt l l.length)) rfl) ?_
        rintro _ rfl
        exact q2
    · intro i hi ih hs
      have hzi := hz l[i] (List.getElem_mem hi)
      have ew := wide_succ hi
      have et := txt_succ hi
      have rl := rdT_get hi
      have hwi : wide l (i + 1) = (txt l (i + 1)).size + 1 := by unfold wide; rw [if_neg (by omega)]
      have hwb : wide l i ≤ 3001 := by unfold wide; split <;> omega
      have iS : ∀ P, W (fun k => if ((wide l (i + 1) : Nat) : Int) > 3001 then some ((⟨#[]⟩ : ByteArray), false) else impl_LexJoin.l0 k l ((wide l (i + 1) : Nat) : Int) l (l.length : Int) ((i + 1 : Nat) : Int)) P → W (fun k => impl_LexJoin.l0 k l ((wide l i : Nat) : Int) l (l.length : Int) (i : Int)) P := by
        intro P h
        refine W.step (fun k => by simp only [impl_LexJoin.l0]; rfl) (W.pos (by omega) (W.pos (by omega) (W.pos (by omega) ?_)))
        rw [rl, wrap64_id (n := (l[i].f2.size : Int) + 1) (by omega) (by omega), wrap64_id (n := ((wide l i : Nat) : Int) + ((l[i].f2.size : Int) + 1)) (by omega) (by omega), w1 (by omega), show ((wide l i : Nat) : Int) + ((l[i].f2.size : Int) + 1) = ((wide l (i + 1) : Nat) : Int) by omega]
        exact h
      have sS : ∀ P, W (fun k => if (l[i].f2.size : Int) > 3000 then some ((⟨#[]⟩ : ByteArray), false) else if ((txt l (i + 1)).size : Int) > 3000 then some ((⟨#[]⟩ : ByteArray), false) else spec_LexJoin.l0 k l (txt l (i + 1)) ((i + 1 : Nat) : Int)) P → W (fun k => spec_LexJoin.l0 k l (txt l i) (i : Int)) P := by
        intro P h
        refine W.step (fun k => by simp only [spec_LexJoin.l0]; rfl) (W.pos (by omega) (W.pos (by omega) ?_))
        rw [rl, w1 (by omega)]
        by_cases h0 : i = 0
        · have e0 : txt l i ++ l[i].f2 = txt l (i + 1) := by
            rw [et, if_pos h0]
            subst h0
            apply ba_ext
            rw [ByteArray.toList_data_append]
            rfl
          have es : (txt l i).size + l[i].f2.size = (txt l (i + 1)).size := by rw [← e0, ByteArray.size_append]
          refine W.ite (fun h3 => ?_) (fun h3 => ?_)
          · obtain ⟨r, hr, K, hK⟩ := h
            have := hK K (Nat.le_refl _)
            simp only [if_pos h3] at this
            obtain rfl := Option.some.inj this
            exact W.ret hr
          · refine W.neg (by omega) (W.pos (by omega) ?_)
            rw [e0]
            obtain ⟨r, hr, K, hK⟩ := h
            exact ⟨r, hr, K, fun k hk => by have := hK k hk; simp only [if_neg h3] at this; exact this⟩
        · have e0 : (txt l i ++ (⟨#[32]⟩ : ByteArray)) ++ l[i].f2 = txt l (i + 1) := by
            rw [et, if_neg h0]; rfl
          have es1 : (txt l i ++ (⟨#[32]⟩ : ByteArray)).size = (txt l i).size + 1 := by rw [ByteArray.size_append]; rfl
          refine W.ite (fun h3 => ?_) (fun h3 => ?_)
          · obtain ⟨r, hr, K, hK⟩ := h
            have := hK K (Nat.le_refl _)
            simp only [if_pos h3] at this
            obtain rfl := Option.some.inj this
            exact W.ret hr
          · refine W.pos (by omega) (W.pos (by omega) (W.pos (by omega) ?_))
            rw [e0]
            obtain ⟨r, hr, K, hK⟩ := h
            exact ⟨r, hr, K, fun k hk => by have := hK k hk; simp only [if_neg h3] at this; exact this⟩
      by_cases hb : (txt l (i + 1)).size > 3000
      · refine ⟨(⟨#[]⟩ : ByteArray), false, sS _ (W.ite (fun _ => W.ret rfl) (fun _ => W.pos (by omega) (W.ret rfl))), iS _ (W.pos (by omega) (W.ret rfl)), fun h => by cases h⟩
      · obtain ⟨s, ok, q1, q2, q3⟩ := ih (by omega)
        have hti : l[i].f2.size ≤ (txt l (i + 1)).size := by omega
        exact ⟨s, ok, sS _ (W.neg (by omega) (W.neg (by omega) q1)), iS _ (W.neg (by omega) q2), q3⟩
  obtain ⟨s, ok, q1, q2, q3⟩ := main 0 (by omega) (by rw [txt_zero]; exact Nat.zero_le _)
  refine ⟨s, ok, ?_, ?_, q3⟩
  · unfold spec_LexJoin.f; exact W.neg h7 q1
  · unfold impl_LexJoin.f; exact W.neg h7 q2

theorem FnLexBack : laws_FnLexBack.Pure := by
  intro code _ _ hb
  apply W.eq
  unfold laws_FnLexBack.f
  refine W.ite (fun _ => W.ret rfl) (fun _ => ?_)
  refine W.bind (drawLex_ok code hb) ?_
  intro a _
  obtain ⟨l, c, p, g1, g2, g3, g4, g5, g6⟩ := toksBoth a
  refine W.bind g2 ?_
  rintro _ rfl
  refine W.bind g1 ?_
  rintro _ rfl
  refine W.neg (by simp) ?_
  refine W.ite (fun hc => ?_) (fun hc => ?_)
  · have hz : ∀ t ∈ l, t.f2.size ≤ 1048576 := by
      have ha := g6 hc
      have hch := g5 hc
      clear g1 g2 g3 g4 g5 g6
      have : ∀ (l : List S42) (e : Nat), Chain a e l → ∀ t ∈ l, t.f2.size ≤ 1048576 := by
        intro l
        induction l with
        | nil => intro e _ t ht; cases ht
        | cons u r ih =>
          rintro e ⟨n, m, h1, ⟨h2, h3, h4, h5, h6, h7⟩, h8⟩ t ht
          rcases List.mem_cons.1 ht with rfl | ht
          · rw [h5, ext_size h3]
            exact Nat.le_trans (Nat.sub_le _ _) (Nat.le_trans h3 (Nat.le_trans ha (by decide)))
          · exact ih m h8 t ht
      exact this l 0 hch
    obtain ⟨s, ok, j1, j2, j3⟩ := joinBoth hz
    refine W.bind j2 ?_
    rintro _ rfl
    refine W.bind j1 ?_
    rintro _ rfl
    refine W.neg (by simp) ?_
    rw [show (s.toList != s.toList) = false by simp]
    refine W.step (fun k => by simp only [laws_FnLexBack.j0]; rfl) (W.neg (by decide) ?_)
    refine W.ite (fun ho => ?_) (fun _ => W.ret rfl)
    obtain ⟨m, q, t1, t2, t3⟩ := j3 ho
    refine W.bind t1 ?_
    rintro _ rfl
    refine W.pos rfl ?_
    rw [show ((m.length : Int) != (l.length : Int)) = false by simp; omega]
    refine W.step (fun k => by simp only [laws_FnLexBack.j1]; rfl) (W.neg (by decide) ?_)
    have h : ∀ i, i ≤ m.length → W (fun k => laws_FnLexBack.l0 k l m (i : Int)) (· = true) := by
      refine down_all m.length ?_ ?_
      · exact W.step (fun k => by simp only [laws_FnLexBack.l0]; rfl) (W.neg (by omega) (W.ret rfl))
      · intro i hi ih
        have hil : i < l.length := by omega
        obtain ⟨u0, u2, u3⟩ := t3 i hi hil
        have c1 : (i : Int) < (m.length : Int) := by omega
        have c2 : 0 ≤ (i : Int) := by omega
        have c3 : (i : Int) < (l.length : Int) := by omega
        refine W.step (fun k => by simp only [laws_FnLexBack.l0]; rfl) (W.pos c1 (W.pos c2 (W.pos c3 ?_)))
        rw [rdT_get hi, rdT_get hil, w1 (by omega)]
        exact W.pos u0 (W.pos (by rw [u2]) (W.pos u3 ih))
    exact h 0 (by omega)
  · rw [g4 hc]
    exact W.ret rfl

end Go.Proofs.YtnbpgnkplahknaaDoor.Pure
