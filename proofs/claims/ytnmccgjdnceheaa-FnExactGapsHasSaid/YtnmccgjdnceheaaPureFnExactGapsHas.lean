/- The pure statement of the law FnExactGapsHas: for every input the printed function answers true. -/
import Derived.Test.YtnmccgjdnceheaaPFnExactGapsHasx0
import Derived.Test.YtnmccgjdnceheaaPFnExactGapsHasx1
import Derived.Test.YtnmccgjdnceheaaPFnExactGapsHasx2
import Derived.Test.YtnmccgjdnceheaaPFnExactGapsHasx3
import Derived.Test.YtnmccgjdnceheaaPFnExactGapsHasx4
import Derived.Test.YtnmccgjdnceheaaPFnExactGapsHasx5
import Derived.Test.YtnmccgjdnceheaaLib
namespace Go.Proofs.Ytnmccgjdnceheaa.Pure
open Go Go.RowKit Go.Proofs.Ytnmccgjdnceheaa.PFnExactGapsHas Go.Proofs.YtnmccgjdnceheaaW.PrintWords Go.Proofs.YtnmccgjdnceheaaW.PrintLast Go.Proofs.YtnmccgjdnceheaaW.PrintMore Go.Proofs.Ytnmccgjdnceheaa.Lib
set_option linter.unusedVariables false
set_option linter.unusedSimpArgs false

def okN (v : Int) : Prop := -2147483648 ≤ v ∧ v ≤ 2147483647
instance (v : Int) : Decidable (okN v) := by unfold okN; exact inferInstance
theorem sNumOk (v : Int) : spec_NumOk.f v = some (decide (okN v)) := by
  simp only [spec_NumOk.f, spec_l1In.f, okN]
  by_cases h : v ≥ -2147483648 <;> simp [h]
theorem iNumOk (v : Int) : impl_NumOk.f v = some (decide (okN v)) := by
  simp only [impl_NumOk.f, okN]
  by_cases h : v ≥ -2147483648 <;> simp [h]

/-! ### lists of numbers, taken over and held against each other -/
theorem toInts_loop {xs : List Int} (hx : xs.length ≤ 1048576) (d : Nat) : ∀ (i : Nat) (ys : List Int), i ≤ xs.length → xs.length - i = d → ys.length = xs.length → ys.take i = xs.take i → W (fun k => laws_toIntS.l0 k xs ys (i : Int)) (· = xs) := by
  induction d with
  | zero =>
    intro i ys hi hd hl ht
    refine W.step (fun k => by simp only [laws_toIntS.l0]; rfl) ?_
    refine W.neg (by omega) (W.ret ?_)
    obtain rfl : i = xs.length := by omega
    rw [List.take_length, ← hl, List.take_length] at ht; exact ht
  | succ d ih =>
    intro i ys hi hd hl ht
    have hlt : i < xs.length := by omega
    refine W.step (fun k => by simp only [laws_toIntS.l0]; rfl) ?_
    refine W.pos (by omega) (W.pos (by omega) (W.pos (by omega) ?_))
    rw [wrap64_id (n := (i : Int) + 1) (by omega) (by omega), show (i : Int) + 1 = ((i + 1 : Nat) : Int) by omega, show rd xs (i : Int) = xs[i] by simp [rd, List.getD_eq_getElem?_getD, List.getElem?_eq_getElem hlt]]
    refine ih (i + 1) _ (by omega) (by omega) (by simp [hl]) ?_
    rw [Int.toNat_natCast, List.take_succ_eq_append_getElem (by simpa using by omega), List.take_succ_eq_append_getElem hlt, List.getElem_set_self, List.take_set_of_le (by omega), ht]
theorem toInts {xs : List Int} (hx : xs.length ≤ 1048576) : W (fun k => laws_toIntS.f k xs) (· = xs) := by
  unfold laws_toIntS.f
  refine W.pos (by omega) (W.pos (by omega) ?_)
  exact toInts_loop hx _ 0 _ (by omega) rfl (by simp) (by simp)
theorem eqInts_loop {xs : List Int} (hx : xs.length ≤ 1048576) (d : Nat) : ∀ i : Nat, i ≤ xs.length → xs.length - i = d → W (fun k => laws_eqIntS.l0 k xs xs (i : Int)) (· = true) := by
  induction d with
  | zero =>
    intro i hi hd
    refine W.step (fun k => by simp only [laws_eqIntS.l0]; rfl) ?_
    exact W.neg (by omega) (W.ret rfl)
  | succ d ih =>
    intro i hi hd
    refine W.step (fun k => by simp only [laws_eqIntS.l0]; rfl) ?_
    refine W.pos (by omega) (W.pos (by omega) (W.pos (by omega) (W.pos (by trivial) ?_)))
    rw [wrap64_id (n := (i : Int) + 1) (by omega) (by omega), show (i : Int) + 1 = ((i + 1 : Nat) : Int) by omega]
    exact ih (i + 1) (by omega) (by omega)
theorem eqInts {xs : List Int} (hx : xs.length ≤ 1048576) : W (fun k => laws_eqIntS.f k xs xs) (· = true) := by
  unfold laws_eqIntS.f
  refine W.pos (by trivial) ?_
  exact eqInts_loop hx _ 0 (by omega) rfl

/-! ### gaps: whether they are as they must be -/
theorem sIn' (v a b : Int) : spec_l1In.f v a b = some (decide (a ≤ v ∧ v ≤ b)) := by
  simp only [spec_l1In.f]
  by_cases h : v ≥ a <;> simp [h]
theorem rd_nat {xs : List Int} {i : Nat} (h : i < xs.length) : rd xs (i : Int) = xs[i] := by simp [rd, List.getD_eq_getElem?_getD, List.getElem?_eq_getElem h]
theorem idx {N i j : Nat} (hN : N ≤ 12) (hi : i ≤ N) (hj : j ≤ N) : wrap64 (wrap64 ((i : Int) * wrap64 ((N : Int) + 1)) + (j : Int)) = ((i * (N + 1) + j : Nat) : Int) ∧ i * (N + 1) + j < (N + 1) * (N + 1) := by
  have h1 : i * (N + 1) ≤ N * (N + 1) := Nat.mul_le_mul_right _ hi
  have h2 : N * (N + 1) ≤ 12 * 13 := Nat.mul_le_mul hN (by omega)
  have h3 : (N + 1) * (N + 1) = N * (N + 1) + (N + 1) := Nat.succ_mul ..
  have e : (i : Int) * ((N : Int) + 1) = ((i * (N + 1) : Nat) : Int) := by push_cast; rfl
  rw [wrap64_id (n := (N : Int) + 1) (by omega) (by omega), e, wrap64_id (n := ((i * (N + 1) : Nat) : Int)) (by omega) (by omega), wrap64_id (by omega) (by omega)]
  exact ⟨by omega, by omega⟩
theorem sq {N : Nat} (hN : N ≤ 12) : wrap64 (wrap64 ((N : Int) + 1) * wrap64 ((N : Int) + 1)) = (((N + 1) * (N + 1) : Nat) : Int) ∧ (N + 1) * (N + 1) ≤ 169 := by
  have h2 : (N + 1) * (N + 1) ≤ 13 * 13 := Nat.mul_le_mul (by omega) (by omega)
  have e : ((N : Int) + 1) * ((N : Int) + 1) = (((N + 1) * (N + 1) : Nat) : Int) := by push_cast; rfl
  rw [wrap64_id (n := (N : Int) + 1) (by omega) (by omega), e, wrap64_id (by omega) (by omega)]
  exact ⟨rfl, by omega⟩
def inG (x : Int) : Prop := -1099511627776 ≤ x ∧ x ≤ 1099511627776
instance (x : Int) : Decidable (inG x) := by unfold inG; exact inferInstance
/-- The bound of i and j is as it must be. -/
def cellG (N : Nat) (D : List Int) (i j : Nat) : Prop := inG (rd D ((i * (N + 1) + j : Nat) : Int)) ∧ (i = j → rd D ((i * (N + 1) + j : Nat) : Int) = 0)
def okG (n : Int) (D : List Int) : Prop := ∃ N : Nat, n = (N : Int) ∧ N ≤ 12 ∧ D.length = (N + 1) * (N + 1) ∧ ∀ i j : Nat, i ≤ N → j ≤ N → cellG N D i j
theorem at_cell {N q : Nat} (h : q < (N + 1) * (N + 1)) : ∃ i j : Nat, i ≤ N ∧ j ≤ N ∧ q = i * (N + 1) + j := by
  refine ⟨q / (N + 1), q % (N + 1), ?_, ?_, ?_⟩
  · have := Nat.div_lt_of_lt_mul (m := q) (n := N + 1) (k := N + 1) h; omega
  · have := Nat.mod_lt q (show 0 < N + 1 by omega); omega
  · rw [Nat.mul_comm]; exact (Nat.div_add_mod q (N + 1)).symm
theorem okG_iff {N : Nat} {D : List Int} (hN : N ≤ 12) (hl : D.length = (N + 1) * (N + 1)) : okG (N : Int) D ↔ (∀ i : Nat, i ≤ N → rd D ((i * (N + 1) + i : Nat) : Int) = 0) ∧ ∀ q : Nat, q < D.length → inG (rd D (q : Int)) := by
  constructor
  · rintro ⟨M, e, _, _, hc⟩
    obtain rfl : N = M := by omega
    refine ⟨fun i hi => (hc i i hi hi).2 rfl, fun q hq => ?_⟩
    obtain ⟨i, j, hi, hj, rfl⟩ := at_cell (N := N) (q := q) (by omega)
    exact (hc i j hi hj).1
  · rintro ⟨h1, h2⟩
    refine ⟨N, rfl, hN, hl, fun i j hi hj => ⟨h2 _ ?_, fun e => by subst e; exact h1 i hi⟩⟩
    rw [hl]; exact (idx hN hi hj).2
theorem sAt {N i j : Nat} {D : List Int} (hN : N ≤ 12) (hl : D.length = (N + 1) * (N + 1)) (hi : i ≤ N) (hj : j ≤ N) : spec_l11At.f (N : Int) D (i : Int) (j : Int) = some (rd D ((i * (N + 1) + j : Nat) : Int)) := by
  obtain ⟨e, hlt⟩ := idx hN hi hj
  unfold spec_l11At.f
  rw [e, if_pos (by omega), if_pos (by omega)]
theorem sOk_in {N i : Nat} {D : List Int} (hN : N ≤ 12) (hl : D.length = (N + 1) * (N + 1)) (hi : i ≤ N) {R : Prop} (hk : W (fun k => spec_GapsOk.l0 k ((i + 1 : Nat) : Int) (N : Int) D) (fun r => r = true ↔ R)) (d : Nat) :
    ∀ j : Nat, j ≤ N + 1 → N + 1 - j = d → W (fun k => spec_GapsOk.l1 k (i : Int) (j : Int) (N : Int) D) (fun r => r = true ↔ (∀ j', j ≤ j' → j' ≤ N → cellG N D i j') ∧ R) := by
  induction d with
  | zero =>
    intro j hj hd
    refine W.step (fun k => by simp only [spec_GapsOk.l1]; rfl) ?_
    refine W.neg (by omega) ?_
    rw [wrap64_id (n := (i : Int) + 1) (by omega) (by omega), show (i : Int) + 1 = ((i + 1 : Nat) : Int) by omega]
    refine hk.mono fun r hr => hr.trans ⟨fun h => ⟨fun j' h1 h2 => by omega, h⟩, fun h => h.2⟩
  | succ d ih =>
    intro j hj hd
    have h := ih (j + 1) (by omega) (by omega)
    have ej : wrap64 ((j : Int) + 1) = ((j + 1 : Nat) : Int) := by rw [wrap64_id (by omega) (by omega)]; omega
    refine W.step (fun k => by simp only [spec_GapsOk.l1]; rfl) ?_
    refine W.pos (by omega) ?_
    rw [sAt hN hl hi (show j ≤ N by omega)]
    simp only [Option.bind_some, sIn', ej]
    have no : ¬ cellG N D i j → W (fun _ => some false) (fun r => r = true ↔ (∀ j', j ≤ j' → j' ≤ N → cellG N D i j') ∧ R) := fun hc => W.ret ⟨fun h => (by cases h), fun h => absurd (h.1 j (Nat.le_refl _) (by omega)) hc⟩
    have yes : cellG N D i j → W (fun k => spec_GapsOk.l1 k (i : Int) ((j + 1 : Nat) : Int) (N : Int) D) (fun r => r = true ↔ (∀ j', j ≤ j' → j' ≤ N → cellG N D i j') ∧ R) := fun hc => h.mono fun r hr => hr.trans
      ⟨fun h => ⟨fun j' h1 h2 => by
        by_cases e : j' = j
        · subst e; exact hc
        · exact h.1 j' (by omega) h2, h.2⟩, fun h => ⟨fun j' h1 h2 => h.1 j' (by omega) h2, h.2⟩⟩
    refine W.dec (fun h1 => W.ite (fun h2 => W.ite (fun h3 => yes ⟨h1, fun _ => h3⟩) (fun h3 => no (fun hc => h3 (hc.2 (by omega))))) (fun h2 => yes ⟨h1, fun e => by omega⟩)) (fun h1 => no (fun hc => h1 hc.1))
theorem sOk_out {N : Nat} {D : List Int} (hN : N ≤ 12) (hl : D.length = (N + 1) * (N + 1)) (d : Nat) : ∀ i : Nat, i ≤ N + 1 → N + 1 - i = d → W (fun k => spec_GapsOk.l0 k (i : Int) (N : Int) D) (fun r => r = true ↔ ∀ i', i ≤ i' → i' ≤ N → ∀ j, j ≤ N → cellG N D i' j) := by
  induction d with
  | zero =>
    intro i hi hd
    refine W.step (fun k => by simp only [spec_GapsOk.l0]; rfl) ?_
    exact W.neg (by omega) (W.ret ⟨fun _ i' h1 h2 => by omega, fun _ => rfl⟩)
  | succ d ih =>
    intro i hi hd
    refine W.step (fun k => by simp only [spec_GapsOk.l0]; rfl) ?_
    refine W.pos (by omega) ?_
    refine (sOk_in hN hl (show i ≤ N by omega) (ih (i + 1) (by omega) (by omega)) _ 0 (by omega) rfl).mono fun r hr => hr.trans ⟨fun h i' h1 h2 j hj => ?_, fun h => ⟨fun j' _ h2 => h i (Nat.le_refl _) (by omega) j' h2, fun i' h1 h2 => h i' (by omega) h2⟩⟩
    by_cases e : i' = i
    · subst e; exact h.1 j (by omega) hj
    · exact h.2 i' (by omega) h2 j hj
theorem sGapsOk (n : Int) (D : List Int) (hD : D.length ≤ 9000000000000000000) : W (fun k => spec_GapsOk.f k n D) (fun r => r = true ↔ okG n D) := by
  have bad : ¬ okG n D → W (fun k => spec_GapsOk.j0 k true n D) (fun r => r = true ↔ okG n D) := by
    intro hb
    refine W.step (fun k => by simp only [spec_GapsOk.j0]; rfl) ?_
    (try refine W.pos True.intro ?_)
    exact W.ret ⟨fun h => (by cases h), fun h => absurd h hb⟩
  unfold spec_GapsOk.f
  simp only [sIn', Option.bind_some]
  refine W.dec (fun h1 => ?_) (fun h1 => bad (by rintro ⟨N, rfl, hN, _⟩; omega))
  obtain ⟨N, rfl⟩ := Int.eq_ofNat_of_zero_le h1.1
  have hN : N ≤ 12 := by omega
  obtain ⟨e, hs⟩ := sq hN
  rw [e]
  by_cases h2 : D.length = (N + 1) * (N + 1)
  · rw [show (((D.length : Int) != (((N + 1) * (N + 1) : Nat) : Int))) = false by rw [h2]; simp]
    refine W.step (fun k => by simp only [spec_GapsOk.j0]; rfl) ?_
    (try refine W.neg (by decide) ?_)
    refine (sOk_out hN h2 _ 0 (by omega) rfl).mono fun r hr => hr.trans ⟨fun h => ⟨N, rfl, hN, h2, fun i j hi hj => h i (by omega) hi j hj⟩, fun h => ?_⟩
    obtain ⟨M, e, _, _, hc⟩ := h
    obtain rfl : N = M := by omega
    exact fun i' _ h2 j hj => hc i' j h2 hj
  · rw [show (((D.length : Int) != (((N + 1) * (N + 1) : Nat) : Int))) = true by
      rw [bne_iff_ne]; intro hc; exact h2 (by exact_mod_cast hc)]
    exact bad (by rintro ⟨M, e, _, h3, _⟩; obtain rfl : N = M := by omega
                  exact h2 h3)
theorem iOk_bounds {D : List Int} (hD : D.length ≤ 9000000000000000000) (d : Nat) : ∀ q : Nat, q ≤ D.length → D.length - q = d → W (fun k => impl_GapsOk.l1 k D (D.length : Int) (q : Int)) (fun r => r = true ↔ ∀ q', q ≤ q' → q' < D.length → inG (rd D (q' : Int))) := by
  induction d with
  | zero =>
    intro q hq hd
    refine W.step (fun k => by simp only [impl_GapsOk.l1]; rfl) ?_
    exact W.neg (by omega) (W.ret ⟨fun _ q' h1 h2 => by omega, fun _ => rfl⟩)
  | succ d ih =>
    intro q hq hd
    have h := ih (q + 1) (by omega) (by omega)
    refine W.step (fun k => by simp only [impl_GapsOk.l1]; rfl) ?_
    refine W.pos (by omega) (W.pos (by omega) (W.pos (by omega) ?_))
    rw [wrap64_id (n := (q : Int) + 1) (by omega) (by omega), show (q : Int) + 1 = ((q + 1 : Nat) : Int) by omega]
    have no : ¬ inG (rd D (q : Int)) → W (fun _ => some false) (fun r => r = true ↔ ∀ q', q ≤ q' → q' < D.length → inG (rd D (q' : Int))) := fun hc => W.ret ⟨fun h => (by cases h), fun h => absurd (h q (Nat.le_refl _) (by omega)) hc⟩
    refine W.ite (fun h1 => no (fun hc => by unfold inG at hc; omega)) (fun h1 => W.ite (fun h2 => no (fun hc => by unfold inG at hc; omega)) (fun h2 => ?_))
    refine h.mono fun r hr => hr.trans ⟨fun h q' h3 h4 => ?_, fun h q' h3 h4 => h q' (by omega) h4⟩
    by_cases e : q' = q
    · subst e; unfold inG; omega
    · exact h q' (by omega) h4
theorem iAt {N i j : Nat} (D : List Int) (hN : N ≤ 12) (hi : i ≤ N) (hj : j ≤ N) : impl_Gaps_at.f (N : Int) D (i : Int) (j : Int) = some ((i * (N + 1) + j : Nat) : Int) := by
  unfold impl_Gaps_at.f
  rw [(idx hN hi hj).1]
theorem iOk_diag {N : Nat} {D : List Int} (hN : N ≤ 12) (hl : D.length = (N + 1) * (N + 1)) (d : Nat) : ∀ i : Nat, i ≤ N + 1 → N + 1 - i = d → W (fun k => impl_GapsOk.l0 k ((N : Int) + 1) (i : Int) (N : Int) D) (fun r => r = true ↔ (∀ i', i ≤ i' → i' ≤ N → rd D ((i' * (N + 1) + i' : Nat) : Int) = 0) ∧ ∀ q : Nat, q < D.length → inG (rd D (q : Int))) := by
  have hsq := (sq hN).2
  induction d with
  | zero =>
    intro i hi hd
    refine W.step (fun k => by simp only [impl_GapsOk.l0]; rfl) ?_
    refine W.neg (by omega) ?_
    refine (iOk_bounds (by omega) _ 0 (by omega) rfl).mono fun r hr => hr.trans ⟨fun h => ⟨fun i' h1 h2 => by omega, fun q hq => h q (by omega) hq⟩, fun h q _ hq => h.2 q hq⟩
  | succ d ih =>
    intro i hi hd
    have h := ih (i + 1) (by omega) (by omega)
    obtain ⟨e, hlt⟩ := idx hN (show i ≤ N by omega) (show i ≤ N by omega)
    refine W.step (fun k => by simp only [impl_GapsOk.l0]; rfl) ?_
    refine W.pos (by omega) ?_
    rw [iAt D hN (show i ≤ N by omega) (show i ≤ N by omega)]
    simp only [Option.bind_some]
    rw [wrap64_id (n := (i : Int) + 1) (by omega) (by omega), show (i : Int) + 1 = ((i + 1 : Nat) : Int) by omega]
    refine W.pos (by omega) (W.pos (by omega) ?_)
    refine W.ite (fun h1 => ?_) (fun h1 => W.ret ⟨fun h => (by cases h), fun h => absurd (h.1 i (Nat.le_refl _) (by omega)) h1⟩)
    refine h.mono fun r hr => hr.trans ⟨fun h => ⟨fun i' h2 h3 => ?_, h.2⟩, fun h => ⟨fun i' h2 h3 => h.1 i' (by omega) h3, h.2⟩⟩
    by_cases e : i' = i
    · subst e; exact h1
    · exact h.1 i' (by omega) h3
theorem iGapsOk (n : Int) (D : List Int) (hD : D.length ≤ 9000000000000000000) : W (fun k => impl_GapsOk.f k n D) (fun r => r = true ↔ okG n D) := by
  have bad : ¬ okG n D → W (fun k => impl_GapsOk.j0 k true n D) (fun r => r = true ↔ okG n D) := by
    intro hb
    refine W.step (fun k => by simp only [impl_GapsOk.j0]; rfl) ?_
    (try refine W.pos True.intro ?_)
    exact W.ret ⟨fun h => (by cases h), fun h => absurd h hb⟩
  unfold impl_GapsOk.f
  refine W.ite (fun h1 => bad (by rintro ⟨N, rfl, hN, _⟩; omega)) (fun h1 => W.ite (fun h2 => bad (by rintro ⟨N, rfl, hN, _⟩; omega)) (fun h2 => ?_))
  obtain ⟨N, rfl⟩ := Int.eq_ofNat_of_zero_le (show 0 ≤ n by omega)
  have hN : N ≤ 12 := by omega
  obtain ⟨e, hs⟩ := sq hN
  rw [e]
  by_cases h2 : D.length = (N + 1) * (N + 1)
  · rw [show (((D.length : Int) != (((N + 1) * (N + 1) : Nat) : Int))) = false by rw [h2]; simp]
    refine W.step (fun k => by simp only [impl_GapsOk.j0]; rfl) ?_
    (try refine W.neg (by decide) ?_)
    rw [wrap64_id (n := (N : Int) + 1) (by omega) (by omega)]
    refine (iOk_diag hN h2 _ 0 (by omega) rfl).mono fun r hr => hr.trans ?_
    rw [okG_iff hN h2]
    exact ⟨fun h => ⟨fun i hi => h.1 i (by omega) hi, h.2⟩, fun h => ⟨fun i _ hi => h.1 i hi, h.2⟩⟩
  · rw [show (((D.length : Int) != (((N + 1) * (N + 1) : Nat) : Int))) = true by
      rw [bne_iff_ne]; intro hc; exact h2 (by exact_mod_cast hc)]
    exact bad (by rintro ⟨M, e, _, h3, _⟩; obtain rfl : N = M := by omega
                  exact h2 h3)
theorem toGaps (n : Int) {D : List Int} (hx : D.length ≤ 1048576) : W (fun k => laws_toGaps.f k n D) (· = (n, D)) := by
  unfold laws_toGaps.f
  refine W.bind (toInts hx) ?_
  rintro _ rfl
  exact W.ret rfl
theorem eqGaps (n : Int) {D : List Int} (hx : D.length ≤ 1048576) : W (fun k => laws_eqGaps.f k n D n D) (· = true) := by
  unfold laws_eqGaps.f
  refine W.pos rfl ?_
  refine W.bind (eqInts hx) ?_
  rintro _ rfl
  exact W.pos rfl (W.ret rfl)

theorem szGaps (n : Int) (D : List Int) (left : Int) (h0 : 0 ≤ left) (h1 : left ≤ 1048576) (hm : D.length ≤ 9223372036854775807) : laws_szGaps.f n D left = some (if left - (D.length : Int) < 0 then -1 else left - D.length) := by
  unfold laws_szGaps.f laws_szIntS.f
  rw [wrap64_id (n := left - (D.length : Int)) (by omega) (by omega)]
  by_cases h : left - (D.length : Int) < 0
  · rw [if_pos h, if_pos h]; rfl
  · rw [if_neg h, if_neg h]; simp only [Option.bind_some]; rw [if_neg h]

/-! ### gaps: whether numbers keep them -/
def al (xs : List Int) (i : Nat) : Int := rd (0 :: xs) (i : Int)
theorem al_zero (xs : List Int) : al xs 0 = 0 := rfl
theorem al_succ {xs : List Int} {i : Nat} : al xs (i + 1) = rd xs (i : Int) := by simp [al, rd]
def leG (N : Nat) (D xs : List Int) (i j : Nat) : Prop := al xs i - al xs j ≤ rd D ((i * (N + 1) + j : Nat) : Int)
def hasG (n : Int) (D xs : List Int) : Prop := okG n D ∧ (xs.length : Int) = n ∧ (∀ q : Nat, q < xs.length → okN (rd xs (q : Int))) ∧ ∀ i j : Nat, i ≤ xs.length → j ≤ xs.length → leG xs.length D xs i j
theorem al_ok {xs : List Int} (h : ∀ q : Nat, q < xs.length → okN (rd xs (q : Int))) {i : Nat} (hi : i ≤ xs.length) : -2147483648 ≤ al xs i ∧ al xs i ≤ 2147483647 := by
  cases i with
  | zero => rw [al_zero]; omega
  | succ i => rw [al_succ]; exact h i (by omega)
theorem sNum {xs : List Int} {i : Nat} (hi : i ≤ xs.length) (hx : xs.length ≤ 1048576) : spec_l11Num.f xs (i : Int) = some (al xs i) := by
  unfold spec_l11Num.f
  cases i with
  | zero => rw [if_pos (by omega)]; rfl
  | succ i =>
    have e : wrap64 (((i + 1 : Nat) : Int) - 1) = (i : Int) := by rw [wrap64_id (by omega) (by omega)]; omega
    rw [if_neg (by omega), e, if_pos (by omega), if_pos (by omega), al_succ]
section
variable {N : Nat} {D xs : List Int} (hN : N ≤ 12) (hl : D.length = (N + 1) * (N + 1)) (hx : xs.length = N) (hk : ∀ q : Nat, q < xs.length → okN (rd xs (q : Int)))
include hN hl hx hk
theorem sH2 {i : Nat} (hi : i ≤ N) {R : Prop} (hr : W (fun k => spec_GapsHas.l1 k xs ((i + 1 : Nat) : Int) (N : Int) D) (fun r => r = true ↔ R)) (d : Nat) :
    ∀ j : Nat, j ≤ N + 1 → N + 1 - j = d → W (fun k => spec_GapsHas.l2 k xs (i : Int) (j : Int) (N : Int) D) (fun r => r = true ↔ (∀ j', j ≤ j' → j' ≤ N → leG N D xs i j') ∧ R) := by
  induction d with
  | zero =>
    intro j hj hd
    refine W.step (fun k => by simp only [spec_GapsHas.l2]; rfl) ?_
    refine W.neg (by omega) ?_
    rw [wrap64_id (n := (i : Int) + 1) (by omega) (by omega), show (i : Int) + 1 = ((i + 1 : Nat) : Int) by omega]
    refine hr.mono fun r hr => hr.trans ⟨fun h => ⟨fun j' h1 h2 => by omega, h⟩, fun h => h.2⟩
  | succ d ih =>
    intro j hj hd
    have h := ih (j + 1) (by omega) (by omega)
    have ej : wrap64 ((j : Int) + 1) = ((j + 1 : Nat) : Int) := by rw [wrap64_id (by omega) (by omega)]; omega
    have b1 := al_ok hk (show i ≤ xs.length by omega)
    have b2 := al_ok hk (show j ≤ xs.length by omega)
    refine W.step (fun k => by simp only [spec_GapsHas.l2]; rfl) ?_
    refine W.pos (by omega) ?_
    refine W.bind (Q := (· = al xs i)) (W.const (sNum (by omega) (by omega)) rfl) ?_
    rintro _ rfl
    refine W.bind (Q := (· = al xs j)) (W.const (sNum (by omega) (by omega)) rfl) ?_
    rintro _ rfl
    refine W.bind (Q := (· = rd D ((i * (N + 1) + j : Nat) : Int))) (W.const (sAt hN hl hi (show j ≤ N by omega)) rfl) ?_
    rintro _ rfl
    rw [ej, wrap64_id (n := al xs i - al xs j) (by omega) (by omega)]
    refine W.ite (fun h1 => W.ret ⟨fun h => (by cases h), fun h => absurd (h.1 j (Nat.le_refl _) (by omega)) (by unfold leG; omega)⟩) (fun h1 => ?_)
    refine h.mono fun r hr => hr.trans ⟨fun h => ⟨fun j' h2 h3 => ?_, h.2⟩, fun h => ⟨fun j' h2 h3 => h.1 j' (by omega) h3, h.2⟩⟩
    by_cases e : j' = j
    · subst e; unfold leG; omega
    · exact h.1 j' (by omega) h3
theorem sH1 (d : Nat) : ∀ i : Nat, i ≤ N + 1 → N + 1 - i = d → W (fun k => spec_GapsHas.l1 k xs (i : Int) (N : Int) D) (fun r => r = true ↔ ∀ i', i ≤ i' → i' ≤ N → ∀ j, j ≤ N → leG N D xs i' j) := by
  induction d with
  | zero =>
    intro i hi hd
    refine W.step (fun k => by simp only [spec_GapsHas.l1]; rfl) ?_
    exact W.neg (by omega) (W.ret ⟨fun _ i' h1 h2 => by omega, fun _ => rfl⟩)
  | succ d ih =>
    intro i hi hd
    refine W.step (fun k => by simp only [spec_GapsHas.l1]; rfl) ?_
    refine W.pos (by omega) ?_
    refine (sH2 hN hl hx hk (show i ≤ N by omega) (ih (i + 1) (by omega) (by omega)) _ 0 (by omega) rfl).mono fun r hr => hr.trans ⟨fun h i' h1 h2 j hj => ?_, fun h => ⟨fun j' _ h2 => h i (Nat.le_refl _) (by omega) j' h2, fun i' h1 h2 => h i' (by omega) h2⟩⟩
    by_cases e : i' = i
    · subst e; exact h.1 j (by omega) hj
    · exact h.2 i' (by omega) h2 j hj
theorem iH2 {i : Nat} (hi : i ≤ N) {R : Prop} (hr : W (fun k => impl_GapsHas.l1 k (0 :: xs) (0 :: xs) ((0 :: xs : List Int).length : Int) ((i + 1 : Nat) : Int) (N : Int) D) (fun r => r = true ↔ R)) (d : Nat) :
    ∀ j : Nat, j ≤ N + 1 → N + 1 - j = d → W (fun k => impl_GapsHas.l2 k (0 :: xs) (i : Int) (al xs i) (0 :: xs) ((0 :: xs : List Int).length : Int) (i : Int) (0 :: xs) ((0 :: xs : List Int).length : Int) (j : Int) (N : Int) D) (fun r => r = true ↔ (∀ j', j ≤ j' → j' ≤ N → leG N D xs i j') ∧ R) := by
  have hlen : (0 :: xs : List Int).length = N + 1 := by simp [hx]
  induction d with
  | zero =>
    intro j hj hd
    refine W.step (fun k => by simp only [impl_GapsHas.l2]; rfl) ?_
    refine W.neg (by omega) ?_
    rw [wrap64_id (n := (i : Int) + 1) (by omega) (by omega), show (i : Int) + 1 = ((i + 1 : Nat) : Int) by omega]
    refine hr.mono fun r hr => hr.trans ⟨fun h => ⟨fun j' h1 h2 => by omega, h⟩, fun h => h.2⟩
  | succ d ih =>
    intro j hj hd
    have h := ih (j + 1) (by omega) (by omega)
    have ej : wrap64 ((j : Int) + 1) = ((j + 1 : Nat) : Int) := by rw [wrap64_id (by omega) (by omega)]; omega
    have b1 := al_ok hk (show i ≤ xs.length by omega)
    have b2 := al_ok hk (show j ≤ xs.length by omega)
    have ea : rd (0 :: xs) (j : Int) = al xs j := rfl
    have hlt := (idx hN hi (show j ≤ N by omega)).2
    refine W.step (fun k => by simp only [impl_GapsHas.l2]; rfl) ?_
    refine W.pos (by omega) (W.pos (by omega) (W.pos (by omega) ?_))
    refine W.bind (Q := (· = ((i * (N + 1) + j : Nat) : Int))) (W.const (iAt D hN hi (show j ≤ N by omega)) rfl) ?_
    rintro _ rfl
    refine W.pos (by omega) (W.pos (by omega) ?_)
    rw [ej, ea, wrap64_id (n := al xs i - al xs j) (by omega) (by omega)]
    have yes : leG N D xs i j → W (fun k => impl_GapsHas.l2 k (0 :: xs) (i : Int) (al xs i) (0 :: xs) ((0 :: xs : List Int).length : Int) (i : Int) (0 :: xs) ((0 :: xs : List Int).length : Int) ((j + 1 : Nat) : Int) (N : Int) D) (fun r => r = true ↔ (∀ j', j ≤ j' → j' ≤ N → leG N D xs i j') ∧ R) := by
      intro hle
      refine h.mono fun r hr => hr.trans ⟨fun h => ⟨fun j' h2 h3 => ?_, h.2⟩, fun h => ⟨fun j' h2 h3 => h.1 j' (by omega) h3, h.2⟩⟩
      by_cases e : j' = j
      · subst e; exact hle
      · exact h.1 j' (by omega) h3
    refine W.ite (fun h1 => yes (by unfold leG; omega)) (fun h1 => W.ite (fun h2 => W.ret ⟨fun h => (by cases h), fun h => absurd (h.1 j (Nat.le_refl _) (by omega)) (by unfold leG; omega)⟩) (fun h2 => yes (by unfold leG; omega)))
theorem iH1 (d : Nat) : ∀ i : Nat, i ≤ N + 1 → N + 1 - i = d → W (fun k => impl_GapsHas.l1 k (0 :: xs) (0 :: xs) ((0 :: xs : List Int).length : Int) (i : Int) (N : Int) D) (fun r => r = true ↔ ∀ i', i ≤ i' → i' ≤ N → ∀ j, j ≤ N → leG N D xs i' j) := by
  have hlen : (0 :: xs : List Int).length = N + 1 := by simp [hx]
  induction d with
  | zero =>
    intro i hi hd
    refine W.step (fun k => by simp only [impl_GapsHas.l1]; rfl) ?_
    exact W.neg (by omega) (W.ret ⟨fun _ i' h1 h2 => by omega, fun _ => rfl⟩)
  | succ d ih =>
    intro i hi hd
    refine W.step (fun k => by simp only [impl_GapsHas.l1]; rfl) ?_
    refine W.pos (by omega) (W.pos (by omega) (W.pos (by omega) ?_))
    refine (iH2 hN hl hx hk (show i ≤ N by omega) (ih (i + 1) (by omega) (by omega)) _ 0 (by omega) rfl).mono fun r hr => hr.trans ⟨fun h i' h1 h2 j hj => ?_, fun h => ⟨fun j' _ h2 => h i (Nat.le_refl _) (by omega) j' h2, fun i' h1 h2 => h i' (by omega) h2⟩⟩
    by_cases e : i' = i
    · subst e; exact h.1 j (by omega) hj
    · exact h.2 i' (by omega) h2 j hj
end
theorem sH0 {N : Nat} {D xs : List Int} (hN : N ≤ 12) (hl : D.length = (N + 1) * (N + 1)) (hx : xs.length = N) (d : Nat) : ∀ q : Nat, q ≤ xs.length → xs.length - q = d → (∀ p : Nat, p < q → okN (rd xs (p : Int))) →
    W (fun k => spec_GapsHas.l0 k xs (q : Int) (N : Int) D) (fun r => r = true ↔ (∀ p : Nat, p < xs.length → okN (rd xs (p : Int))) ∧ ∀ i j : Nat, i ≤ xs.length → j ≤ xs.length → leG xs.length D xs i j) := by
  induction d with
  | zero =>
    intro q hq hd hp
    have hk : ∀ p : Nat, p < xs.length → okN (rd xs (p : Int)) := fun p h => hp p (by omega)
    refine W.step (fun k => by simp only [spec_GapsHas.l0]; rfl) ?_
    refine W.neg (by omega) ?_
    refine (sH1 hN hl hx hk _ 0 (by omega) rfl).mono fun r hr => hr.trans ⟨fun h => ⟨hk, fun i j hi hj => ?_⟩, fun h i' _ hi j hj => ?_⟩
    · rw [hx]; exact h i (by omega) (by omega) j (by omega)
    · have := h.2 i' j (by omega) (by omega); rw [hx] at this; exact this
  | succ d ih =>
    intro q hq hd hp
    refine W.step (fun k => by simp only [spec_GapsHas.l0]; rfl) ?_
    refine W.pos (by omega) (W.pos (by omega) ?_)
    rw [wrap64_id (n := (q : Int) + 1) (by omega) (by omega), show (q : Int) + 1 = ((q + 1 : Nat) : Int) by omega, sNumOk]
    simp only [Option.bind_some]
    refine W.dec (fun h1 => ?_) (fun h1 => W.ret ⟨fun h => (by cases h), fun h => absurd (h.1 q (by omega)) h1⟩)
    refine ih (q + 1) (by omega) (by omega) (fun p h => ?_)
    by_cases e : p = q
    · subst e; exact h1
    · exact hp p (by omega)
theorem iH0 {N : Nat} {D xs : List Int} (hN : N ≤ 12) (hl : D.length = (N + 1) * (N + 1)) (hx : xs.length = N) (d : Nat) : ∀ q : Nat, q ≤ xs.length → xs.length - q = d → (∀ p : Nat, p < q → okN (rd xs (p : Int))) →
    W (fun k => impl_GapsHas.l0 k (0 :: xs.take q) xs (xs.length : Int) (q : Int) (N : Int) D) (fun r => r = true ↔ (∀ p : Nat, p < xs.length → okN (rd xs (p : Int))) ∧ ∀ i j : Nat, i ≤ xs.length → j ≤ xs.length → leG xs.length D xs i j) := by
  induction d with
  | zero =>
    intro q hq hd hp
    have hk : ∀ p : Nat, p < xs.length → okN (rd xs (p : Int)) := fun p h => hp p (by omega)
    rw [List.take_of_length_le (by omega)]
    refine W.step (fun k => by simp only [impl_GapsHas.l0]; rfl) ?_
    refine W.neg (by omega) ?_
    refine (iH1 hN hl hx hk _ 0 (by omega) rfl).mono fun r hr => hr.trans ⟨fun h => ⟨hk, fun i j hi hj => ?_⟩, fun h i' _ hi j hj => ?_⟩
    · rw [hx]; exact h i (by omega) (by omega) j (by omega)
    · have := h.2 i' j (by omega) (by omega); rw [hx] at this; exact this
  | succ d ih =>
    intro q hq hd hp
    have hlt : q < xs.length := by omega
    have hln : (0 :: xs.take q : List Int).length < 17592186044416 := by have := List.length_take_le' q xs; simp only [List.length_cons]; omega
    refine W.step (fun k => by simp only [impl_GapsHas.l0]; rfl) ?_
    refine W.pos (by omega) (W.pos (by omega) (W.pos (by omega) ?_))
    rw [wrap64_id (n := (q : Int) + 1) (by omega) (by omega), show (q : Int) + 1 = ((q + 1 : Nat) : Int) by omega, iNumOk]
    simp only [Option.bind_some]
    refine W.dec (fun h1 => W.pos hln ?_) (fun h1 => W.ret ⟨fun h => (by cases h), fun h => absurd (h.1 q (by omega)) h1⟩)
    have e : (0 :: xs.take q) ++ [rd xs (q : Int)] = 0 :: xs.take (q + 1) := by
      rw [List.take_succ_eq_append_getElem hlt, rd_nat hlt]; rfl
    rw [e]
    refine ih (q + 1) (by omega) (by omega) (fun p h => ?_)
    by_cases e : p = q
    · subst e; exact h1
    · exact hp p (by omega)
theorem sGapsHas (n : Int) {D xs : List Int} (hD : D.length ≤ 1048576) : W (fun k => spec_GapsHas.f k n D xs) (fun r => r = true ↔ hasG n D xs) := by
  have bad : ¬ hasG n D xs → W (fun k => spec_GapsHas.j0 k xs true n D) (fun r => r = true ↔ hasG n D xs) := by
    intro hb
    refine W.step (fun k => by simp only [spec_GapsHas.j0]; rfl) ?_
    (try refine W.pos True.intro ?_)
    exact W.ret ⟨fun h => (by cases h), fun h => absurd h hb⟩
  unfold spec_GapsHas.f
  refine W.bind (sGapsOk n D (by omega)) ?_
  intro r hr
  refine W.ite (fun h1 => ?_) (fun h1 => bad (fun h => h1 (hr.2 h.1)))
  have o := hr.1 h1
  by_cases e : (xs.length : Int) = n
  · obtain ⟨N, rfl, hN, hl, _⟩ := o
    have hx : xs.length = N := by omega
    rw [show ((xs.length : Int) != (N : Int)) = false by rw [hx]; simp]
    refine W.step (fun k => by simp only [spec_GapsHas.j0]; rfl) ?_
    (try refine W.neg (by decide) ?_)
    refine (sH0 hN hl hx _ 0 (by omega) rfl (fun p h => by omega)).mono fun r h => h.trans ⟨fun h => ⟨hr.1 h1, e, h.1, h.2⟩, fun h => ⟨h.2.2.1, h.2.2.2⟩⟩
  · rw [show ((xs.length : Int) != n) = true by simpa using e]
    exact bad (fun h => e h.2.1)
theorem iGapsHas (n : Int) {D xs : List Int} (hD : D.length ≤ 1048576) : W (fun k => impl_GapsHas.f k n D xs) (fun r => r = true ↔ hasG n D xs) := by
  have bad : ¬ hasG n D xs → W (fun k => impl_GapsHas.j0 k xs true n D) (fun r => r = true ↔ hasG n D xs) := by
    intro hb
    refine W.step (fun k => by simp only [impl_GapsHas.j0]; rfl) ?_
    (try refine W.pos True.intro ?_)
    exact W.ret ⟨fun h => (by cases h), fun h => absurd h hb⟩
  unfold impl_GapsHas.f
  refine W.bind (iGapsOk n D (by omega)) ?_
  intro r hr
  refine W.ite (fun h1 => ?_) (fun h1 => bad (fun h => h1 (hr.2 h.1)))
  have o := hr.1 h1
  by_cases e : (xs.length : Int) = n
  · obtain ⟨N, rfl, hN, hl, _⟩ := o
    have hx : xs.length = N := by omega
    rw [show ((xs.length : Int) != (N : Int)) = false by rw [hx]; simp]
    refine W.step (fun k => by simp only [impl_GapsHas.j0]; rfl) ?_
    (try refine W.neg (by decide) ?_)
    rw [wrap64_id (n := (N : Int) + 1) (by omega) (by omega)]
    refine W.pos (by omega) (W.pos (by omega) ?_)
    refine W.bind (Q := (· = ([] : List Int))) (W.const rfl rfl) ?_
    rintro _ rfl
    refine W.pos (by simp) ?_
    refine (iH0 hN hl hx _ 0 (by omega) rfl (fun p h => by omega)).mono fun r h => h.trans ⟨fun h => ⟨hr.1 h1, e, h.1, h.2⟩, fun h => ⟨h.2.2.1, h.2.2.2⟩⟩
  · rw [show ((xs.length : Int) != n) = true by simpa using e]
    exact bad (fun h => e h.2.1)
theorem FnExactGapsHas {Q1 Q2 : Prop} (n : Int) (D xs : List Int) (_ : (Lit.int .i64 n).wf = true) (hD : D.length ≤ maxLen) (_ : ∀ x ∈ D, (Lit.int .i64 x).wf = true) (_ : xs.length ≤ maxLen) (_ : Q1) (_ : Q2) : ∃ k, laws_FnExactGapsHas.f k n D xs = some true := by
  unfold maxLen at hD
  apply W.eq
  unfold laws_FnExactGapsHas.f
  refine W.ite (fun _ => W.ret rfl) (fun hxs => ?_)
  rw [szGaps n D 1048576 (by omega) (by omega) hD]
  simp only [Option.bind_some]
  refine W.ite (fun _ => W.ret rfl) (fun hl => ?_)
  have h1 : ¬ (1048576 : Int) - D.length < 0 := fun h => by rw [if_pos h] at hl; omega
  have hx : D.length ≤ 1048576 := by omega
  have hy : xs.length ≤ 1048576 := by omega
  refine W.bind (toGaps n hx) ?_
  rintro _ rfl
  refine W.bind (toInts hy) ?_
  rintro _ rfl
  refine W.bind (sGapsHas n hx) ?_
  rintro r hr
  refine W.bind (toGaps n hx) ?_
  rintro _ rfl
  refine W.bind (toInts hy) ?_
  rintro _ rfl
  refine W.bind (iGapsHas n hx) ?_
  rintro q hq
  have e : q = r := by rw [Bool.eq_iff_iff, hr, hq]
  subst e
  refine W.neg (by simp) ?_
  refine W.bind (toGaps n hx) ?_
  rintro _ rfl
  refine W.bind (eqGaps n hx) ?_
  rintro _ rfl
  refine W.pos rfl ?_
  refine W.bind (toInts hy) ?_
  rintro _ rfl
  refine W.bind (eqInts hy) ?_
  rintro _ rfl
  exact W.pos rfl (W.ret rfl)

end Go.Proofs.Ytnmccgjdnceheaa.Pure
