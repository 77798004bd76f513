/- The pure statement of the law FnExactGapsIn: for every input the printed function answers true. -/
import Derived.Test.YtnmccgjdnceheaaPFnExactGapsInx0
import Derived.Test.YtnmccgjdnceheaaPFnExactGapsInx1
import Derived.Test.YtnmccgjdnceheaaPFnExactGapsInx2
import Derived.Test.YtnmccgjdnceheaaPFnExactGapsInx3
import Derived.Test.YtnmccgjdnceheaaPFnExactGapsInx4
import Derived.Test.YtnmccgjdnceheaaPFnExactGapsInx5
import Derived.Test.YtnmccgjdnceheaaLib
namespace Go.Proofs.Ytnmccgjdnceheaa.Pure
open Go Go.RowKit Go.Proofs.Ytnmccgjdnceheaa.PFnExactGapsIn Go.Proofs.YtnmccgjdnceheaaW.PrintWords Go.Proofs.YtnmccgjdnceheaaW.PrintLast Go.Proofs.YtnmccgjdnceheaaW.PrintMore Go.Proofs.Ytnmccgjdnceheaa.Lib
set_option linter.unusedVariables false
set_option linter.unusedSimpArgs false

/-! ### lists of numbers, taken over and held against each other -/
theorem toInts_loop {xs : List Int} (hx : xs.length ≤ 1048576) (d : Nat) : ∀ (i : Nat) (ys : List Int), i ≤ xs.length → xs.length - i = d → ys.length = xs.length → ys.take i = xs.take i → W (fun k => laws_toIntS.l0 k xs ys (i : Int)) (· = xs) := by
  induction d with
  | zero =>
    intro i ys hi hd hl ht
    refine W.step (fun k => by simp only [laws_toIntS.l0]; rfl) ?_
    refine W.neg (by omega) (W.ret ?_)
    obtain rfl : i = xs.length := by omega
    rw [List.take_length, ← hl, List.take_length] at ht; exact ht
  | succ d ih =>
    intro i ys hi hd hl ht
    have hlt : i < xs.length := by omega
    refine W.step (fun k => by simp only [laws_toIntS.l0]; rfl) ?_
    refine W.pos (by omega) (W.pos (by omega) (W.pos (by omega) ?_))
    rw [wrap64_id (n := (i : Int) + 1) (by omega) (by omega), show (i : Int) + 1 = ((i + 1 : Nat) : Int) by omega, show rd xs (i : Int) = xs[i] by simp [rd, List.getD_eq_getElem?_getD, List.getElem?_eq_getElem hlt]]
    refine ih (i + 1) _ (by omega) (by omega) (by simp [hl]) ?_
    rw [Int.toNat_natCast, List.take_succ_eq_append_getElem (by simpa using by omega), List.take_succ_eq_append_getElem hlt, List.getElem_set_self, List.take_set_of_le (by omega), ht]
theorem toInts {xs : List Int} (hx : xs.length ≤ 1048576) : W (fun k => laws_toIntS.f k xs) (· = xs) := by
  unfold laws_toIntS.f
  refine W.pos (by omega) (W.pos (by omega) ?_)
  exact toInts_loop hx _ 0 _ (by omega) rfl (by simp) (by simp)
theorem eqInts_loop {xs : List Int} (hx : xs.length ≤ 1048576) (d : Nat) : ∀ i : Nat, i ≤ xs.length → xs.length - i = d → W (fun k => laws_eqIntS.l0 k xs xs (i : Int)) (· = true) := by
  induction d with
  | zero =>
    intro i hi hd
    refine W.step (fun k => by simp only [laws_eqIntS.l0]; rfl) ?_
    exact W.neg (by omega) (W.ret rfl)
  | succ d ih =>
    intro i hi hd
    refine W.step (fun k => by simp only [laws_eqIntS.l0]; rfl) ?_
    refine W.pos (by omega) (W.pos (by omega) (W.pos (by omega) (W.pos (by trivial) ?_)))
    rw [wrap64_id (n := (i : Int) + 1) (by omega) (by omega), show (i : Int) + 1 = ((i + 1 : Nat) : Int) by omega]
    exact ih (i + 1) (by omega) (by omega)
theorem eqInts {xs : List Int} (hx : xs.length ≤ 1048576) : W (fun k => laws_eqIntS.f k xs xs) (· = true) := by
  unfold laws_eqIntS.f
  refine W.pos (by trivial) ?_
  exact eqInts_loop hx _ 0 (by omega) rfl

/-! ### gaps: whether they are as they must be -/
theorem sIn' (v a b : Int) : spec_l1In.f v a b = some (decide (a ≤ v ∧ v ≤ b)) := by
  simp only [spec_l1In.f]
  by_cases h : v ≥ a <;> simp [h]
theorem rd_nat {xs : List Int} {i : Nat} (h : i < xs.length) : rd xs (i : Int) = xs[i] := by simp [rd, List.getD_eq_getElem?_getD, List.getElem?_eq_getElem h]
theorem idx {N i j : Nat} (hN : N ≤ 12) (hi : i ≤ N) (hj : j ≤ N) : wrap64 (wrap64 ((i : Int) * wrap64 ((N : Int) + 1)) + (j : Int)) = ((i * (N + 1) + j : Nat) : Int) ∧ i * (N + 1) + j < (N + 1) * (N + 1) := by
  have h1 : i * (N + 1) ≤ N * (N + 1) := Nat.mul_le_mul_right _ hi
  have h2 : N * (N + 1) ≤ 12 * 13 := Nat.mul_le_mul hN (by omega)
  have h3 : (N + 1) * (N + 1) = N * (N + 1) + (N + 1) := Nat.succ_mul ..
  have e : (i : Int) * ((N : Int) + 1) = ((i * (N + 1) : Nat) : Int) := by push_cast; rfl
  rw [wrap64_id (n := (N : Int) + 1) (by omega) (by omega), e, wrap64_id (n := ((i * (N + 1) : Nat) : Int)) (by omega) (by omega), wrap64_id (by omega) (by omega)]
  exact ⟨by omega, by omega⟩
theorem sq {N : Nat} (hN : N ≤ 12) : wrap64 (wrap64 ((N : Int) + 1) * wrap64 ((N : Int) + 1)) = (((N + 1) * (N + 1) : Nat) : Int) ∧ (N + 1) * (N + 1) ≤ 169 := by
  have h2 : (N + 1) * (N + 1) ≤ 13 * 13 := Nat.mul_le_mul (by omega) (by omega)
  have e : ((N : Int) + 1) * ((N : Int) + 1) = (((N + 1) * (N + 1) : Nat) : Int) := by push_cast; rfl
  rw [wrap64_id (n := (N : Int) + 1) (by omega) (by omega), e, wrap64_id (by omega) (by omega)]
  exact ⟨rfl, by omega⟩
def inG (x : Int) : Prop := -1099511627776 ≤ x ∧ x ≤ 1099511627776
instance (x : Int) : Decidable (inG x) := by unfold inG; exact inferInstance
/-- The bound of i and j is as it must be. -/
def cellG (N : Nat) (D : List Int) (i j : Nat) : Prop := inG (rd D ((i * (N + 1) + j : Nat) : Int)) ∧ (i = j → rd D ((i * (N + 1) + j : Nat) : Int) = 0)
def okG (n : Int) (D : List Int) : Prop := ∃ N : Nat, n = (N : Int) ∧ N ≤ 12 ∧ D.length = (N + 1) * (N + 1) ∧ ∀ i j : Nat, i ≤ N → j ≤ N → cellG N D i j
theorem at_cell {N q : Nat} (h : q < (N + 1) * (N + 1)) : ∃ i j : Nat, i ≤ N ∧ j ≤ N ∧ q = i * (N + 1) + j := by
  refine ⟨q / (N + 1), q % (N + 1), ?_, ?_, ?_⟩
  · have := Nat.div_lt_of_lt_mul (m := q) (n := N + 1) (k := N + 1) h; omega
  · have := Nat.mod_lt q (show 0 < N + 1 by omega); omega
  · rw [Nat.mul_comm]; exact (Nat.div_add_mod q (N + 1)).symm
theorem okG_iff {N : Nat} {D : List Int} (hN : N ≤ 12) (hl : D.length = (N + 1) * (N + 1)) : okG (N : Int) D ↔ (∀ i : Nat, i ≤ N → rd D ((i * (N + 1) + i : Nat) : Int) = 0) ∧ ∀ q : Nat, q < D.length → inG (rd D (q : Int)) := by
  constructor
  · rintro ⟨M, e, _, _, hc⟩
    obtain rfl : N = M := by omega
    refine ⟨fun i hi => (hc i i hi hi).2 rfl, fun q hq => ?_⟩
    obtain ⟨i, j, hi, hj, rfl⟩ := at_cell (N := N) (q := q) (by omega)
    exact (hc i j hi hj).1
  · rintro ⟨h1, h2⟩
    refine ⟨N, rfl, hN, hl, fun i j hi hj => ⟨h2 _ ?_, fun e => by subst e; exact h1 i hi⟩⟩
    rw [hl]; exact (idx hN hi hj).2
theorem sAt {N i j : Nat} {D : List Int} (hN : N ≤ 12) (hl : D.length = (N + 1) * (N + 1)) (hi : i ≤ N) (hj : j ≤ N) : spec_l11At.f (N : Int) D (i : Int) (j : Int) = some (rd D ((i * (N + 1) + j : Nat) : Int)) := by
  obtain ⟨e, hlt⟩ := idx hN hi hj
  unfold spec_l11At.f
  rw [e, if_pos (by omega), if_pos (by omega)]
theorem sOk_in {N i : Nat} {D : List Int} (hN : N ≤ 12) (hl : D.length = (N + 1) * (N + 1)) (hi : i ≤ N) {R : Prop} (hk : W (fun k => spec_GapsOk.l0 k ((i + 1 : Nat) : Int) (N : Int) D) (fun r => r = true ↔ R)) (d : Nat) :
    ∀ j : Nat, j ≤ N + 1 → N + 1 - j = d → W (fun k => spec_GapsOk.l1 k (i : Int) (j : Int) (N : Int) D) (fun r => r = true ↔ (∀ j', j ≤ j' → j' ≤ N → cellG N D i j') ∧ R) := by
  induction d with
  | zero =>
    intro j hj hd
    refine W.step (fun k => by simp only [spec_GapsOk.l1]; rfl) ?_
    refine W.neg (by omega) ?_
    rw [wrap64_id (n := (i : Int) + 1) (by omega) (by omega), show (i : Int) + 1 = ((i + 1 : Nat) : Int) by omega]
    refine hk.mono fun r hr => hr.trans ⟨fun h => ⟨fun j' h1 h2 => by omega, h⟩, fun h => h.2⟩
  | succ d ih =>
    intro j hj hd
    have h := ih (j + 1) (by omega) (by omega)
    have ej : wrap64 ((j : Int) + 1) = ((j + 1 : Nat) : Int) := by rw [wrap64_id (by omega) (by omega)]; omega
    refine W.step (fun k => by simp only [spec_GapsOk.l1]; rfl) ?_
    refine W.pos (by omega) ?_
    rw [sAt hN hl hi (show j ≤ N by omega)]
    simp only [Option.bind_some, sIn', ej]
    have no : ¬ cellG N D i j → W (fun _ => some false) (fun r => r = true ↔ (∀ j', j ≤ j' → j' ≤ N → cellG N D i j') ∧ R) := fun hc => W.ret ⟨fun h => (by cases h), fun h => absurd (h.1 j (Nat.le_refl _) (by omega)) hc⟩
    have yes : cellG N D i j → W (fun k => spec_GapsOk.l1 k (i : Int) ((j + 1 : Nat) : Int) (N : Int) D) (fun r => r = true ↔ (∀ j', j ≤ j' → j' ≤ N → cellG N D i j') ∧ R) := fun hc => h.mono fun r hr => hr.trans
      ⟨fun h => ⟨fun j' h1 h2 => by
        by_cases e : j' = j
        · subst e; exact hc
        · exact h.1 j' (by omega) h2, h.2⟩, fun h => ⟨fun j' h1 h2 => h.1 j' (by omega) h2, h.2⟩⟩
    refine W.dec (fun h1 => W.ite (fun h2 => W.ite (fun h3 => yes ⟨h1, fun _ => h3⟩) (fun h3 => no (fun hc => h3 (hc.2 (by omega))))) (fun h2 => yes ⟨h1, fun e => by omega⟩)) (fun h1 => no (fun hc => h1 hc.1))
theorem sOk_out {N : Nat} {D : List Int} (hN : N ≤ 12) (hl : D.length = (N + 1) * (N + 1)) (d : Nat) : ∀ i : Nat, i ≤ N + 1 → N + 1 - i = d → W (fun k => spec_GapsOk.l0 k (i : Int) (N : Int) D) (fun r => r = true ↔ ∀ i', i ≤ i' → i' ≤ N → ∀ j, j ≤ N → cellG N D i' j) := by
  induction d with
  | zero =>
    intro i hi hd
    refine W.step (fun k => by simp only [spec_GapsOk.l0]; rfl) ?_
    exact W.neg (by omega) (W.ret ⟨fun _ i' h1 h2 => by omega, fun _ => rfl⟩)
  | succ d ih =>
    intro i hi hd
    refine W.step (fun k => by simp only [spec_GapsOk.l0]; rfl) ?_
    refine W.pos (by omega) ?_
    refine (sOk_in hN hl (show i ≤ N by omega) (ih (i + 1) (by omega) (by omega)) _ 0 (by omega) rfl).mono fun r hr => hr.trans ⟨fun h i' h1 h2 j hj => ?_, fun h => ⟨fun j' _ h2 => h i (Nat.le_refl _) (by omega) j' h2, fun i' h1 h2 => h i' (by omega) h2⟩⟩
    by_cases e : i' = i
    · subst e; exact h.1 j (by omega) hj
    · exact h.2 i' (by omega) h2 j hj
theorem sGapsOk (n : Int) (D : List Int) (hD : D.length ≤ 9000000000000000000) : W (fun k => spec_GapsOk.f k n D) (fun r => r = true ↔ okG n D) := by
  have bad : ¬ okG n D → W (fun k => spec_GapsOk.j0 k true n D) (fun r => r = true ↔ okG n D) := by
    intro hb
    refine W.step (fun k => by simp only [spec_GapsOk.j0]; rfl) ?_
    (try refine W.pos True.intro ?_)
    exact W.ret ⟨fun h => (by cases h), fun h => absurd h hb⟩
  unfold spec_GapsOk.f
  simp only [sIn', Option.bind_some]
  refine W.dec (fun h1 => ?_) (fun h1 => bad (by rintro ⟨N, rfl, hN, _⟩; omega))
  obtain ⟨N, rfl⟩ := Int.eq_ofNat_of_zero_le h1.1
  have hN : N ≤ 12 := by omega
  obtain ⟨e, hs⟩ := sq hN
  rw [e]
  by_cases h2 : D.length = (N + 1) * (N + 1)
  · rw [show (((D.length : Int) != (((N + 1) * (N + 1) : Nat) : Int))) = false by rw [h2]; simp]
    refine W.step (fun k => by simp only [spec_GapsOk.j0]; rfl) ?_
    (try refine W.neg (by decide) ?_)
    refine (sOk_out hN h2 _ 0 (by omega) rfl).mono fun r hr => hr.trans ⟨fun h => ⟨N, rfl, hN, h2, fun i j hi hj => h i (by omega) hi j hj⟩, fun h => ?_⟩
    obtain ⟨M, e, _, _, hc⟩ := h
    obtain rfl : N = M := by omega
    exact fun i' _ h2 j hj => hc i' j h2 hj
  · rw [show (((D.length : Int) != (((N + 1) * (N + 1) : Nat) : Int))) = true by
      rw [bne_iff_ne]; intro hc; exact h2 (by exact_mod_cast hc)]
    exact bad (by rintro ⟨M, e, _, h3, _⟩; obtain rfl : N = M := by omega
                  exact h2 h3)
theorem iOk_bounds {D : List Int} (hD : D.length ≤ 9000000000000000000) (d : Nat) : ∀ q : Nat, q ≤ D.length → D.length - q = d → W (fun k => impl_GapsOk.l1 k D (D.length : Int) (q : Int)) (fun r => r = true ↔ ∀ q', q ≤ q' → q' < D.length → inG (rd D (q' : Int))) := by
  induction d with
  | zero =>
    intro q hq hd
    refine W.step (fun k => by simp only [impl_GapsOk.l1]; rfl) ?_
    exact W.neg (by omega) (W.ret ⟨fun _ q' h1 h2 => by omega, fun _ => rfl⟩)
  | succ d ih =>
    intro q hq hd
    have h := ih (q + 1) (by omega) (by omega)
    refine W.step (fun k => by simp only [impl_GapsOk.l1]; rfl) ?_
    refine W.pos (by omega) (W.pos (by omega) (W.pos (by omega) ?_))
    rw [wrap64_id (n := (q : Int) + 1) (by omega) (by omega), show (q : Int) + 1 = ((q + 1 : Nat) : Int) by omega]
    have no : ¬ inG (rd D (q : Int)) → W (fun _ => some false) (fun r => r = true ↔ ∀ q', q ≤ q' → q' < D.length → inG (rd D (q' : Int))) := fun hc => W.ret ⟨fun h => (by cases h), fun h => absurd (h q (Nat.le_refl _) (by omega)) hc⟩
    refine W.ite (fun h1 => no (fun hc => by unfold inG at hc; omega)) (fun h1 => W.ite (fun h2 => no (fun hc => by unfold inG at hc; omega)) (fun h2 => ?_))
    refine h.mono fun r hr => hr.trans ⟨fun h q' h3 h4 => ?_, fun h q' h3 h4 => h q' (by omega) h4⟩
    by_cases e : q' = q
    · subst e; unfold inG; omega
    · exact h q' (by omega) h4
theorem iAt {N i j : Nat} (D : List Int) (hN : N ≤ 12) (hi : i ≤ N) (hj : j ≤ N) : impl_Gaps_at.f (N : Int) D (i : Int) (j : Int) = some ((i * (N + 1) + j : Nat) : Int) := by
  unfold impl_Gaps_at.f
  rw [(idx hN hi hj).1]
theorem iOk_diag {N : Nat} {D : List Int} (hN : N ≤ 12) (hl : D.length = (N + 1) * (N + 1)) (d : Nat) : ∀ i : Nat, i ≤ N + 1 → N + 1 - i = d → W (fun k => impl_GapsOk.l0 k ((N : Int) + 1) (i : Int) (N : Int) D) (fun r => r = true ↔ (∀ i', i ≤ i' → i' ≤ N → rd D ((i' * (N + 1) + i' : Nat) : Int) = 0) ∧ ∀ q : Nat, q < D.length → inG (rd D (q : Int))) := by
  have hsq := (sq hN).2
  induction d with
  | zero =>
    intro i hi hd
    refine W.step (fun k => by simp only [impl_GapsOk.l0]; rfl) ?_
    refine W.neg (by omega) ?_
    refine (iOk_bounds (by omega) _ 0 (by omega) rfl).mono fun r hr => hr.trans ⟨fun h => ⟨fun i' h1 h2 => by omega, fun q hq => h q (by omega) hq⟩, fun h q _ hq => h.2 q hq⟩
  | succ d ih =>
    intro i hi hd
    have h := ih (i + 1) (by omega) (by omega)
    obtain ⟨e, hlt⟩ := idx hN (show i ≤ N by omega) (show i ≤ N by omega)
    refine W.step (fun k => by simp only [impl_GapsOk.l0]; rfl) ?_
    refine W.pos (by omega) ?_
    rw [iAt D hN (show i ≤ N by omega) (show i ≤ N by omega)]
    simp only [Option.bind_some]
    rw [wrap64_id (n := (i : Int) + 1) (by omega) (by omega), show (i : Int) + 1 = ((i + 1 : Nat) : Int) by omega]
    refine W.pos (by omega) (W.pos (by omega) ?_)
    refine W.ite (fun h1 => ?_) (fun h1 => W.ret ⟨fun h => (by cases h), fun h => absurd (h.1 i (Nat.le_refl _) (by omega)) h1⟩)
    refine h.mono fun r hr => hr.trans ⟨fun h => ⟨fun i' h2 h3 => ?_, h.2⟩, fun h => ⟨fun i' h2 h3 => h.1 i' (by omega) h3, h.2⟩⟩
    by_cases e : i' = i
    · subst e; exact h1
    · exact h.1 i' (by omega) h3
theorem iGapsOk (n : Int) (D : List Int) (hD : D.length ≤ 9000000000000000000) : W (fun k => impl_GapsOk.f k n D) (fun r => r = true ↔ okG n D) := by
  have bad : ¬ okG n D → W (fun k => impl_GapsOk.j0 k true n D) (fun r => r = true ↔ okG n D) := by
    intro hb
    refine W.step (fun k => by simp only [impl_GapsOk.j0]; rfl) ?_
    (try refine W.pos True.intro ?_)
    exact W.ret ⟨fun h => (by cases h), fun h => absurd h hb⟩
  unfold impl_GapsOk.f
  refine W.ite (fun h1 => bad (by rintro ⟨N, rfl, hN, _⟩; omega)) (fun h1 => W.ite (fun h2 => bad (by rintro ⟨N, rfl, hN, _⟩; omega)) (fun h2 => ?_))
  obtain ⟨N, rfl⟩ := Int.eq_ofNat_of_zero_le (show 0 ≤ n by omega)
  have hN : N ≤ 12 := by omega
  obtain ⟨e, hs⟩ := sq hN
  rw [e]
  by_cases h2 : D.length = (N + 1) * (N + 1)
  · rw [show (((D.length : Int) != (((N + 1) * (N + 1) : Nat) : Int))) = false by rw [h2]; simp]
    refine W.step (fun k => by simp only [impl_GapsOk.j0]; rfl) ?_
    (try refine W.neg (by decide) ?_)
    rw [wrap64_id (n := (N : Int) + 1) (by omega) (by omega)]
    refine (iOk_diag hN h2 _ 0 (by omega) rfl).mono fun r hr => hr.trans ?_
    rw [okG_iff hN h2]
    exact ⟨fun h => ⟨fun i hi => h.1 i (by omega) hi, h.2⟩, fun h => ⟨fun i _ hi => h.1 i hi, h.2⟩⟩
  · rw [show (((D.length : Int) != (((N + 1) * (N + 1) : Nat) : Int))) = true by
      rw [bne_iff_ne]; intro hc; exact h2 (by exact_mod_cast hc)]
    exact bad (by rintro ⟨M, e, _, h3, _⟩; obtain rfl : N = M := by omega
                  exact h2 h3)
theorem toGaps (n : Int) {D : List Int} (hx : D.length ≤ 1048576) : W (fun k => laws_toGaps.f k n D) (· = (n, D)) := by
  unfold laws_toGaps.f
  refine W.bind (toInts hx) ?_
  rintro _ rfl
  exact W.ret rfl
theorem eqGaps (n : Int) {D : List Int} (hx : D.length ≤ 1048576) : W (fun k => laws_eqGaps.f k n D n D) (· = true) := by
  unfold laws_eqGaps.f
  refine W.pos rfl ?_
  refine W.bind (eqInts hx) ?_
  rintro _ rfl
  exact W.pos rfl (W.ret rfl)

theorem szGaps (n : Int) (D : List Int) (left : Int) (h0 : 0 ≤ left) (h1 : left ≤ 1048576) (hm : D.length ≤ 9223372036854775807) : laws_szGaps.f n D left = some (if left - (D.length : Int) < 0 then -1 else left - D.length) := by
  unfold laws_szGaps.f laws_szIntS.f
  rw [wrap64_id (n := left - (D.length : Int)) (by omega) (by omega)]
  by_cases h : left - (D.length : Int) < 0
  · rw [if_pos h, if_pos h]; rfl
  · rw [if_neg h, if_neg h]; simp only [Option.bind_some]; rw [if_neg h]

def leL (a b : List Int) : Prop := ∀ q : Nat, q < a.length → rd a (q : Int) ≤ rd b (q : Int)
theorem sIn_loop {n m : Int} {a b : List Int} (hl : a.length = b.length) (ha : a.length ≤ 1048576) (d : Nat) : ∀ q : Nat, q ≤ a.length → a.length - q = d → W (fun k => spec_GapsIn.l0 k (q : Int) n a m b) (fun r => r = true ↔ ∀ q', q ≤ q' → q' < a.length → rd a (q' : Int) ≤ rd b (q' : Int)) := by
  induction d with
  | zero =>
    intro q hq hd
    refine W.step (fun k => by simp only [spec_GapsIn.l0]; rfl) ?_
    exact W.neg (by omega) (W.ret ⟨fun _ q' h1 h2 => by omega, fun _ => rfl⟩)
  | succ d ih =>
    intro q hq hd
    have h := ih (q + 1) (by omega) (by omega)
    refine W.step (fun k => by simp only [spec_GapsIn.l0]; rfl) ?_
    refine W.pos (by omega) (W.pos (by omega) (W.pos (by omega) ?_))
    rw [wrap64_id (n := (q : Int) + 1) (by omega) (by omega), show (q : Int) + 1 = ((q + 1 : Nat) : Int) by omega]
    refine W.ite (fun h1 => W.ret ⟨fun h => (by cases h), fun h => (by have := h q (Nat.le_refl _) (by omega); omega)⟩) (fun h1 => ?_)
    refine h.mono fun r hr => hr.trans ⟨fun h q' h3 h4 => ?_, fun h q' h3 h4 => h q' (by omega) h4⟩
    by_cases e : q' = q
    · subst e; omega
    · exact h q' (by omega) h4
theorem iIn_loop {m : Int} {a b : List Int} (hl : a.length = b.length) (ha : a.length ≤ 1048576) (d : Nat) : ∀ q : Nat, q ≤ a.length → a.length - q = d → W (fun k => impl_GapsIn.l0 k a (a.length : Int) (q : Int) m b) (fun r => r = true ↔ ∀ q', q ≤ q' → q' < a.length → rd a (q' : Int) ≤ rd b (q' : Int)) := by
  induction d with
  | zero =>
    intro q hq hd
    refine W.step (fun k => by simp only [impl_GapsIn.l0]; rfl) ?_
    exact W.neg (by omega) (W.ret ⟨fun _ q' h1 h2 => by omega, fun _ => rfl⟩)
  | succ d ih =>
    intro q hq hd
    have h := ih (q + 1) (by omega) (by omega)
    refine W.step (fun k => by simp only [impl_GapsIn.l0]; rfl) ?_
    refine W.pos (by omega) (W.pos (by omega) (W.pos (by omega) (W.pos (by omega) ?_)))
    rw [wrap64_id (n := (q : Int) + 1) (by omega) (by omega), show (q : Int) + 1 = ((q + 1 : Nat) : Int) by omega]
    refine W.ite (fun h1 => W.ret ⟨fun h => (by cases h), fun h => (by have := h q (Nat.le_refl _) (by omega); omega)⟩) (fun h1 => ?_)
    refine h.mono fun r hr => hr.trans ⟨fun h q' h3 h4 => ?_, fun h q' h3 h4 => h q' (by omega) h4⟩
    by_cases e : q' = q
    · subst e; omega
    · exact h q' (by omega) h4
theorem okG_len {n : Int} {a b : List Int} (ha : okG n a) (hb : okG n b) : a.length = b.length := by
  obtain ⟨N, rfl, _, h1, _⟩ := ha
  obtain ⟨M, e, _, h2, _⟩ := hb
  obtain rfl : N = M := by omega
  rw [h1, h2]
def inGaps (n : Int) (a : List Int) (m : Int) (b : List Int) : Prop := okG n a ∧ okG m b ∧ n = m ∧ leL a b
theorem sGapsIn (n : Int) {a : List Int} (m : Int) {b : List Int} (ha : a.length ≤ 1048576) (hb : b.length ≤ 1048576) : W (fun k => spec_GapsIn.f k n a m b) (fun r => r = true ↔ inGaps n a m b) := by
  have two : W (fun k => spec_l11Two.f k n a m b) (fun r => r = true ↔ okG n a ∧ okG m b ∧ n = m) := by
    unfold spec_l11Two.f
    refine W.bind (sGapsOk n a (by omega)) ?_
    intro r hr
    refine W.ite (fun h1 => ?_) (fun h1 => W.ret ⟨fun h => (by cases h), fun h => absurd (hr.2 h.1) h1⟩)
    refine W.bind (sGapsOk m b (by omega)) ?_
    intro q hq
    refine W.ite (fun h2 => W.ret ?_) (fun h2 => W.ret ⟨fun h => (by cases h), fun h => absurd (hq.2 h.2.1) h2⟩)
    rw [beq_iff_eq]
    exact ⟨fun h => ⟨hr.1 h1, hq.1 h2, h⟩, fun h => h.2.2⟩
  unfold spec_GapsIn.f
  refine W.bind two ?_
  intro r hr
  refine W.ite (fun h1 => ?_) (fun h1 => W.ret ⟨fun h => (by cases h), fun h => absurd (hr.2 ⟨h.1, h.2.1, h.2.2.1⟩) h1⟩)
  obtain ⟨o1, o2, rfl⟩ := hr.1 h1
  refine (sIn_loop (okG_len o1 o2) ha _ 0 (by omega) rfl).mono fun r hr => hr.trans ⟨fun h => ⟨o1, o2, rfl, fun q hq => h q (by omega) hq⟩, fun h q _ hq => h.2.2.2 q hq⟩
theorem iGapsIn (n : Int) {a : List Int} (m : Int) {b : List Int} (ha : a.length ≤ 1048576) (hb : b.length ≤ 1048576) : W (fun k => impl_GapsIn.f k n a m b) (fun r => r = true ↔ inGaps n a m b) := by
  have bad : ¬ inGaps n a m b → W (fun k => impl_GapsIn.j0 k true n a m b) (fun r => r = true ↔ inGaps n a m b) := by
    intro hb
    refine W.step (fun k => by simp only [impl_GapsIn.j0]; rfl) ?_
    (try refine W.pos True.intro ?_)
    exact W.ret ⟨fun h => (by cases h), fun h => absurd h hb⟩
  unfold impl_GapsIn.f
  refine W.bind (iGapsOk n a (by omega)) ?_
  intro r hr
  refine W.ite (fun h1 => ?_) (fun h1 => bad (fun h => h1 (hr.2 h.1)))
  refine W.bind (iGapsOk m b (by omega)) ?_
  intro q hq
  refine W.ite (fun h2 => ?_) (fun h2 => bad (fun h => h2 (hq.2 h.2.1)))
  have o1 := hr.1 h1; have o2 := hq.1 h2
  by_cases e : n = m
  · subst e
    rw [show (n != n) = false by simp]
    refine W.step (fun k => by simp only [impl_GapsIn.j0]; rfl) ?_
    (try refine W.neg (by decide) ?_)
    refine (iIn_loop (okG_len o1 o2) ha _ 0 (by omega) rfl).mono fun r hr => hr.trans ⟨fun h => ⟨o1, o2, rfl, fun q hq => h q (by omega) hq⟩, fun h q _ hq => h.2.2.2 q hq⟩
  · rw [show (n != m) = true by simpa using e]
    exact bad (fun h => e h.2.2.1)

theorem FnExactGapsIn (n : Int) (a : List Int) (m : Int) (b : List Int) (_ : (Lit.int .i64 n).wf = true) (ha : a.length ≤ maxLen) (_ : ∀ x ∈ a, (Lit.int .i64 x).wf = true) (_ : (Lit.int .i64 m).wf = true) (hb : b.length ≤ maxLen) (_ : ∀ x ∈ b, (Lit.int .i64 x).wf = true) : ∃ k, laws_FnExactGapsIn.f k n a m b = some true := by
  unfold maxLen at ha hb
  apply W.eq
  unfold laws_FnExactGapsIn.f
  rw [szGaps n a 1048576 (by omega) (by omega) ha]
  simp only [Option.bind_some]
  refine W.ite (fun _ => W.ret rfl) (fun hl => ?_)
  have h1 : ¬ (1048576 : Int) - a.length < 0 := fun h => by rw [if_pos h] at hl; omega
  rw [if_neg h1, szGaps m b _ (by omega) (by omega) hb]
  simp only [Option.bind_some]
  refine W.ite (fun _ => W.ret rfl) (fun hl => ?_)
  have h2 : ¬ (1048576 : Int) - a.length - b.length < 0 := fun h => by rw [if_pos h] at hl; omega
  have hx : a.length ≤ 1048576 := by omega
  have hy : b.length ≤ 1048576 := by omega
  refine W.bind (toGaps n hx) ?_
  rintro _ rfl
  refine W.bind (toGaps m hy) ?_
  rintro _ rfl
  refine W.bind (sGapsIn n m hx hy) ?_
  rintro r hr
  refine W.bind (toGaps n hx) ?_
  rintro _ rfl
  refine W.bind (toGaps m hy) ?_
  rintro _ rfl
  refine W.bind (iGapsIn n m hx hy) ?_
  rintro q hq
  have e : q = r := by rw [Bool.eq_iff_iff, hr, hq]
  subst e
  refine W.neg (by simp) ?_
  refine W.bind (toGaps n hx) ?_
  rintro _ rfl
  refine W.bind (eqGaps n hx) ?_
  rintro _ rfl
  refine W.pos rfl ?_
  refine W.bind (toGaps m hy) ?_
  rintro _ rfl
  refine W.bind (eqGaps m hy) ?_
  rintro _ rfl
  exact W.pos rfl (W.ret rfl)

end Go.Proofs.Ytnmccgjdnceheaa.Pure
