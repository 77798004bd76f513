/- The pure statement of the law FnExactRestJoin: for every input the printed function answers true. -/
import Derived.Test.YtlipfemjlicbbaaPFnExactRestJoinx0
import Derived.Test.YtlipfemjlicbbaaPFnExactRestJoinx1
import Derived.Test.YtlipfemjlicbbaaPFnExactRestJoinx2
import Derived.Test.YtlipfemjlicbbaaPFnExactRestJoinx3
import Derived.Test.YtlipfemjlicbbaaLib
namespace Go.Proofs.Ytlipfemjlicbbaa.Pure
open Go Go.RowKit Go.Proofs.Ytlipfemjlicbbaa.PFnExactRestJoin Go.Proofs.YtlipfemjlicbbaaW.PrintWords Go.Proofs.YtlipfemjlicbbaaW.PrintLast Go.Proofs.YtlipfemjlicbbaaW.PrintMore Go.Proofs.Ytlipfemjlicbbaa.Lib
set_option linter.unusedVariables false
set_option linter.unusedSimpArgs false

theorem tmod_pos {a n : Int} (h : 0 ≤ a) (hn : 1 ≤ n) : 0 ≤ a.tmod n ∧ a.tmod n < n := by
  rw [Int.tmod_eq_emod_of_nonneg h]
  exact ⟨Int.emod_nonneg _ (by omega), Int.emod_lt_of_pos _ (by omega)⟩

def okN (v : Int) : Prop := -2147483648 ≤ v ∧ v ≤ 2147483647
instance (v : Int) : Decidable (okN v) := by unfold okN; exact inferInstance
theorem sNumOk (v : Int) : spec_NumOk.f v = some (decide (okN v)) := by
  simp only [spec_NumOk.f, spec_l1In.f, okN]
  by_cases h : v ≥ -2147483648 <;> simp [h]
theorem iNumOk (v : Int) : impl_NumOk.f v = some (decide (okN v)) := by
  simp only [impl_NumOk.f, okN]
  by_cases h : v ≥ -2147483648 <;> simp [h]

/-! ### rests -/
def okS (m t : Int) : Prop := (m = 0 ∧ okN t) ∨ (1 ≤ m ∧ m ≤ 65536 ∧ 0 ≤ t ∧ t < m)
instance (m t : Int) : Decidable (okS m t) := by unfold okS; exact inferInstance
theorem sIn (v a b : Int) : spec_l1In.f v a b = some (decide (a ≤ v ∧ v ≤ b)) := by
  simp only [spec_l1In.f]
  by_cases h : v ≥ a <;> simp [h]
theorem sRestOk (m t : Int) : spec_RestOk.f m t = some (decide (okS m t)) := by
  simp only [spec_RestOk.f, sNumOk, sIn, Option.bind_some]
  by_cases h0 : m = 0
  · subst h0; rw [if_pos rfl]; congr 1; apply decide_eq_decide.2; unfold okS okN; omega
  · rw [if_neg h0]
    by_cases h1 : 1 ≤ m ∧ m ≤ 65536
    · rw [if_pos (decide_eq_true h1), wrap64_id (by omega) (by omega)]; congr 1; apply decide_eq_decide.2; unfold okS; omega
    · rw [if_neg (by rw [decide_eq_true_iff]; exact h1)]; congr 1; symm; apply decide_eq_false; unfold okS; omega
theorem iRestOk (m t : Int) : impl_RestOk.f m t = some (decide (okS m t)) := by
  simp only [impl_RestOk.f, iNumOk, Option.bind_some]
  by_cases h0 : m = 0
  · subst h0; rw [if_pos rfl]; congr 1; apply decide_eq_decide.2; unfold okS okN; omega
  · rw [if_neg h0]
    split
    · split
      · split
        · congr 1; apply decide_eq_decide.2; unfold okS; omega
        · congr 1; symm; apply decide_eq_false; unfold okS; omega
      · congr 1; symm; apply decide_eq_false; unfold okS; omega
    · congr 1; symm; apply decide_eq_false; unfold okS; omega

theorem sMod {a : Int} (m : Int) (h0 : 0 < m) (h1 : m ≤ 4294967296) : spec_l1Mod.f a m = some (a % m) := by
  simp only [spec_l1Mod.f]
  have e := tmod_up (n := a) (m := m) h0
  have b := tmod_bounds (n := a) (m := m) h0
  rw [if_neg (by omega)]
  by_cases hn : a.tmod m < 0
  · rw [if_pos hn] at e ⊢
    rw [wrap64_id (by omega) (by omega), e]
  · rw [if_neg hn] at e ⊢
    rw [e]
theorem iMod {a : Int} (m : Int) (h0 : 0 < m) (h1 : m ≤ 4294967296) : impl_restMod.f a m = some (a % m) := by
  simp only [impl_restMod.f]
  have e := tmod_up (n := a) (m := m) h0
  have b := tmod_bounds (n := a) (m := m) h0
  rw [if_neg (by omega)]
  by_cases hn : a.tmod m < 0
  · rw [if_pos hn] at e ⊢
    rw [wrap64_id (by omega) (by omega), e]
  · rw [if_neg hn] at e ⊢
    rw [e]

theorem okS_pos {m t : Int} (h : okS m t) (h0 : m ≠ 0) : 1 ≤ m ∧ m ≤ 65536 ∧ 0 ≤ t ∧ t < m := by unfold okS at h; omega

/-! ### greatest common divisors -/
theorem sGcd_loop (d : Nat) : ∀ a b : Int, 0 ≤ a → 0 ≤ b → b.natAbs ≤ d → W (fun k => spec_l9Gcd.l0 k a b) (· = (Int.gcd a b : Int)) := by
  induction d using Nat.strongRecOn with
  | _ d ih =>
    intro a b ha hb hd
    refine W.step (fun k => by simp only [spec_l9Gcd.l0]; rfl) ?_
    refine W.ite (fun h => W.ret ?_) (fun h => ?_)
    · subst h; rw [Int.gcd_zero_right]; omega
    · have hm := tmod_pos ha (n := b) (by omega)
      have := ih (a.tmod b).natAbs (by omega) b (a.tmod b) hb hm.1 (Nat.le_refl _)
      refine this.mono ?_
      rintro _ rfl
      unfold Int.gcd; rw [Int.natAbs_tmod, Nat.gcd_comm, ← Nat.gcd_rec, Nat.gcd_comm]
theorem sGcd (a b : Int) (ha : -9223372036854775807 ≤ a ∧ a ≤ 9223372036854775807) (hb : -9223372036854775807 ≤ b ∧ b ≤ 9223372036854775807) : W (fun k => spec_l9Gcd.f k a b) (· = (Int.gcd a b : Int)) := by
  have j1 : ∀ x y : Int, 0 ≤ x → 0 ≤ y → W (fun k => spec_l9Gcd.j1 k x y) (· = (Int.gcd x y : Int)) := by
    intro x y hx hy
    refine W.step (fun k => by simp only [spec_l9Gcd.j1]; rfl) ?_
    exact sGcd_loop _ x y hx hy (Nat.le_refl _)
  have j0 : ∀ x : Int, 0 ≤ x → W (fun k => spec_l9Gcd.j0 k x b) (· = (Int.gcd x b : Int)) := by
    intro x hx
    refine W.step (fun k => by simp only [spec_l9Gcd.j0]; rfl) ?_
    refine W.ite (fun h => ?_) (fun h => j1 x b hx (by omega))
    rw [wrap64_id (by omega) (by omega)]
    refine (j1 x (-b) hx (by omega)).mono ?_
    rintro _ rfl
    rw [Int.gcd_neg]
  unfold spec_l9Gcd.f
  refine W.ite (fun h => ?_) (fun h => j0 a (by omega))
  rw [wrap64_id (by omega) (by omega)]
  refine (j0 (-a) (by omega)).mono ?_
  rintro _ rfl
  rw [Int.neg_gcd]
/-- The greatest common divisor of some numbers, as the program goes through them. -/
def gl (g : Nat) (l : List Int) : Nat := l.foldl (fun g n => Int.gcd g n) g
theorem iGcd_in {xs : List Int} {len i : Int} {P : Int → Prop} (d : Nat) : ∀ g n : Int, n.natAbs ≤ d → i + 1 ≤ 9223372036854775807 → 0 ≤ i →
    (∀ g' : Int, g'.natAbs = Int.gcd g n → W (fun k => impl_restGcd.l0 k g' xs len (i + 1)) P) → W (fun k => impl_restGcd.l1 k g n xs len i) P := by
  induction d using Nat.strongRecOn with
  | _ d ih =>
    intro g n hd hi hi0 hk
    refine W.step (fun k => by simp only [impl_restGcd.l1]; rfl) ?_
    refine W.ite (fun h => ?_) (fun h => ?_)
    · rw [wrap64_id (by omega) (by omega)]
      exact hk g (by subst h; rw [Int.gcd_zero_right])
    · have hm : (g.tmod n).natAbs = g.natAbs % n.natAbs := Int.natAbs_tmod ..
      have hl : g.natAbs % n.natAbs < n.natAbs := Nat.mod_lt _ (by omega)
      refine ih (g.tmod n).natAbs (by omega) n (g.tmod n) (Nat.le_refl _) hi hi0 (fun g' hg => hk g' ?_)
      rw [hg]; unfold Int.gcd; rw [hm, Nat.gcd_comm, ← Nat.gcd_rec, Nat.gcd_comm]
theorem iGcd_loop {xs : List Int} (hx : xs.length ≤ 100) (hb : ∀ x ∈ xs, -9223372036854775807 ≤ x ∧ x ≤ 9223372036854775807) (d : Nat) : ∀ (i : Nat) (g : Int), i ≤ xs.length → xs.length - i = d → -9223372036854775807 ≤ g → g ≤ 9223372036854775807 →
    W (fun k => impl_restGcd.l0 k g xs (xs.length : Int) (i : Int)) (· = (gl g.natAbs (xs.drop i) : Int)) := by
  induction d with
  | zero =>
    intro i g hi hd g0 g1
    refine W.step (fun k => by simp only [impl_restGcd.l0]; rfl) ?_
    refine W.neg (by omega) ?_
    rw [List.drop_eq_nil_of_le (by omega)]
    refine W.ite (fun h => W.ret ?_) (fun h => W.ret ?_)
    · rw [wrap64_id (by omega) (by omega)]; simp only [gl, List.foldl_nil]; omega
    · simp only [gl, List.foldl_nil]; omega
  | succ d ih =>
    intro i g hi hd g0 g1
    have hlt : i < xs.length := by omega
    have hx0 := hb _ (List.getElem_mem hlt)
    have hr : rd xs (i : Int) = xs[i] := by simp [rd, List.getD_eq_getElem?_getD, List.getElem?_eq_getElem hlt]
    refine W.step (fun k => by simp only [impl_restGcd.l0]; rfl) ?_
    refine W.pos (by omega) (W.pos (by omega) (W.pos (by omega) ?_))
    rw [hr]
    refine iGcd_in _ g xs[i] (Nat.le_refl _) (by omega) (by omega) (fun g' hg => ?_)
    have hle : g'.natAbs ≤ 9223372036854775807 := by
      rw [hg]
      by_cases hz : xs[i] = 0
      · rw [hz, Int.gcd_zero_right]; omega
      · have := Nat.le_of_dvd (by omega) (show Int.gcd g xs[i] ∣ xs[i].natAbs from Nat.gcd_dvd_right _ _); omega
    have h := ih (i + 1) g' (by omega) (by omega) (by omega) (by omega)
    rw [show ((i + 1 : Nat) : Int) = (i : Int) + 1 by omega] at h
    refine h.mono ?_
    rintro _ rfl
    rw [List.drop_eq_getElem_cons hlt, hg]
    simp only [gl, List.foldl_cons]
    congr 2
theorem iGcd (xs : List Int) (hx : xs.length ≤ 100) (hb : ∀ x ∈ xs, -9223372036854775807 ≤ x ∧ x ≤ 9223372036854775807) : W (fun k => impl_restGcd.f k xs) (· = (gl 0 xs : Int)) := by
  unfold impl_restGcd.f
  exact iGcd_loop hx hb xs.length 0 0 (by omega) (by omega) (by omega) (by omega)
theorem gl2 (a b : Int) : gl 0 [a, b] = Int.gcd a b := by simp [gl, Int.gcd]
theorem gl3 (a b c : Int) : gl 0 [a, b, c] = Int.gcd (Int.gcd a b : Int) c := by simp [gl, Int.gcd]
/-- The rest of a number by a modulus from 0 on. -/
def mkS (n m : Int) : Int × Int := if m > 65536 then (((Int.gcd m 65536 : Nat) : Int), n % (Int.gcd m 65536 : Nat)) else if m = 0 then (0, n) else (m, n % m)
theorem gcd_small (m : Int) : 1 ≤ Int.gcd m 65536 ∧ Int.gcd m 65536 ≤ 65536 := by
  constructor
  · exact Nat.gcd_pos_of_pos_right _ (by decide)
  · exact Nat.le_of_dvd (by decide) (show Int.gcd m 65536 ∣ 65536 from Nat.gcd_dvd_right _ _)
theorem sMake (m n : Int) (h0 : 0 ≤ m) (h1 : m ≤ 9223372036854775807) : W (fun k => spec_l9Make.f k m n) (· = mkS n m) := by
  unfold spec_l9Make.f mkS
  have hg := gcd_small m
  refine W.ite (fun h => ?_) (fun h => ?_)
  · rw [if_pos h]
    refine W.bind (sGcd m 65536 (by omega) (by omega)) ?_
    rintro _ rfl
    refine W.neg (by omega) ?_
    rw [sMod _ (by omega) (by omega)]
    exact W.ret rfl
  · rw [if_neg h]
    refine W.ite (fun h2 => W.ret (by rw [if_pos h2])) (fun h2 => ?_)
    rw [if_neg h2, sMod _ (by omega) (by omega)]
    exact W.ret rfl
theorem iOf (m n : Int) (h0 : 0 ≤ m) (h1 : m ≤ 9223372036854775807) : W (fun k => impl_restOf.f k n m) (· = mkS n m) := by
  unfold impl_restOf.f mkS
  have hg := gcd_small m
  refine W.ite (fun h => ?_) (fun h => ?_)
  · rw [if_pos h]
    refine W.bind (iGcd [m, 65536] (by simp) (by simp; omega)) ?_
    rintro _ rfl
    rw [gl2]
    refine W.neg (by omega) ?_
    rw [iMod _ (by omega) (by omega)]
    exact W.ret rfl
  · rw [if_neg h]
    refine W.ite (fun h2 => W.ret (by rw [if_pos h2])) (fun h2 => ?_)
    rw [if_neg h2, iMod _ (by omega) (by omega)]
    exact W.ret rfl
theorem gcd_le {a b B : Int} (h0 : 0 ≤ B) (ha : -B ≤ a ∧ a ≤ B) (hb : -B ≤ b ∧ b ≤ B) : ((Int.gcd a b : Nat) : Int) ≤ B := by
  by_cases hz : a = 0
  · subst hz; rw [Int.gcd_zero_left]; omega
  · have := Nat.le_of_dvd (by omega) (show Int.gcd a b ∣ a.natAbs from Nat.gcd_dvd_left _ _); omega

def joinS (m t m2 t2 : Int) : Int × Int := if ¬ okS m t ∨ ¬ okS m2 t2 then (1, 0) else mkS t (Int.gcd (Int.gcd m m2 : Int) (t - t2) : Int)
theorem okS_range {m t : Int} (h : okS m t) : (0 ≤ m ∧ m ≤ 65536) ∧ (-2147483648 ≤ t ∧ t ≤ 2147483647) := by unfold okS okN at h; omega
theorem sRestJoin (m t m2 t2 : Int) : W (fun k => spec_RestJoin.f k m t m2 t2) (· = joinS m t m2 t2) := by
  unfold spec_RestJoin.f
  simp only [sRestOk, Option.bind_some]
  have bad : ¬ okS m t ∨ ¬ okS m2 t2 → W (fun k => spec_RestJoin.j0 k true m t m2 t2) (· = joinS m t m2 t2) := by
    intro hb
    refine W.step (fun k => by simp only [spec_RestJoin.j0, spec_l9All.f, Option.bind_some]; rfl) ?_
    (try refine W.pos (by trivial) ?_)
    exact W.ret (by unfold joinS; rw [if_pos hb])
  refine W.dec (fun h1 => ?_) (fun h1 => bad (.inl h1))
  by_cases h3 : okS m2 t2
  · rw [ndt h3]
    have r1 := okS_range h1; have r2 := okS_range h3
    have g1 := gcd_le (a := m) (b := m2) (B := 65536) (by omega) (by omega) (by omega)
    have g2 := gcd_le (a := (Int.gcd m m2 : Int)) (b := t - t2) (B := 4294967296) (by omega) (by omega) (by omega)
    refine W.step (fun k => by simp only [spec_RestJoin.j0]; rfl) ?_
    (try refine W.neg (by decide) ?_)
    refine W.bind (sGcd m m2 (by omega) (by omega)) ?_
    rintro _ rfl
    rw [wrap64_id (n := t - t2) (by omega) (by omega)]
    refine W.bind (sGcd _ _ (by omega) (by omega)) ?_
    rintro _ rfl
    refine W.bind (sMake _ _ (by omega) (by omega)) ?_
    rintro _ rfl
    exact W.ret (by unfold joinS; rw [if_neg (by simp [h1, h3])])
  · rw [ndf h3]; exact bad (.inr h3)
theorem iRestJoin (m t m2 t2 : Int) : W (fun k => impl_RestJoin.f k m t m2 t2) (· = joinS m t m2 t2) := by
  unfold impl_RestJoin.f
  simp only [iRestOk, Option.bind_some]
  have bad : ¬ okS m t ∨ ¬ okS m2 t2 → W (fun k => impl_RestJoin.j0 k true m t m2 t2) (· = joinS m t m2 t2) := by
    intro hb
    refine W.step (fun k => by simp only [impl_RestJoin.j0, impl_restAll.f, Option.bind_some]; rfl) ?_
    (try refine W.pos (by trivial) ?_)
    exact W.ret (by unfold joinS; rw [if_pos hb])
  refine W.dec (fun h1 => ?_) (fun h1 => bad (.inl h1))
  by_cases h3 : okS m2 t2
  · rw [ndt h3]
    have r1 := okS_range h1; have r2 := okS_range h3
    have g1 := gcd_le (a := m) (b := m2) (B := 65536) (by omega) (by omega) (by omega)
    have g2 := gcd_le (a := (Int.gcd m m2 : Int)) (b := t - t2) (B := 4294967296) (by omega) (by omega) (by omega)
    refine W.step (fun k => by simp only [impl_RestJoin.j0]; rfl) ?_
    (try refine W.neg (by decide) ?_)
    rw [wrap64_id (n := t - t2) (by omega) (by omega)]
    refine W.bind (iGcd [m, m2, t - t2] (by simp) (by simp; omega)) ?_
    rintro _ rfl
    rw [gl3]
    refine W.bind (iOf _ _ (by omega) (by omega)) ?_
    rintro _ rfl
    exact W.ret (by unfold joinS; rw [if_neg (by simp [h1, h3])])
  · rw [ndf h3]; exact bad (.inr h3)

theorem eqRest_same (a b : Int) : laws_eqRest.f a b a b = some true := by simp [laws_eqRest.f]
theorem FnExactRestJoin (a b c d : Int) (_ : (Lit.int .i64 a).wf = true) (_ : (Lit.int .i64 b).wf = true) (_ : (Lit.int .i64 c).wf = true) (_ : (Lit.int .i64 d).wf = true) : ∃ k, laws_FnExactRestJoin.f k a b c d = some true := by
  apply W.eq
  unfold laws_FnExactRestJoin.f
  simp only [laws_toRest.f, Option.bind_some]
  refine W.bind (sRestJoin a b c d) ?_
  rintro _ rfl
  refine W.bind (iRestJoin a b c d) ?_
  rintro _ rfl
  simp only [eqRest_same, Option.bind_some]
  exact W.pos (by trivial) (W.ret rfl)

end Go.Proofs.Ytlipfemjlicbbaa.Pure
