/- The pure statement of the law FnExactRestDo: for every input the printed function answers true. -/
import Derived.Test.YtlipfemjlicbbaaPFnExactRestDox0
import Derived.Test.YtlipfemjlicbbaaPFnExactRestDox1
import Derived.Test.YtlipfemjlicbbaaPFnExactRestDox2
import Derived.Test.YtlipfemjlicbbaaPFnExactRestDox3
import Derived.Test.YtlipfemjlicbbaaPFnExactRestDox4
import Derived.Test.YtlipfemjlicbbaaPFnExactRestDox5
import Derived.Test.YtlipfemjlicbbaaPFnExactRestDox6
import Derived.Test.YtlipfemjlicbbaaPFnExactRestDox7
import Derived.Test.YtlipfemjlicbbaaLib
namespace Go.Proofs.Ytlipfemjlicbbaa.Pure
open Go Go.RowKit Go.Proofs.Ytlipfemjlicbbaa.PFnExactRestDo Go.Proofs.YtlipfemjlicbbaaW.PrintWords Go.Proofs.YtlipfemjlicbbaaW.PrintLast Go.Proofs.YtlipfemjlicbbaaW.PrintMore Go.Proofs.Ytlipfemjlicbbaa.Lib
set_option linter.unusedVariables false
set_option linter.unusedSimpArgs false

theorem tmod_pos {a n : Int} (h : 0 ≤ a) (hn : 1 ≤ n) : 0 ≤ a.tmod n ∧ a.tmod n < n := by
  rw [Int.tmod_eq_emod_of_nonneg h]
  exact ⟨Int.emod_nonneg _ (by omega), Int.emod_lt_of_pos _ (by omega)⟩

def okN (v : Int) : Prop := -2147483648 ≤ v ∧ v ≤ 2147483647
instance (v : Int) : Decidable (okN v) := by unfold okN; exact inferInstance
theorem sNumOk (v : Int) : spec_NumOk.f v = some (decide (okN v)) := by
  simp only [spec_NumOk.f, spec_l1In.f, okN]
  by_cases h : v ≥ -2147483648 <;> simp [h]
theorem iNumOk (v : Int) : impl_NumOk.f v = some (decide (okN v)) := by
  simp only [impl_NumOk.f, okN]
  by_cases h : v ≥ -2147483648 <;> simp [h]

/-! ### rests -/
def okS (m t : Int) : Prop := (m = 0 ∧ okN t) ∨ (1 ≤ m ∧ m ≤ 65536 ∧ 0 ≤ t ∧ t < m)
instance (m t : Int) : Decidable (okS m t) := by unfold okS; exact inferInstance
theorem sIn (v a b : Int) : spec_l1In.f v a b = some (decide (a ≤ v ∧ v ≤ b)) := by
  simp only [spec_l1In.f]
  by_cases h : v ≥ a <;> simp [h]
theorem sRestOk (m t : Int) : spec_RestOk.f m t = some (decide (okS m t)) := by
  simp only [spec_RestOk.f, sNumOk, sIn, Option.bind_some]
  by_cases h0 : m = 0
  · subst h0; rw [if_pos rfl]; congr 1; apply decide_eq_decide.2; unfold okS okN; omega
  · rw [if_neg h0]
    by_cases h1 : 1 ≤ m ∧ m ≤ 65536
    · rw [if_pos (decide_eq_true h1), wrap64_id (by omega) (by omega)]; congr 1; apply decide_eq_decide.2; unfold okS; omega
    · rw [if_neg (by rw [decide_eq_true_iff]; exact h1)]; congr 1; symm; apply decide_eq_false; unfold okS; omega
theorem iRestOk (m t : Int) : impl_RestOk.f m t = some (decide (okS m t)) := by
  simp only [impl_RestOk.f, iNumOk, Option.bind_some]
  by_cases h0 : m = 0
  · subst h0; rw [if_pos rfl]; congr 1; apply decide_eq_decide.2; unfold okS okN; omega
  · rw [if_neg h0]
    split
    · split
      · split
        · congr 1; apply decide_eq_decide.2; unfold okS; omega
        · congr 1; symm; apply decide_eq_false; unfold okS; omega
      · congr 1; symm; apply decide_eq_false; unfold okS; omega
    · congr 1; symm; apply decide_eq_false; unfold okS; omega

theorem sMod {a : Int} (m : Int) (h0 : 0 < m) (h1 : m ≤ 4294967296) : spec_l1Mod.f a m = some (a % m) := by
  simp only [spec_l1Mod.f]
  have e := tmod_up (n := a) (m := m) h0
  have b := tmod_bounds (n := a) (m := m) h0
  rw [if_neg (by omega)]
  by_cases hn : a.tmod m < 0
  · rw [if_pos hn] at e ⊢
    rw [wrap64_id (by omega) (by omega), e]
  · rw [if_neg hn] at e ⊢
    rw [e]
theorem iMod {a : Int} (m : Int) (h0 : 0 < m) (h1 : m ≤ 4294967296) : impl_restMod.f a m = some (a % m) := by
  simp only [impl_restMod.f]
  have e := tmod_up (n := a) (m := m) h0
  have b := tmod_bounds (n := a) (m := m) h0
  rw [if_neg (by omega)]
  by_cases hn : a.tmod m < 0
  · rw [if_pos hn] at e ⊢
    rw [wrap64_id (by omega) (by omega), e]
  · rw [if_neg hn] at e ⊢
    rw [e]

theorem okS_pos {m t : Int} (h : okS m t) (h0 : m ≠ 0) : 1 ≤ m ∧ m ≤ 65536 ∧ 0 ≤ t ∧ t < m := by unfold okS at h; omega

/-! ### greatest common divisors -/
theorem sGcd_loop (d : Nat) : ∀ a b : Int, 0 ≤ a → 0 ≤ b → b.natAbs ≤ d → W (fun k => spec_l9Gcd.l0 k a b) (· = (Int.gcd a b : Int)) := by
  induction d using Nat.strongRecOn with
  | _ d ih =>
    intro a b ha hb hd
    refine W.step (fun k => by simp only [spec_l9Gcd.l0]; rfl) ?_
    refine W.ite (fun h => W.ret ?_) (fun h => ?_)
    · subst h; rw [Int.gcd_zero_right]; omega
    · have hm := tmod_pos ha (n := b) (by omega)
      have := ih (a.tmod b).natAbs (by omega) b (a.tmod b) hb hm.1 (Nat.le_refl _)
      refine this.mono ?_
      rintro _ rfl
      unfold Int.gcd; rw [Int.natAbs_tmod, Nat.gcd_comm, ← Nat.gcd_rec, Nat.gcd_comm]
theorem sGcd (a b : Int) (ha : -9223372036854775807 ≤ a ∧ a ≤ 9223372036854775807) (hb : -9223372036854775807 ≤ b ∧ b ≤ 9223372036854775807) : W (fun k => spec_l9Gcd.f k a b) (· = (Int.gcd a b : Int)) := by
  have j1 : ∀ x y : Int, 0 ≤ x → 0 ≤ y → W (fun k => spec_l9Gcd.j1 k x y) (· = (Int.gcd x y : Int)) := by
    intro x y hx hy
    refine W.step (fun k => by simp only [spec_l9Gcd.j1]; rfl) ?_
    exact sGcd_loop _ x y hx hy (Nat.le_refl _)
  have j0 : ∀ x : Int, 0 ≤ x → W (fun k => spec_l9Gcd.j0 k x b) (· = (Int.gcd x b : Int)) := by
    intro x hx
    refine W.step (fun k => by simp only [spec_l9Gcd.j0]; rfl) ?_
    refine W.ite (fun h => ?_) (fun h => j1 x b hx (by omega))
    rw [wrap64_id (by omega) (by omega)]
    refine (j1 x (-b) hx (by omega)).mono ?_
    rintro _ rfl
    rw [Int.gcd_neg]
  unfold spec_l9Gcd.f
  refine W.ite (fun h => ?_) (fun h => j0 a (by omega))
  rw [wrap64_id (by omega) (by omega)]
  refine (j0 (-a) (by omega)).mono ?_
  rintro _ rfl
  rw [Int.neg_gcd]
/-- The greatest common divisor of some numbers, as the program goes through them. -/
def gl (g : Nat) (l : List Int) : Nat := l.foldl (fun g n => Int.gcd g n) g
theorem iGcd_in {xs : List Int} {len i : Int} {P : Int → Prop} (d : Nat) : ∀ g n : Int, n.natAbs ≤ d → i + 1 ≤ 9223372036854775807 → 0 ≤ i →
    (∀ g' : Int, g'.natAbs = Int.gcd g n → W (fun k => impl_restGcd.l0 k g' xs len (i + 1)) P) → W (fun k => impl_restGcd.l1 k g n xs len i) P := by
  induction d using Nat.strongRecOn with
  | _ d ih =>
    intro g n hd hi hi0 hk
    refine W.step (fun k => by simp only [impl_restGcd.l1]; rfl) ?_
    refine W.ite (fun h => ?_) (fun h => ?_)
    · rw [wrap64_id (by omega) (by omega)]
      exact hk g (by subst h; rw [Int.gcd_zero_right])
    · have hm : (g.tmod n).natAbs = g.natAbs % n.natAbs := Int.natAbs_tmod ..
      have hl : g.natAbs % n.natAbs < n.natAbs := Nat.mod_lt _ (by omega)
      refine ih (g.tmod n).natAbs (by omega) n (g.tmod n) (Nat.le_refl _) hi hi0 (fun g' hg => hk g' ?_)
      rw [hg]; unfold Int.gcd; rw [hm, Nat.gcd_comm, ← Nat.gcd_rec, Nat.gcd_comm]
theorem iGcd_loop {xs : List Int} (hx : xs.length ≤ 100) (hb : ∀ x ∈ xs, -9223372036854775807 ≤ x ∧ x ≤ 9223372036854775807) (d : Nat) : ∀ (i : Nat) (g : Int), i ≤ xs.length → xs.length - i = d → -9223372036854775807 ≤ g → g ≤ 9223372036854775807 →
    W (fun k => impl_restGcd.l0 k g xs (xs.length : Int) (i : Int)) (· = (gl g.natAbs (xs.drop i) : Int)) := by
  induction d with
  | zero =>
    intro i g hi hd g0 g1
    refine W.step (fun k => by simp only [impl_restGcd.l0]; rfl) ?_
    refine W.neg (by omega) ?_
    rw [List.drop_eq_nil_of_le (by omega)]
    refine W.ite (fun h => W.ret ?_) (fun h => W.ret ?_)
    · rw [wrap64_id (by omega) (by omega)]; simp only [gl, List.foldl_nil]; omega
    · simp only [gl, List.foldl_nil]; omega
  | succ d ih =>
    intro i g hi hd g0 g1
    have hlt : i < xs.length := by omega
    have hx0 := hb _ (List.getElem_mem hlt)
    have hr : rd xs (i : Int) = xs[i] := by simp [rd, List.getD_eq_getElem?_getD, List.getElem?_eq_getElem hlt]
    refine W.step (fun k => by simp only [impl_restGcd.l0]; rfl) ?_
    refine W.pos (by omega) (W.pos (by omega) (W.pos (by omega) ?_))
    rw [hr]
    refine iGcd_in _ g xs[i] (Nat.le_refl _) (by omega) (by omega) (fun g' hg => ?_)
    have hle : g'.natAbs ≤ 9223372036854775807 := by
      rw [hg]
      by_cases hz : xs[i] = 0
      · rw [hz, Int.gcd_zero_right]; omega
      · have := Nat.le_of_dvd (by omega) (show Int.gcd g xs[i] ∣ xs[i].natAbs from Nat.gcd_dvd_right _ _); omega
    have h := ih (i + 1) g' (by omega) (by omega) (by omega) (by omega)
    rw [show ((i + 1 : Nat) : Int) = (i : Int) + 1 by omega] at h
    refine h.mono ?_
    rintro _ rfl
    rw [List.drop_eq_getElem_cons hlt, hg]
    simp only [gl, List.foldl_cons]
    congr 2
theorem iGcd (xs : List Int) (hx : xs.length ≤ 100) (hb : ∀ x ∈ xs, -9223372036854775807 ≤ x ∧ x ≤ 9223372036854775807) : W (fun k => impl_restGcd.f k xs) (· = (gl 0 xs : Int)) := by
  unfold impl_restGcd.f
  exact iGcd_loop hx hb xs.length 0 0 (by omega) (by omega) (by omega) (by omega)
theorem gl2 (a b : Int) : gl 0 [a, b] = Int.gcd a b := by simp [gl, Int.gcd]
theorem gl3 (a b c : Int) : gl 0 [a, b, c] = Int.gcd (Int.gcd a b : Int) c := by simp [gl, Int.gcd]
theorem gcd_le {a b B : Int} (h0 : 0 ≤ B) (ha : -B ≤ a ∧ a ≤ B) (hb : -B ≤ b ∧ b ≤ B) : ((Int.gcd a b : Nat) : Int) ≤ B := by
  by_cases hz : a = 0
  · subst hz; rw [Int.gcd_zero_left]; omega
  · have := Nat.le_of_dvd (by omega) (show Int.gcd a b ∣ a.natAbs from Nat.gcd_dvd_left _ _); omega

/-- The rest of a number by a modulus from 0 on. -/
def mkS (n m : Int) : Int × Int := if m > 65536 then (((Int.gcd m 65536 : Nat) : Int), n % (Int.gcd m 65536 : Nat)) else if m = 0 then (0, n) else (m, n % m)
theorem gcd_small (m : Int) : 1 ≤ Int.gcd m 65536 ∧ Int.gcd m 65536 ≤ 65536 := by
  constructor
  · exact Nat.gcd_pos_of_pos_right _ (by decide)
  · exact Nat.le_of_dvd (by decide) (show Int.gcd m 65536 ∣ 65536 from Nat.gcd_dvd_right _ _)
theorem sMake (m n : Int) (h0 : 0 ≤ m) (h1 : m ≤ 9223372036854775807) : W (fun k => spec_l9Make.f k m n) (· = mkS n m) := by
  unfold spec_l9Make.f mkS
  have hg := gcd_small m
  refine W.ite (fun h => ?_) (fun h => ?_)
  · rw [if_pos h]
    refine W.bind (sGcd m 65536 (by omega) (by omega)) ?_
    rintro _ rfl
    refine W.neg (by omega) ?_
    rw [sMod _ (by omega) (by omega)]
    exact W.ret rfl
  · rw [if_neg h]
    refine W.ite (fun h2 => W.ret (by rw [if_pos h2])) (fun h2 => ?_)
    rw [if_neg h2, sMod _ (by omega) (by omega)]
    exact W.ret rfl
theorem iOf (m n : Int) (h0 : 0 ≤ m) (h1 : m ≤ 9223372036854775807) : W (fun k => impl_restOf.f k n m) (· = mkS n m) := by
  unfold impl_restOf.f mkS
  have hg := gcd_small m
  refine W.ite (fun h => ?_) (fun h => ?_)
  · rw [if_pos h]
    refine W.bind (iGcd [m, 65536] (by simp) (by simp; omega)) ?_
    rintro _ rfl
    rw [gl2]
    refine W.neg (by omega) ?_
    rw [iMod _ (by omega) (by omega)]
    exact W.ret rfl
  · rw [if_neg h]
    refine W.ite (fun h2 => W.ret (by rw [if_pos h2])) (fun h2 => ?_)
    rw [if_neg h2, iMod _ (by omega) (by omega)]
    exact W.ret rfl

theorem power_loop (n : Int) (hn : n ≤ 61) (d : Nat) : ∀ i : Int, 0 ≤ i → i ≤ n → n - i = d → W (fun k => spec_l1Power.l0 k n (2 ^ i.toNat) i) (· = 2 ^ n.toNat) := by
  induction d with
  | zero =>
    intro i h0 h1 hd
    refine W.step (fun k => by simp only [spec_l1Power.l0]; rfl) ?_
    exact W.neg (by omega) (W.ret (by rw [show i = n by omega]))
  | succ d ih =>
    intro i h0 h1 hd
    refine W.step (fun k => by simp only [spec_l1Power.l0]; rfl) ?_
    refine W.pos (by omega) ?_
    have hp : (2 : Int) ^ i.toNat ≤ 2 ^ 61 := pow_mono (by omega)
    have hq := pow_pos' i.toNat
    have h := ih (i + 1) (by omega) (by omega) (by omega)
    rw [show (i + 1).toNat = i.toNat + 1 by omega, Int.pow_succ, Int.mul_comm] at h
    rw [wrap64_id (n := i + 1) (by omega) (by omega), wrap64_id (n := 2 * 2 ^ i.toNat) (by omega) (by omega)]
    exact h
theorem power_ok (n : Int) (h0 : 0 ≤ n) (hn : n ≤ 61) : W (fun k => spec_l1Power.f k n) (· = 2 ^ n.toNat) := by
  unfold spec_l1Power.f
  exact power_loop n hn n.toNat 0 (by omega) h0 (by omega)

theorem sNumWrap (a : Int) (h0 : -9223372036854775808 ≤ a) (h1 : a ≤ 9223372036854775807) : spec_NumWrap.f a = some (wrap32 a) := by
  simp only [spec_NumWrap.f, spec_l1Mod.f]
  have e := tmod_up (n := a) (m := 4294967296) (by omega)
  have b := tmod_bounds (n := a) (m := 4294967296) (by omega)
  rw [if_neg (by omega)]
  by_cases hn : a.tmod 4294967296 < 0
  · rw [if_pos hn] at e ⊢
    rw [wrap64_id (by omega) (by omega), e]
    simp only [Option.bind_some]
    by_cases hm : a % 4294967296 > 2147483647
    · rw [if_pos hm]
      congr 1; unfold wrap64 wrap32; omega
    · rw [if_neg hm]
      congr 1; unfold wrap32; omega
  · rw [if_neg hn] at e ⊢
    rw [e]
    simp only [Option.bind_some]
    by_cases hm : a % 4294967296 > 2147483647
    · rw [if_pos hm]
      congr 1; unfold wrap64 wrap32; omega
    · rw [if_neg hm]
      congr 1; unfold wrap32; omega
theorem wrap32_ok (a : Int) : -2147483648 ≤ wrap32 a ∧ wrap32 a ≤ 2147483647 := by unfold wrap32; omega
theorem wrap64_ok (a : Int) : -9223372036854775808 ≤ wrap64 a ∧ wrap64 a ≤ 9223372036854775807 := by unfold wrap64; omega


/-! ### what an operator makes of two numbers -/
def exactV (op a b : Int) : Int :=
  if op = 1 ∨ op = 11 then a + b else if op = 2 ∨ op = 12 then a - b else if op = 3 ∨ op = 13 then a * b else if op = 4 then a.tdiv b else if op = 5 then a.tmod b
  else if op = 6 then s32 (u32 a &&& u32 b) else if op = 7 then s32 (u32 a ||| u32 b) else if op = 8 then s32 (u32 a ^^^ u32 b) else if op = 9 then a * 2 ^ b.toNat else if op = 10 then a / 2 ^ b.toNat else 0
theorem mul_bound {a b : Int} (ha : -2147483648 ≤ a ∧ a ≤ 2147483647) (hb : -2147483648 ≤ b ∧ b ≤ 2147483647) : -4611686018427387904 ≤ a * b ∧ a * b ≤ 4611686018427387904 := by
  have h : (a * b).natAbs ≤ 2147483648 * 2147483648 := by
    rw [Int.natAbs_mul]; exact Nat.mul_le_mul (by omega) (by omega)
  omega
theorem mul_bound2 {a b : Int} (ha : -2147483648 ≤ a ∧ a ≤ 2147483647) (hb : 0 ≤ b ∧ b ≤ 2147483648) : -4611686018427387904 ≤ a * b ∧ a * b ≤ 4611686018427387904 := by
  have h : (a * b).natAbs ≤ 2147483648 * 2147483648 := by
    rw [Int.natAbs_mul]; exact Nat.mul_le_mul (by omega) (by omega)
  omega
theorem pow31 {b : Int} (h : b ≤ 31) : (2 : Int) ^ b.toNat ≤ 2147483648 := pow_mono (b := 31) (by omega)
theorem tdiv_bound {a b : Int} (ha : -2147483648 ≤ a ∧ a ≤ 2147483647) : -2147483648 ≤ a.tdiv b ∧ a.tdiv b ≤ 2147483648 := by
  have h : (a.tdiv b).natAbs ≤ a.natAbs := by rw [Int.natAbs_tdiv]; exact Nat.div_le_self _ _
  omega
theorem u64_small {i : Int} (h0 : 0 ≤ i) (h1 : i ≤ 1000) : IntKind.u64.wrap i = i := by
  simp [IntKind.wrap, IntKind.bits, IntKind.signed]; omega
theorem i64wrap {n : Int} (h0 : -9223372036854775808 ≤ n) (h1 : n ≤ 9223372036854775807) : IntKind.i64.wrap n = n := by
  simp [IntKind.wrap, IntKind.bits, IntKind.signed]; omega
theorem shl_id {x i : Int} (h0 : 0 ≤ i) (h1 : i ≤ 63) (hx : -9223372036854775808 ≤ x * 2 ^ i.toNat) (hy : x * 2 ^ i.toNat ≤ 9223372036854775807) : shl .i64 x i = x * 2 ^ i.toNat := by
  unfold shl
  rw [show min i.toNat IntKind.i64.bits = i.toNat by simp [IntKind.bits]; omega]
  exact i64wrap hx hy
theorem shr_id {x i : Int} (h0 : 0 ≤ i) (h1 : i ≤ 63) : shr .i64 x i = x / 2 ^ i.toNat := by
  unfold shr
  rw [show min i.toNat IntKind.i64.bits = i.toNat by simp [IntKind.bits]; omega]
/-- What the quotients, rests and shifts ask ahead. -/
def Fit (op b : Int) : Prop := (op = 4 ∨ op = 5 → b ≠ 0) ∧ (op = 9 ∨ op = 10 → 0 ≤ b ∧ b ≤ 31)
theorem ops {op : Int} (h : 1 ≤ op) (h1 : op ≤ 13) : op = 1 ∨ op = 2 ∨ op = 3 ∨ op = 4 ∨ op = 5 ∨ op = 6 ∨ op = 7 ∨ op = 8 ∨ op = 9 ∨ op = 10 ∨ op = 11 ∨ op = 12 ∨ op = 13 := by omega
theorem iExact {op a b : Int} (h : 1 ≤ op) (h1 : op ≤ 13) (ha : -2147483648 ≤ a ∧ a ≤ 2147483647) (hb : -2147483648 ≤ b ∧ b ≤ 2147483647) (hf : Fit op b) : W (fun k => impl_numExact.f k op a b) (· = exactV op a b) := by
  refine ⟨_, rfl, 3, fun k hk => ?_⟩
  obtain ⟨m, rfl⟩ : ∃ m, k = m + 3 := ⟨k - 3, by omega⟩
  obtain ⟨f1, f2⟩ := hf
  rcases ops h h1 with rfl | rfl | rfl | rfl | rfl | rfl | rfl | rfl | rfl | rfl | rfl | rfl | rfl
  · simp [impl_numExact.f, impl_numExact.j0, exactV]; exact wrap64_id (by omega) (by omega)
  · simp [impl_numExact.f, impl_numExact.j0, impl_numExact.j1, exactV]; exact wrap64_id (by omega) (by omega)
  · have := mul_bound ha hb; simp [impl_numExact.f, impl_numExact.j0, impl_numExact.j1, impl_numExact.j2, exactV]; exact wrap64_id (by omega) (by omega)
  · have := tdiv_bound (b := b) ha; have := f1 (by omega); simp [impl_numExact.f, impl_numExact.j0, impl_numExact.j1, impl_numExact.j2, exactV, this]; exact wrap64_id (by omega) (by omega)
  · have := f1 (by omega); simp [impl_numExact.f, impl_numExact.j0, impl_numExact.j1, impl_numExact.j2, exactV, this]
  · simp [impl_numExact.f, impl_numExact.j0, impl_numExact.j1, impl_numExact.j2, exactV]; exact bits_and ha.1 ha.2 hb.1 hb.2
  · simp [impl_numExact.f, impl_numExact.j0, impl_numExact.j1, impl_numExact.j2, exactV]; exact bits_or ha.1 ha.2 hb.1 hb.2
  · simp [impl_numExact.f, impl_numExact.j0, impl_numExact.j1, impl_numExact.j2, exactV]; exact bits_xor ha.1 ha.2 hb.1 hb.2
  · have hb' := f2 (by omega)
    have hw := u64_small hb'.1 (by omega)
    have hp := mul_bound2 ha ⟨Int.le_of_lt (pow_pos' b.toNat), pow31 hb'.2⟩
    simp [impl_numExact.f, impl_numExact.j0, impl_numExact.j1, impl_numExact.j2, exactV, hw, hb'.1]; exact shl_id hb'.1 (by omega) (by omega) (by omega)
  · have hb' := f2 (by omega)
    have hw := u64_small hb'.1 (by omega)
    simp [impl_numExact.f, impl_numExact.j0, impl_numExact.j1, impl_numExact.j2, exactV, hw, hb'.1]; exact shr_id hb'.1 (by omega)
  · simp [impl_numExact.f, impl_numExact.j0, exactV]; exact wrap64_id (by omega) (by omega)
  · simp [impl_numExact.f, impl_numExact.j0, impl_numExact.j1, exactV]; exact wrap64_id (by omega) (by omega)
  · have := mul_bound ha hb; simp [impl_numExact.f, impl_numExact.j0, impl_numExact.j1, impl_numExact.j2, exactV]; exact wrap64_id (by omega) (by omega)

theorem nsMod {a : Int} (m : Int) (h0 : 0 < m) (h1 : m ≤ 4294967296) : spec_l1Mod.f a m = some (a % m) := by
  simp only [spec_l1Mod.f]
  have e := tmod_up (n := a) (m := m) h0
  have b := tmod_bounds (n := a) (m := m) h0
  rw [if_neg (by omega)]
  by_cases hn : a.tmod m < 0
  · rw [if_pos hn] at e ⊢
    rw [wrap64_id (by omega) (by omega), e]
  · rw [if_neg hn] at e ⊢
    rw [e]
theorem u32_cast (a : Int) : a % 4294967296 = (u32 a : Int) := by unfold u32; omega
theorem bit_cast (A n : Nat) : Int.tmod ((A : Int) / 2 ^ n) 2 = ((A / 2 ^ n % 2 : Nat) : Int) := by
  have : (A : Int) / 2 ^ n = ((A / 2 ^ n : Nat) : Int) := by norm_cast
  rw [this, Int.tmod_eq_emod_of_nonneg (Int.natCast_nonneg _)]; norm_cast
theorem bits_step {X n z : Nat} (hX : X < 4294967296) (hn : n < 32) (hz : X / 2 ^ n % 2 = z) : wrap64 (((X % 2 ^ n : Nat) : Int) + shl .i64 (z : Int) (n : Int)) = ((X % 2 ^ (n + 1) : Nat) : Int) := by
  have hz2 : z < 2 := by omega
  have h1 : X % 2 ^ (n + 1) ≤ X := Nat.mod_le _ _
  have e := mod_succ X n
  rw [hz] at e
  have hp : (2 : Nat) ^ n ≤ 2 ^ 31 := Nat.pow_le_pow_right (by omega) (by omega)
  have hs : (z : Int) * 2 ^ ((n : Int)).toNat = ((2 ^ n * z : Nat) : Int) := by
    rw [Int.toNat_natCast, Nat.mul_comm]; norm_cast
  have hb : 2 ^ n * z ≤ 2 ^ 31 * 1 := Nat.mul_le_mul hp (by omega)
  rw [shl_id (by omega) (by omega) (by rw [hs]; omega) (by rw [hs]; omega), hs, wrap64_id (by omega) (by omega)]
  omega
theorem sNumWrap_s32 {X : Nat} (h : X < 4294967296) : spec_NumWrap.f (X : Int) = some (s32 X) := by
  rw [sNumWrap _ (by omega) (by omega)]
  congr 1; unfold wrap32 s32; split <;> omega
theorem bits_loop {op a b : Int} {X : Nat} (hop : op = 6 ∨ op = 7 ∨ op = 8)
    (hX : X = if op = 6 then u32 a &&& u32 b else if op = 7 then u32 a ||| u32 b else u32 a ^^^ u32 b) (d : Nat) : ∀ n : Nat, n ≤ 32 → 32 - n = d → W (fun k => spec_l1Bits.l0 k op a b ((X % 2 ^ n : Nat) : Int) (n : Int)) (· = s32 X) := by
  have hA := u32_lt a
  have hB := u32_lt b
  have hXl : X < 4294967296 := by
    rw [hX]; split
    · exact and_lt hA
    · split
      · exact or_lt hA hB
      · exact xor_lt hA hB
  induction d with
  | zero =>
    intro n hn hd
    obtain rfl : n = 32 := by omega
    refine W.step (fun k => by simp only [spec_l1Bits.l0]; rfl) ?_
    refine W.neg (by omega) ?_
    rw [Nat.mod_eq_of_lt (show X < 2 ^ 32 from hXl)]
    refine W.bind (W.const (sNumWrap_s32 hXl) rfl) ?_
    rintro _ rfl
    exact W.ret rfl
  | succ d ih =>
    intro n hn hd
    have ih' := ih (n + 1) (by omega) (by omega)
    have ei : wrap64 ((n : Int) + 1) = ((n + 1 : Nat) : Int) := by rw [wrap64_id (by omega) (by omega)]; omega
    have hu : IntKind.u64.wrap (n : Int) = (n : Int) := u64_small (by omega) (by omega)
    have hsr : ∀ A : Nat, Int.tmod (shr .i64 (A : Int) (n : Int)) 2 = ((A / 2 ^ n % 2 : Nat) : Int) := fun A => by rw [shr_id (by omega) (by omega), Int.toNat_natCast]; exact bit_cast A n
    refine W.step (fun k => by simp only [spec_l1Bits.l0]; rfl) ?_
    refine W.pos (by omega) ?_
    refine W.bind (W.const (nsMod (a := a) 4294967296 (by omega) (by omega)) rfl) ?_
    rintro _ rfl
    rw [hu, u32_cast a]
    refine W.pos (by omega) ?_
    refine W.bind (W.const (nsMod (a := b) 4294967296 (by omega) (by omega)) rfl) ?_
    rintro _ rfl
    rw [u32_cast b, hsr, hsr, ei]
    have za := Nat.mod_two_eq_zero_or_one (u32 a / 2 ^ n); have zb := Nat.mod_two_eq_zero_or_one (u32 b / 2 ^ n)
    rcases hop with rfl | rfl | rfl
    · refine W.neg (by decide) (W.neg (by decide) ?_)
      have hz := bit_and (u32 a) (u32 b) n
      simp only [if_true] at hX
      rw [← hX] at hz
      rw [show wrap64 (((u32 a / 2 ^ n % 2 : Nat) : Int) * ((u32 b / 2 ^ n % 2 : Nat) : Int)) = (((u32 a / 2 ^ n % 2) * (u32 b / 2 ^ n % 2) : Nat) : Int) by
        rcases za with h | h <;> rcases zb with g | g <;> rw [h, g] <;> simp [wrap64], bits_step hXl (by omega) hz]
      exact ih'
    · refine W.pos rfl ?_
      have hz := bit_or (u32 a) (u32 b) n
      simp only [if_true, show ¬ (7 : Int) = 6 by decide, if_false] at hX
      rw [← hX] at hz
      rw [show wrap64 (wrap64 (((u32 a / 2 ^ n % 2 : Nat) : Int) + ((u32 b / 2 ^ n % 2 : Nat) : Int)) - wrap64 (((u32 a / 2 ^ n % 2 : Nat) : Int) * ((u32 b / 2 ^ n % 2 : Nat) : Int))) = (((u32 a / 2 ^ n % 2) + (u32 b / 2 ^ n % 2) - (u32 a / 2 ^ n % 2) * (u32 b / 2 ^ n % 2) : Nat) : Int) by
        rcases za with h | h <;> rcases zb with g | g <;> rw [h, g] <;> simp [wrap64], bits_step hXl (by omega) hz]
      exact ih'
    · refine W.neg (by decide) (W.pos rfl ?_)
      have hz := bit_xor (u32 a) (u32 b) n
      simp only [show ¬ (8 : Int) = 6 by decide, show ¬ (8 : Int) = 7 by decide, if_false] at hX
      rw [← hX] at hz
      rw [show Int.tmod (wrap64 (((u32 a / 2 ^ n % 2 : Nat) : Int) + ((u32 b / 2 ^ n % 2 : Nat) : Int))) 2 = ((((u32 a / 2 ^ n % 2) + (u32 b / 2 ^ n % 2)) % 2 : Nat) : Int) by
        rcases za with h | h <;> rcases zb with g | g <;> rw [h, g] <;> simp [wrap64], bits_step hXl (by omega) hz]
      exact ih'
theorem sBits {op a b : Int} (hop : op = 6 ∨ op = 7 ∨ op = 8) : W (fun k => spec_l1Bits.f k op a b) (· = exactV op a b) := by
  unfold spec_l1Bits.f
  have h := bits_loop (op := op) (a := a) (b := b) hop rfl 32 0 (by omega) (by omega)
  rw [Nat.pow_zero, Nat.mod_one] at h
  refine W.mono h ?_
  rintro _ rfl
  rcases hop with rfl | rfl | rfl <;> simp [exactV]
theorem ediv_bound {a p : Int} (ha : -2147483648 ≤ a ∧ a ≤ 2147483647) (hp : 0 < p) : -2147483648 ≤ a / p ∧ a / p ≤ 2147483647 := by
  constructor
  · rw [Int.le_ediv_iff_mul_le hp]
    have := Int.mul_le_mul_of_nonpos_left (a := -2147483648) (by omega) (show (1 : Int) ≤ p by omega)
    omega
  · rcases Int.le_total 0 a with h | h
    · have := Int.ediv_le_self p h; omega
    · have := Int.ediv_le_ediv hp h; simp at this; omega
theorem floor_eq {a p : Int} (hp : 0 < p) : (a - a % p).tdiv p = a / p := by
  have := Int.mul_ediv_add_emod a p
  rw [show a - a % p = p * (a / p) by omega, Int.mul_tdiv_cancel_left _ (by omega)]
theorem sExact {op a b : Int} (h : 1 ≤ op) (h1 : op ≤ 13) (ha : -2147483648 ≤ a ∧ a ≤ 2147483647) (hb : -2147483648 ≤ b ∧ b ≤ 2147483647) (hf : Fit op b) : W (fun k => spec_l1Exact.f k op a b) (· = exactV op a b) := by
  obtain ⟨f1, f2⟩ := hf
  have st : ∀ {g : Nat → Option Int} (r : Int) (m : Nat), (∀ k, g (k + m) = some r) → W g (· = r) := fun r m hg => ⟨r, rfl, m, fun k hk => by obtain ⟨q, rfl⟩ : ∃ q, k = q + m := ⟨k - m, by omega⟩; exact hg q⟩
  rcases ops h h1 with rfl | rfl | rfl | rfl | rfl | rfl | rfl | rfl | rfl | rfl | rfl | rfl | rfl
  · refine st _ 3 fun k => ?_; simp [spec_l1Exact.f, spec_l1Exact.j0, exactV]; exact wrap64_id (by omega) (by omega)
  · refine st _ 3 fun k => ?_; simp [spec_l1Exact.f, spec_l1Exact.j0, spec_l1Exact.j1, exactV]; exact wrap64_id (by omega) (by omega)
  · have := mul_bound ha hb; refine st _ 3 fun k => ?_; simp [spec_l1Exact.f, spec_l1Exact.j0, spec_l1Exact.j1, spec_l1Exact.j2, exactV]; exact wrap64_id (by omega) (by omega)
  · have := tdiv_bound (b := b) ha; have := f1 (by omega); refine st _ 3 fun k => ?_; simp [spec_l1Exact.f, spec_l1Exact.j0, spec_l1Exact.j1, spec_l1Exact.j2, exactV, this]; exact wrap64_id (by omega) (by omega)
  · have := f1 (by omega); refine st _ 3 fun k => ?_; simp [spec_l1Exact.f, spec_l1Exact.j0, spec_l1Exact.j1, spec_l1Exact.j2, exactV, this]
  · refine W.steps 3 (fun k => by simp only [spec_l1Exact.f, spec_l1Exact.j0, spec_l1Exact.j1, spec_l1Exact.j2]; rfl) ?_
    refine W.bind (sBits (by omega)) ?_
    rintro _ rfl
    exact W.ret rfl
  · refine W.steps 3 (fun k => by simp only [spec_l1Exact.f, spec_l1Exact.j0, spec_l1Exact.j1, spec_l1Exact.j2]; rfl) ?_
    refine W.bind (sBits (by omega)) ?_
    rintro _ rfl
    exact W.ret rfl
  · refine W.steps 3 (fun k => by simp only [spec_l1Exact.f, spec_l1Exact.j0, spec_l1Exact.j1, spec_l1Exact.j2]; rfl) ?_
    refine W.bind (sBits (by omega)) ?_
    rintro _ rfl
    exact W.ret rfl
  · have hb' := f2 (by omega)
    have hp := mul_bound2 ha ⟨Int.le_of_lt (pow_pos' b.toNat), pow31 hb'.2⟩
    refine W.steps 3 (fun k => by simp only [spec_l1Exact.f, spec_l1Exact.j0, spec_l1Exact.j1, spec_l1Exact.j2]; rfl) ?_
    refine W.bind (power_ok b hb'.1 (by omega)) ?_
    rintro _ rfl
    exact W.ret (by rw [wrap64_id (by omega) (by omega)]; simp [exactV])
  · have hb' := f2 (by omega)
    have hq := pow_pos' b.toNat
    have hp := pow31 hb'.2
    have he := ediv_bound (p := 2 ^ b.toNat) ha hq
    have hm0 := Int.emod_nonneg a (show (2 : Int) ^ b.toNat ≠ 0 by omega)
    have hm1 := Int.emod_lt_of_pos a hq
    refine W.steps 3 (fun k => by simp only [spec_l1Exact.f, spec_l1Exact.j0, spec_l1Exact.j1, spec_l1Exact.j2]; rfl) ?_
    refine W.bind (power_ok b hb'.1 (by omega)) ?_
    rintro _ rfl
    refine W.bind (W.const (r := a / 2 ^ b.toNat) (by
      simp only [spec_l1Floor.f]
      rw [nsMod _ hq (by omega)]
      simp only [Option.bind_some]
      rw [if_neg (by omega), wrap64_id (n := a - a % 2 ^ b.toNat) (by omega) (by omega), floor_eq hq, wrap64_id (by omega) (by omega)]) rfl) ?_
    rintro _ rfl
    exact W.ret (by simp [exactV])
  · refine st _ 3 fun k => ?_; simp [spec_l1Exact.f, spec_l1Exact.j0, exactV]; exact wrap64_id (by omega) (by omega)
  · refine st _ 3 fun k => ?_; simp [spec_l1Exact.f, spec_l1Exact.j0, spec_l1Exact.j1, exactV]; exact wrap64_id (by omega) (by omega)
  · have := mul_bound ha hb; refine st _ 3 fun k => ?_; simp [spec_l1Exact.f, spec_l1Exact.j0, spec_l1Exact.j1, spec_l1Exact.j2, exactV]; exact wrap64_id (by omega) (by omega)

theorem nsNumOk (v : Int) : spec_NumOk.f v = some (decide (-2147483648 ≤ v ∧ v ≤ 2147483647)) := by
  simp only [spec_NumOk.f, spec_l1In.f]
  by_cases h : v ≥ -2147483648 <;> simp [h]
theorem niNumOk (v : Int) : impl_NumOk.f v = some (decide (-2147483648 ≤ v ∧ v ≤ 2147483647)) := by
  simp only [impl_NumOk.f]
  by_cases h : v ≥ -2147483648 <;> simp [h]
theorem nsIn (v a b : Int) : spec_l1In.f v a b = some (decide (a ≤ v ∧ v ≤ b)) := by
  simp only [spec_l1In.f]
  by_cases h : v ≥ a <;> simp [h]
theorem iNumOp (v : Int) : impl_numOp.f v = some (decide (1 ≤ v ∧ v ≤ 13)) := by
  simp only [impl_numOp.f]
  by_cases h : v ≥ 1 <;> simp [h]
theorem iNumWrap (v : Int) : impl_NumWrap.f v = some (wrap32 v) := by
  simp only [impl_NumWrap.f]
  have := wrap32_ok v
  rw [wrap64_id (by omega) (by omega)]
def numDo (op a b : Int) : Int × Int :=
  if ¬ (1 ≤ op ∧ op ≤ 13) ∨ ¬ (-2147483648 ≤ a ∧ a ≤ 2147483647) ∨ ¬ (-2147483648 ≤ b ∧ b ≤ 2147483647) then (0, 0)
  else if (op = 4 ∨ op = 5) ∧ b = 0 then (0, 2)
  else if (op = 9 ∨ op = 10) ∧ ¬ (0 ≤ b ∧ b ≤ 31) then (0, 3)
  else if op ≥ 11 then (wrap32 (exactV op a b), 0)
  else if -2147483648 ≤ exactV op a b ∧ exactV op a b ≤ 2147483647 then (exactV op a b, 0) else (0, 1)
theorem exact_i64 {op a b : Int} (ha : -2147483648 ≤ a ∧ a ≤ 2147483647) (hb : -2147483648 ≤ b ∧ b ≤ 2147483647) (hf : Fit op b) : -9223372036854775808 ≤ exactV op a b ∧ exactV op a b ≤ 9223372036854775807 := by
  unfold exactV
  have h1 := mul_bound ha hb
  have h2 := tdiv_bound (b := b) ha
  have h3 : -2147483648 ≤ a.tmod b ∧ a.tmod b ≤ 2147483647 := by
    have h : (a.tmod b).natAbs ≤ a.natAbs := by rw [Int.natAbs_tmod]; exact Nat.mod_le _ _
    rcases Int.le_total 0 a with g | g
    · have := Int.tmod_nonneg b g
      omega
    · have := Int.tmod_nonneg b (show 0 ≤ -a by omega)
      rw [Int.neg_tmod] at this
      omega
  have h4 := s32_ok (and_lt (A := u32 a) (B := u32 b) (u32_lt a)); have h5 := s32_ok (or_lt (u32_lt a) (u32_lt b)); have h6 := s32_ok (xor_lt (u32_lt a) (u32_lt b))
  split
  · omega
  split
  · omega
  split
  · omega
  split
  · omega
  split
  · omega
  split
  · omega
  split
  · omega
  split
  · omega
  split
  · rename_i h
    have := hf.2 (by omega)
    have := mul_bound2 ha ⟨Int.le_of_lt (pow_pos' b.toNat), pow31 this.2⟩
    omega
  split
  · have := ediv_bound (p := 2 ^ b.toNat) ha (pow_pos' _)
    omega
  · omega
theorem numDo_main {op a b : Int} (h : 1 ≤ op ∧ op ≤ 13) (ha : -2147483648 ≤ a ∧ a ≤ 2147483647) (hb : -2147483648 ≤ b ∧ b ≤ 2147483647) (hf : Fit op b) : numDo op a b = if op ≥ 11 then (wrap32 (exactV op a b), 0) else if -2147483648 ≤ exactV op a b ∧ exactV op a b ≤ 2147483647 then (exactV op a b, 0) else (0, 1) := by
  unfold numDo
  rw [if_neg (by omega), if_neg (fun hc => hf.1 hc.1 hc.2), if_neg (fun hc => hc.2 (hf.2 hc.1))]
theorem iNumDo_tail {op a b : Int} (h : 1 ≤ op ∧ op ≤ 13) (ha : -2147483648 ≤ a ∧ a ≤ 2147483647) (hb : -2147483648 ≤ b ∧ b ≤ 2147483647) (hf : Fit op b) : W (fun k => impl_NumDo.j3 k op a b) (· = numDo op a b) := by
  have hd : numDo op a b = if op ≥ 11 then (wrap32 (exactV op a b), 0) else if -2147483648 ≤ exactV op a b ∧ exactV op a b ≤ 2147483647 then (exactV op a b, 0) else (0, 1) := by
    unfold numDo
    rw [if_neg (by omega), if_neg (fun hc => hf.1 hc.1 hc.2), if_neg (fun hc => hc.2 (hf.2 hc.1))]
  rw [hd]
  refine W.step (fun k => by simp only [impl_NumDo.j3]; rfl) ?_
  refine W.bind (iExact h.1 h.2 ha hb hf) ?_
  rintro _ rfl
  have hw : ∀ c : Int, op ≥ 11 → W (fun k => impl_NumDo.j4 k (exactV op a b) true) (· = if op ≥ 11 then (wrap32 (exactV op a b), 0) else if -2147483648 ≤ exactV op a b ∧ exactV op a b ≤ 2147483647 then (exactV op a b, 0) else (0, 1)) := by
    intro c hop
    refine W.step (fun k => by simp only [impl_NumDo.j4, iNumWrap, Option.bind_some]; rfl) ?_
    exact W.pos (by trivial) (W.ret (by rw [if_pos hop]))
  by_cases h1 : op = 11
  · refine W.pos h1 ?_
    rw [show (op == 11) = true by simpa using h1]; exact hw 0 (by omega)
  refine W.neg h1 ?_
  by_cases h2 : op = 12
  · refine W.pos h2 ?_
    rw [show (op == 12) = true by simpa using h2]; exact hw 0 (by omega)
  refine W.neg h2 ?_
  by_cases h3 : op = 13
  · rw [show (op == 13) = true by simpa using h3]; exact hw 0 (by omega)
  rw [show (op == 13) = false by simpa using h3]
  refine W.step (fun k => by simp only [impl_NumDo.j4, niNumOk, Option.bind_some]; rfl) ?_
  refine W.neg (by decide) ?_
  rw [if_neg (show ¬ op ≥ 11 by omega)]
  by_cases ho : -2147483648 ≤ exactV op a b ∧ exactV op a b ≤ 2147483647
  · exact W.pos (by simpa using ho) (W.ret (by rw [if_pos ho]))
  · exact W.neg (by simpa using ho) (W.ret (by rw [if_neg ho]))
theorem iNumDo (op a b : Int) : W (fun k => impl_NumDo.f k op a b) (· = numDo op a b) := by
  have bad : ∀ hc : (¬ (1 ≤ op ∧ op ≤ 13) ∨ ¬ (-2147483648 ≤ a ∧ a ≤ 2147483647) ∨ ¬ (-2147483648 ≤ b ∧ b ≤ 2147483647)), W (fun k => impl_NumDo.j0 k op a b true) (· = numDo op a b) := by
    intro hc
    refine W.step (fun k => by simp only [impl_NumDo.j0]; rfl) ?_
    exact W.pos (by trivial) (W.ret (by unfold numDo; rw [if_pos hc]))
  unfold impl_NumDo.f
  simp only [iNumOp, niNumOk, Option.bind_some]
  by_cases h : 1 ≤ op ∧ op ≤ 13
  · refine W.pos (by simpa using h) ?_
    by_cases ha : -2147483648 ≤ a ∧ a ≤ 2147483647
    · refine W.pos (by simpa using ha) ?_
      by_cases hb : -2147483648 ≤ b ∧ b ≤ 2147483647
      · rw [show (!decide (-2147483648 ≤ b ∧ b ≤ 2147483647)) = false by rw [decide_eq_true hb]; rfl]
        refine W.step (fun k => by simp only [impl_NumDo.j0]; rfl) ?_
        refine W.neg (by decide) ?_
        have z1 : (op = 4 ∨ op = 5) → W (fun k => impl_NumDo.j1 k op a b op true) (· = numDo op a b) := by
          intro ho
          refine W.step (fun k => by simp only [impl_NumDo.j1]; rfl) ?_
          refine W.pos (by trivial) ?_
          by_cases hz : b = 0
          · exact W.pos hz (W.ret (by unfold numDo; rw [if_neg (by omega), if_pos ⟨ho, hz⟩]))
          · exact W.neg hz (iNumDo_tail h ha hb ⟨fun _ => hz, fun hc => by omega⟩)
        have z2 : (op = 9 ∨ op = 10) → W (fun k => impl_NumDo.j2 k op a b true) (· = numDo op a b) := by
          intro ho
          refine W.step (fun k => by simp only [impl_NumDo.j2]; rfl) ?_
          refine W.pos (by trivial) ?_
          by_cases h1 : b < 0
          · exact W.pos h1 (W.ret (by unfold numDo; rw [if_neg (by omega), if_neg (by omega), if_pos ⟨ho, by omega⟩]))
          refine W.neg h1 ?_
          by_cases h2 : b > 31
          · exact W.pos h2 (W.ret (by unfold numDo; rw [if_neg (by omega), if_neg (by omega), if_pos ⟨ho, by omega⟩]))
          · exact W.neg h2 (iNumDo_tail h ha hb ⟨fun hc => by omega, fun _ => by omega⟩)
        have z3 : ¬ (op = 4 ∨ op = 5) → W (fun k => impl_NumDo.j1 k op a b op false) (· = numDo op a b) := by
          intro ho
          refine W.step (fun k => by simp only [impl_NumDo.j1]; rfl) ?_
          refine W.neg (by decide) ?_
          by_cases h9 : op = 9
          · refine W.pos h9 ?_
            rw [show (op == 9) = true by simpa using h9]; exact z2 (.inl h9)
          refine W.neg h9 ?_
          by_cases h10 : op = 10
          · rw [show (op == 10) = true by simpa using h10]; exact z2 (.inr h10)
          rw [show (op == 10) = false by simpa using h10]
          refine W.step (fun k => by simp only [impl_NumDo.j2]; rfl) ?_
          exact W.neg (by decide) (iNumDo_tail h ha hb ⟨fun hc => absurd hc ho, fun hc => by omega⟩)
        by_cases h4 : op = 4
        · refine W.pos h4 ?_
          rw [show (op == 4) = true by simpa using h4]; exact z1 (.inl h4)
        refine W.neg h4 ?_
        by_cases h5 : op = 5
        · rw [show (op == 5) = true by simpa using h5]; exact z1 (.inr h5)
        rw [show (op == 5) = false by simpa using h5]
        exact z3 (by omega)
      · rw [show (!decide (-2147483648 ≤ b ∧ b ≤ 2147483647)) = true by rw [decide_eq_false hb]; rfl]
        exact bad (by omega)
    · exact W.neg (by simpa using ha) (bad (by omega))
  · exact W.neg (by simpa using h) (bad (by omega))
theorem sNumDo (op a b : Int) : W (fun k => spec_NumDo.f k op a b) (· = numDo op a b) := by
  have bad : ∀ hc : (¬ (1 ≤ op ∧ op ≤ 13) ∨ ¬ (-2147483648 ≤ a ∧ a ≤ 2147483647) ∨ ¬ (-2147483648 ≤ b ∧ b ≤ 2147483647)), W (fun k => spec_NumDo.j0 k op a b true) (· = numDo op a b) := by
    intro hc
    refine W.step (fun k => by simp only [spec_NumDo.j0]; rfl) ?_
    exact W.pos (by trivial) (W.ret (by unfold numDo; rw [if_pos hc]))
  unfold spec_NumDo.f
  simp only [nsIn, nsNumOk, Option.bind_some]
  by_cases h : 1 ≤ op ∧ op ≤ 13
  · refine W.pos (by simpa using h) ?_
    by_cases ha : -2147483648 ≤ a ∧ a ≤ 2147483647
    · refine W.pos (by simpa using ha) ?_
      by_cases hb : -2147483648 ≤ b ∧ b ≤ 2147483647
      · rw [show (!decide (-2147483648 ≤ b ∧ b ≤ 2147483647)) = false by rw [decide_eq_true hb]; rfl]
        refine W.step (fun k => by simp only [spec_NumDo.j0]; rfl) ?_
        refine W.neg (by decide) ?_
        have z2 : ¬ ((op = 4 ∨ op = 5) ∧ b = 0) → ¬ ((op = 9 ∨ op = 10) ∧ ¬ (0 ≤ b ∧ b ≤ 31)) → W (fun k => spec_NumDo.j2 k op a b false) (· = numDo op a b) := by
          intro h1 h2
          have hf : Fit op b := ⟨fun hc hz => h1 ⟨hc, hz⟩, fun hc => by omega⟩
          have hi := exact_i64 (op := op) ha hb hf
          unfold numDo
          rw [if_neg (by omega), if_neg h1, if_neg h2]
          refine W.step (fun k => by simp only [spec_NumDo.j2, nsNumOk, Option.bind_some]; rfl) ?_
          refine W.neg (by decide) ?_
          refine W.bind (sExact h.1 h.2 ha hb hf) ?_
          rintro _ rfl
          rw [sNumWrap _ hi.1 hi.2]
          simp only [Option.bind_some]
          by_cases h11 : op ≥ 11
          · exact W.pos h11 (W.ret (by rw [if_pos h11]))
          refine W.neg h11 ?_
          rw [if_neg h11]
          by_cases ho : -2147483648 ≤ exactV op a b ∧ exactV op a b ≤ 2147483647
          · exact W.pos (by simpa using ho) (W.ret (by rw [if_pos ho]))
          · exact W.neg (by simpa using ho) (W.ret (by rw [if_neg ho]))
        have z1 : ¬ ((op = 4 ∨ op = 5) ∧ b = 0) → W (fun k => spec_NumDo.j1 k op a b false) (· = numDo op a b) := by
          intro h1
          refine W.step (fun k => by simp only [spec_NumDo.j1, nsIn, Option.bind_some]; rfl) ?_
          refine W.neg (by decide) ?_
          have z3 : (op = 9 ∨ op = 10) → W (fun k => spec_NumDo.j2 k op a b (!decide (0 ≤ b ∧ b ≤ 31))) (· = numDo op a b) := by
            intro ho
            by_cases hs : 0 ≤ b ∧ b ≤ 31
            · rw [show (!decide (0 ≤ b ∧ b ≤ 31)) = false by rw [decide_eq_true hs]; rfl]
              exact z2 h1 (by omega)
            · rw [show (!decide (0 ≤ b ∧ b ≤ 31)) = true by rw [decide_eq_false hs]; rfl]
              refine W.step (fun k => by simp only [spec_NumDo.j2]; rfl) ?_
              exact W.pos (by trivial) (W.ret (by unfold numDo; rw [if_neg (by omega), if_neg h1, if_pos ⟨ho, hs⟩]))
          by_cases h9 : op = 9
          · exact W.pos h9 (z3 (.inl h9))
          refine W.neg h9 ?_
          by_cases h10 : op = 10
          · exact W.pos h10 (z3 (.inr h10))
          exact W.neg h10 (z2 h1 (by omega))
        have z0 : (op = 4 ∨ op = 5) → W (fun k => spec_NumDo.j1 k op a b (b == 0)) (· = numDo op a b) := by
          intro ho
          by_cases hz : b = 0
          · rw [show (b == 0) = true by simpa using hz]
            refine W.step (fun k => by simp only [spec_NumDo.j1]; rfl) ?_
            exact W.pos (by trivial) (W.ret (by unfold numDo; rw [if_neg (by omega), if_pos ⟨ho, hz⟩]))
          · rw [show (b == 0) = false by simpa using hz]
            exact z1 (by omega)
        by_cases h4 : op = 4
        · exact W.pos h4 (z0 (.inl h4))
        refine W.neg h4 ?_
        by_cases h5 : op = 5
        · exact W.pos h5 (z0 (.inr h5))
        exact W.neg h5 (z1 (by omega))
      · rw [show (!decide (-2147483648 ≤ b ∧ b ≤ 2147483647)) = true by rw [decide_eq_false hb]; rfl]
        exact bad (by omega)
    · exact W.neg (by simpa using ha) (bad (by omega))
  · exact W.neg (by simpa using h) (bad (by omega))
theorem numDo_facts (op a b : Int) : (-2147483648 ≤ (numDo op a b).1 ∧ (numDo op a b).1 ≤ 2147483647) ∧ ((numDo op a b).2 = 0 ∨ (numDo op a b).1 = 0) ∧ (0 ≤ (numDo op a b).2 ∧ (numDo op a b).2 ≤ 3) ∧ (op ≥ 11 → (numDo op a b).2 = 0) := by
  unfold numDo
  have hw := wrap32_ok (exactV op a b)
  split
  · simp
  split
  · simp; omega
  split
  · simp; omega
  split
  · simp; omega
  split
  · rename_i h; simp [h]
  · simp; omega
theorem numDo_comm {op : Int} (a b : Int) (h : op = 1 ∨ op = 3 ∨ op = 8) : numDo op b a = numDo op a b := by
  have he : exactV op b a = exactV op a b := by
    rcases h with rfl | rfl | rfl
    · simp only [exactV]; simp; omega
    · simp only [exactV]; simp; exact Int.mul_comm ..
    · simp only [exactV]; simp; rw [Nat.xor_comm]
  by_cases h1 : ¬ (1 ≤ op ∧ op ≤ 13) ∨ ¬ (-2147483648 ≤ a ∧ a ≤ 2147483647) ∨ ¬ (-2147483648 ≤ b ∧ b ≤ 2147483647)
  · unfold numDo; rw [if_pos (by omega), if_pos h1]
  · rw [numDo_main (by omega) (by omega) (by omega) ⟨fun h => by omega, fun h => by omega⟩, numDo_main (a := a) (b := b) (by omega) (by omega) (by omega) ⟨fun h => by omega, fun h => by omega⟩, he]

/-! ### what an operator makes of two rests -/
def wOf (op : Int) : Int := if op ≥ 11 then 4294967296 else 0
def doS (op m t m2 t2 : Int) : Int × Int :=
  if ¬ (1 ≤ op ∧ op ≤ 13) ∨ ¬ okS m t ∨ ¬ okS m2 t2 then (1, 0)
  else if m = 0 ∧ m2 = 0 then (if (numDo op t t2).2 = 0 then (0, (numDo op t t2).1) else (1, 0))
  else if op = 1 ∨ op = 11 then mkS (t + t2) (Int.gcd (Int.gcd m m2 : Int) (wOf op) : Int)
  else if op = 2 ∨ op = 12 then mkS (t - t2) (Int.gcd (Int.gcd m m2 : Int) (wOf op) : Int)
  else if op = 3 ∨ op = 13 then (if (Int.gcd (Int.gcd (m * m2) (m * t2) : Int) (m2 * t) : Int) = 0 then (0, 0) else mkS (t * t2) (Int.gcd (Int.gcd (Int.gcd (m * m2) (m * t2) : Int) (m2 * t) : Int) (wOf op) : Int))
  else if op = 9 then (if m2 = 0 ∧ 0 ≤ t2 ∧ t2 ≤ 31 then mkS (t * 2 ^ t2.toNat) (m * 2 ^ t2.toNat) else (1, 0))
  else if op = 5 then (if (Int.gcd (Int.gcd m m2 : Int) t2 : Int) = 0 then (1, 0) else mkS t (Int.gcd (Int.gcd m m2 : Int) t2 : Int))
  else (1, 0)
theorem okS_range {m t : Int} (h : okS m t) : (0 ≤ m ∧ m ≤ 65536) ∧ (-2147483648 ≤ t ∧ t ≤ 2147483647) := by unfold okS okN at h; omega
theorem gcd_assoc' (a b c : Int) : Int.gcd a (Int.gcd b c : Int) = Int.gcd (Int.gcd a b : Int) c := by
  unfold Int.gcd; simp [Nat.gcd_assoc]
theorem iDo_1 {m t m2 t2 : Int} (o1 : okS m t) (o2 : okS m2 t2) : W (fun k => impl_RestDo.j1 k 1 false m t m2 t2) (· = mkS (t + t2) (Int.gcd (Int.gcd m m2 : Int) (wOf 1) : Int)) := by
  have r1 := okS_range o1; have r2 := okS_range o2
  have g1 := gcd_le (a := m) (b := m2) (B := 65536) (by omega) (by omega) (by omega)
  have g2 := gcd_le (a := (Int.gcd m m2 : Int)) (b := wOf 1) (B := 4294967296) (by omega) (by omega) (by simp [wOf])
  have hw : wOf 1 = 0 := by simp [wOf]
  rw [hw] at g2 ⊢
  refine W.steps 3 (fun k => by simp only [impl_RestDo.j1, impl_RestDo.j2, impl_RestDo.j3, impl_RestDo.j4, impl_RestDo.j5, impl_restAll.f, Option.bind_some, ↓reduceIte, Int.reduceEq, Int.reduceGE, Int.reduceBEq, Bool.false_eq_true, beq_self_eq_true]; rfl) ?_
  rw [wrap64_id (n := t + t2) (by omega) (by omega)]
  refine W.bind (iGcd [m, m2, 0] (by simp) (by simp; omega)) ?_
  rintro _ rfl
  rw [gl3]
  refine W.bind (iOf _ _ (by omega) (by omega)) ?_
  rintro _ rfl
  exact W.ret rfl
theorem iDo_11 {m t m2 t2 : Int} (o1 : okS m t) (o2 : okS m2 t2) : W (fun k => impl_RestDo.j1 k 11 false m t m2 t2) (· = mkS (t + t2) (Int.gcd (Int.gcd m m2 : Int) (wOf 11) : Int)) := by
  have r1 := okS_range o1; have r2 := okS_range o2
  have g1 := gcd_le (a := m) (b := m2) (B := 65536) (by omega) (by omega) (by omega)
  have g2 := gcd_le (a := (Int.gcd m m2 : Int)) (b := wOf 11) (B := 4294967296) (by omega) (by omega) (by simp [wOf])
  have hw : wOf 11 = 4294967296 := by simp [wOf]
  rw [hw] at g2 ⊢
  refine W.steps 3 (fun k => by simp only [impl_RestDo.j1, impl_RestDo.j2, impl_RestDo.j3, impl_RestDo.j4, impl_RestDo.j5, impl_restAll.f, Option.bind_some, ↓reduceIte, Int.reduceEq, Int.reduceGE, Int.reduceBEq, Bool.false_eq_true, beq_self_eq_true]; rfl) ?_
  rw [wrap64_id (n := t + t2) (by omega) (by omega)]
  refine W.bind (iGcd [m, m2, 4294967296] (by simp) (by simp; omega)) ?_
  rintro _ rfl
  rw [gl3]
  refine W.bind (iOf _ _ (by omega) (by omega)) ?_
  rintro _ rfl
  exact W.ret rfl
theorem iDo_2 {m t m2 t2 : Int} (o1 : okS m t) (o2 : okS m2 t2) : W (fun k => impl_RestDo.j1 k 2 false m t m2 t2) (· = mkS (t - t2) (Int.gcd (Int.gcd m m2 : Int) (wOf 2) : Int)) := by
  have r1 := okS_range o1; have r2 := okS_range o2
  have g1 := gcd_le (a := m) (b := m2) (B := 65536) (by omega) (by omega) (by omega)
  have g2 := gcd_le (a := (Int.gcd m m2 : Int)) (b := wOf 2) (B := 4294967296) (by omega) (by omega) (by simp [wOf])
  have hw : wOf 2 = 0 := by simp [wOf]
  rw [hw] at g2 ⊢
  refine W.steps 4 (fun k => by simp only [impl_RestDo.j1, impl_RestDo.j2, impl_RestDo.j3, impl_RestDo.j4, impl_RestDo.j5, impl_restAll.f, Option.bind_some, ↓reduceIte, Int.reduceEq, Int.reduceGE, Int.reduceBEq, Bool.false_eq_true, beq_self_eq_true]; rfl) ?_
  rw [wrap64_id (n := t - t2) (by omega) (by omega)]
  refine W.bind (iGcd [m, m2, 0] (by simp) (by simp; omega)) ?_
  rintro _ rfl
  rw [gl3]
  refine W.bind (iOf _ _ (by omega) (by omega)) ?_
  rintro _ rfl
  exact W.ret rfl
theorem iDo_12 {m t m2 t2 : Int} (o1 : okS m t) (o2 : okS m2 t2) : W (fun k => impl_RestDo.j1 k 12 false m t m2 t2) (· = mkS (t - t2) (Int.gcd (Int.gcd m m2 : Int) (wOf 12) : Int)) := by
  have r1 := okS_range o1; have r2 := okS_range o2
  have g1 := gcd_le (a := m) (b := m2) (B := 65536) (by omega) (by omega) (by omega)
  have g2 := gcd_le (a := (Int.gcd m m2 : Int)) (b := wOf 12) (B := 4294967296) (by omega) (by omega) (by simp [wOf])
  have hw : wOf 12 = 4294967296 := by simp [wOf]
  rw [hw] at g2 ⊢
  refine W.steps 4 (fun k => by simp only [impl_RestDo.j1, impl_RestDo.j2, impl_RestDo.j3, impl_RestDo.j4, impl_RestDo.j5, impl_restAll.f, Option.bind_some, ↓reduceIte, Int.reduceEq, Int.reduceGE, Int.reduceBEq, Bool.false_eq_true, beq_self_eq_true]; rfl) ?_
  rw [wrap64_id (n := t - t2) (by omega) (by omega)]
  refine W.bind (iGcd [m, m2, 4294967296] (by simp) (by simp; omega)) ?_
  rintro _ rfl
  rw [gl3]
  refine W.bind (iOf _ _ (by omega) (by omega)) ?_
  rintro _ rfl
  exact W.ret rfl
theorem iDo_3 {m t m2 t2 : Int} (o1 : okS m t) (o2 : okS m2 t2) : W (fun k => impl_RestDo.j1 k 3 false m t m2 t2) (· = if (Int.gcd (Int.gcd (m * m2) (m * t2) : Int) (m2 * t) : Int) = 0 then (0, 0) else mkS (t * t2) (Int.gcd (Int.gcd (Int.gcd (m * m2) (m * t2) : Int) (m2 * t) : Int) (wOf 3) : Int)) := by
  have r1 := okS_range o1; have r2 := okS_range o2
  have b1 := mul_bound (a := m) (b := m2) (by omega) (by omega); have b2 := mul_bound (a := m) (b := t2) (by omega) (by omega)
  have b3 := mul_bound (a := m2) (b := t) (by omega) (by omega); have b4 := mul_bound (a := t) (b := t2) (by omega) (by omega)
  have g1 := gcd_le (a := m * m2) (b := m * t2) (B := 4611686018427387904) (by omega) (by omega) (by omega)
  have g2 := gcd_le (a := (Int.gcd (m * m2) (m * t2) : Int)) (b := m2 * t) (B := 4611686018427387904) (by omega) (by omega) (by omega)
  have g3 := gcd_le (a := (Int.gcd (Int.gcd (m * m2) (m * t2) : Int) (m2 * t) : Int)) (b := wOf 3) (B := 4611686018427387904) (by omega) (by omega) (by simp [wOf])
  have hw : wOf 3 = 0 := by simp [wOf]
  rw [hw] at g3 ⊢
  refine W.steps 5 (fun k => by simp only [impl_RestDo.j1, impl_RestDo.j2, impl_RestDo.j3, impl_RestDo.j4, impl_RestDo.j5, impl_restAll.f, Option.bind_some, ↓reduceIte, Int.reduceEq, Int.reduceGE, Int.reduceBEq, Bool.false_eq_true, beq_self_eq_true]; rfl) ?_
  rw [wrap64_id (n := m * m2) (by omega) (by omega), wrap64_id (n := m * t2) (by omega) (by omega), wrap64_id (n := m2 * t) (by omega) (by omega)]
  refine W.bind (iGcd [m * m2, m * t2, m2 * t] (by simp) (by simp; omega)) ?_
  rintro _ rfl
  rw [gl3]
  refine W.ite (fun h => W.ret (by rw [if_pos h])) (fun h => ?_)
  rw [if_neg h]
  refine W.bind (iGcd [_, 0] (by simp) (by simp; omega)) ?_
  rintro _ rfl
  rw [gl2, wrap64_id (n := t * t2) (by omega) (by omega)]
  refine W.bind (iOf _ _ (by omega) (by omega)) ?_
  rintro _ rfl
  exact W.ret rfl
theorem iDo_13 {m t m2 t2 : Int} (o1 : okS m t) (o2 : okS m2 t2) : W (fun k => impl_RestDo.j1 k 13 false m t m2 t2) (· = if (Int.gcd (Int.gcd (m * m2) (m * t2) : Int) (m2 * t) : Int) = 0 then (0, 0) else mkS (t * t2) (Int.gcd (Int.gcd (Int.gcd (m * m2) (m * t2) : Int) (m2 * t) : Int) (wOf 13) : Int)) := by
  have r1 := okS_range o1; have r2 := okS_range o2
  have b1 := mul_bound (a := m) (b := m2) (by omega) (by omega); have b2 := mul_bound (a := m) (b := t2) (by omega) (by omega)
  have b3 := mul_bound (a := m2) (b := t) (by omega) (by omega); have b4 := mul_bound (a := t) (b := t2) (by omega) (by omega)
  have g1 := gcd_le (a := m * m2) (b := m * t2) (B := 4611686018427387904) (by omega) (by omega) (by omega)
  have g2 := gcd_le (a := (Int.gcd (m * m2) (m * t2) : Int)) (b := m2 * t) (B := 4611686018427387904) (by omega) (by omega) (by omega)
  have g3 := gcd_le (a := (Int.gcd (Int.gcd (m * m2) (m * t2) : Int) (m2 * t) : Int)) (b := wOf 13) (B := 4611686018427387904) (by omega) (by omega) (by simp [wOf])
  have hw : wOf 13 = 4294967296 := by simp [wOf]
  rw [hw] at g3 ⊢
  refine W.steps 5 (fun k => by simp only [impl_RestDo.j1, impl_RestDo.j2, impl_RestDo.j3, impl_RestDo.j4, impl_RestDo.j5, impl_restAll.f, Option.bind_some, ↓reduceIte, Int.reduceEq, Int.reduceGE, Int.reduceBEq, Bool.false_eq_true, beq_self_eq_true]; rfl) ?_
  rw [wrap64_id (n := m * m2) (by omega) (by omega), wrap64_id (n := m * t2) (by omega) (by omega), wrap64_id (n := m2 * t) (by omega) (by omega)]
  refine W.bind (iGcd [m * m2, m * t2, m2 * t] (by simp) (by simp; omega)) ?_
  rintro _ rfl
  rw [gl3]
  refine W.ite (fun h => W.ret (by rw [if_pos h])) (fun h => ?_)
  rw [if_neg h]
  refine W.bind (iGcd [_, 4294967296] (by simp) (by simp; omega)) ?_
  rintro _ rfl
  rw [gl2, wrap64_id (n := t * t2) (by omega) (by omega)]
  refine W.bind (iOf _ _ (by omega) (by omega)) ?_
  rintro _ rfl
  exact W.ret rfl
theorem iDo_5 {m t m2 t2 : Int} (o1 : okS m t) (o2 : okS m2 t2) : W (fun k => impl_RestDo.j1 k 5 false m t m2 t2) (· = if (Int.gcd (Int.gcd m m2 : Int) t2 : Int) = 0 then (1, 0) else mkS t (Int.gcd (Int.gcd m m2 : Int) t2 : Int)) := by
  have r1 := okS_range o1; have r2 := okS_range o2
  have g1 := gcd_le (a := m) (b := m2) (B := 65536) (by omega) (by omega) (by omega)
  have g2 := gcd_le (a := (Int.gcd m m2 : Int)) (b := t2) (B := 4294967296) (by omega) (by omega) (by omega)
  have g3 := gcd_le (a := m2) (b := t2) (B := 4294967296) (by omega) (by omega) (by omega)
  refine W.steps 5 (fun k => by simp only [impl_RestDo.j1, impl_RestDo.j2, impl_RestDo.j3, impl_RestDo.j4, impl_RestDo.j5, impl_restAll.f, Option.bind_some, ↓reduceIte, Int.reduceEq, Int.reduceGE, Int.reduceBEq, Bool.false_eq_true, beq_self_eq_true]; rfl) ?_
  refine W.bind (iGcd [m, m2, t2] (by simp) (by simp; omega)) ?_
  rintro _ rfl
  rw [gl3]
  refine W.ite (fun h => W.ret (by rw [if_pos h])) (fun h => ?_)
  rw [if_neg h]
  refine W.bind (iOf _ _ (by omega) (by omega)) ?_
  rintro _ rfl
  exact W.ret rfl
theorem iDo_9 {m t m2 t2 : Int} (o1 : okS m t) (o2 : okS m2 t2) : W (fun k => impl_RestDo.j1 k 9 false m t m2 t2) (· = if m2 = 0 ∧ 0 ≤ t2 ∧ t2 ≤ 31 then mkS (t * 2 ^ t2.toNat) (m * 2 ^ t2.toNat) else (1, 0)) := by
  have r1 := okS_range o1; have r2 := okS_range o2
  refine W.steps 5 (fun k => by simp only [impl_RestDo.j1, impl_RestDo.j2, impl_RestDo.j3, impl_RestDo.j4, impl_RestDo.j5, impl_restAll.f, Option.bind_some, ↓reduceIte, Int.reduceEq, Int.reduceGE, Int.reduceBEq, Bool.false_eq_true, beq_self_eq_true]; rfl) ?_
  have no : ¬ (m2 = 0 ∧ 0 ≤ t2 ∧ t2 ≤ 31) → W (fun k => impl_RestDo.j6 k false m t m2 t2) (· = if m2 = 0 ∧ 0 ≤ t2 ∧ t2 ≤ 31 then mkS (t * 2 ^ t2.toNat) (m * 2 ^ t2.toNat) else (1, 0)) := by
    intro hn
    refine W.step (fun k => by simp only [impl_RestDo.j6, impl_restAll.f, Option.bind_some, ↓reduceIte, Int.reduceEq, Int.reduceGE, Int.reduceBEq, Bool.false_eq_true, beq_self_eq_true]; rfl) ?_
    (try refine W.neg (by decide) ?_)
    exact W.ret (by rw [if_neg hn])
  refine W.ite (fun h1 => W.ite (fun h2 => ?_) (fun h2 => no (fun hc => h2 hc.2.1))) (fun h1 => no (fun hc => h1 hc.1))
  by_cases h3 : t2 ≤ 31
  · rw [decide_eq_true h3, if_pos ⟨h1, h2, h3⟩]
    have hp := pow_pos' t2.toNat; have hq := pow31 h3
    have hu := u64_small (i := t2) (by omega) (by omega)
    have b1 := mul_bound2 (a := t) (b := 2 ^ t2.toNat) (by omega) (by omega); have b2 := mul_bound2 (a := m) (b := 2 ^ t2.toNat) (by omega) (by omega)
    have b3 : 0 ≤ m * 2 ^ t2.toNat := Int.mul_nonneg (by omega) (by omega)
    refine W.step (fun k => by simp only [impl_RestDo.j6]; rfl) ?_
    refine W.pos True.intro ?_
    rw [hu, shl_id (x := 1) (by omega) (by omega) (by omega) (by omega), Int.one_mul, wrap64_id (n := t * 2 ^ t2.toNat) (by omega) (by omega), wrap64_id (n := m * 2 ^ t2.toNat) (by omega) (by omega)]
    refine W.pos (by omega) ?_
    generalize t * 2 ^ t2.toNat = x1 at *
    generalize m * 2 ^ t2.toNat = x2 at *
    refine W.bind (iOf x2 x1 (by omega) (by omega)) ?_
    rintro _ rfl
    exact W.ret rfl
  · rw [decide_eq_false h3]; exact no (fun hc => h3 hc.2.2)
theorem iRestDo (op m t m2 t2 : Int) : W (fun k => impl_RestDo.f k op m t m2 t2) (· = doS op m t m2 t2) := by
  have bad : ¬ (1 ≤ op ∧ op ≤ 13) ∨ ¬ okS m t ∨ ¬ okS m2 t2 → W (fun k => impl_RestDo.j0 k op true m t m2 t2) (· = doS op m t m2 t2) := by
    intro hb
    refine W.step (fun k => by simp only [impl_RestDo.j0, impl_restAll.f, Option.bind_some, ↓reduceIte, Int.reduceEq, Int.reduceGE, Int.reduceBEq, Bool.false_eq_true, beq_self_eq_true]; rfl) ?_
    (try refine W.pos True.intro ?_)
    exact W.ret (by unfold doS; rw [if_pos hb])
  unfold impl_RestDo.f
  simp only [iNumOp, iRestOk, Option.bind_some]
  refine W.dec (fun h1 => W.dec (fun h2 => ?_) (fun h2 => bad (.inr (.inl h2)))) (fun h1 => bad (.inl h1))
  by_cases h3 : okS m2 t2
  · rw [ndt h3]
    unfold doS
    rw [if_neg (show ¬ (¬ (1 ≤ op ∧ op ≤ 13) ∨ ¬ okS m t ∨ ¬ okS m2 t2) from fun hc => hc.elim (fun x => x h1) (fun x => x.elim (fun y => y h2) (fun y => y h3)))]
    have main : ¬ (m = 0 ∧ m2 = 0) → W (fun k => impl_RestDo.j1 k op false m t m2 t2) (· = if m = 0 ∧ m2 = 0 then (if (numDo op t t2).2 = 0 then (0, (numDo op t t2).1) else (1, 0))
  else if op = 1 ∨ op = 11 then mkS (t + t2) (Int.gcd (Int.gcd m m2 : Int) (wOf op) : Int)
  else if op = 2 ∨ op = 12 then mkS (t - t2) (Int.gcd (Int.gcd m m2 : Int) (wOf op) : Int)
  else if op = 3 ∨ op = 13 then (if (Int.gcd (Int.gcd (m * m2) (m * t2) : Int) (m2 * t) : Int) = 0 then (0, 0) else mkS (t * t2) (Int.gcd (Int.gcd (Int.gcd (m * m2) (m * t2) : Int) (m2 * t) : Int) (wOf op) : Int))
  else if op = 9 then (if m2 = 0 ∧ 0 ≤ t2 ∧ t2 ≤ 31 then mkS (t * 2 ^ t2.toNat) (m * 2 ^ t2.toNat) else (1, 0))
  else if op = 5 then (if (Int.gcd (Int.gcd m m2 : Int) t2 : Int) = 0 then (1, 0) else mkS t (Int.gcd (Int.gcd m m2 : Int) t2 : Int))
  else (1, 0)) := by
      intro hz
      rw [if_neg hz]
      rcases ops h1.1 h1.2 with rfl | rfl | rfl | rfl | rfl | rfl | rfl | rfl | rfl | rfl | rfl | rfl | rfl
      · exact iDo_1 h2 h3
      · exact iDo_2 h2 h3
      · exact iDo_3 h2 h3
      · exact W.steps 5 (fun k => by simp only [impl_RestDo.j1, impl_RestDo.j2, impl_RestDo.j3, impl_RestDo.j4, impl_RestDo.j5, impl_restAll.f, Option.bind_some, ↓reduceIte, Int.reduceEq, Int.reduceGE, Int.reduceBEq, Bool.false_eq_true, beq_self_eq_true]; rfl) (W.ret rfl)
      · exact iDo_5 h2 h3
      · exact W.steps 5 (fun k => by simp only [impl_RestDo.j1, impl_RestDo.j2, impl_RestDo.j3, impl_RestDo.j4, impl_RestDo.j5, impl_restAll.f, Option.bind_some, ↓reduceIte, Int.reduceEq, Int.reduceGE, Int.reduceBEq, Bool.false_eq_true, beq_self_eq_true]; rfl) (W.ret rfl)
      · exact W.steps 5 (fun k => by simp only [impl_RestDo.j1, impl_RestDo.j2, impl_RestDo.j3, impl_RestDo.j4, impl_RestDo.j5, impl_restAll.f, Option.bind_some, ↓reduceIte, Int.reduceEq, Int.reduceGE, Int.reduceBEq, Bool.false_eq_true, beq_self_eq_true]; rfl) (W.ret rfl)
      · exact W.steps 5 (fun k => by simp only [impl_RestDo.j1, impl_RestDo.j2, impl_RestDo.j3, impl_RestDo.j4, impl_RestDo.j5, impl_restAll.f, Option.bind_some, ↓reduceIte, Int.reduceEq, Int.reduceGE, Int.reduceBEq, Bool.false_eq_true, beq_self_eq_true]; rfl) (W.ret rfl)
      · exact iDo_9 h2 h3
      · exact W.steps 5 (fun k => by simp only [impl_RestDo.j1, impl_RestDo.j2, impl_RestDo.j3, impl_RestDo.j4, impl_RestDo.j5, impl_restAll.f, Option.bind_some, ↓reduceIte, Int.reduceEq, Int.reduceGE, Int.reduceBEq, Bool.false_eq_true, beq_self_eq_true]; rfl) (W.ret rfl)
      · exact iDo_11 h2 h3
      · exact iDo_12 h2 h3
      · exact iDo_13 h2 h3
    refine W.step (fun k => by simp only [impl_RestDo.j0]; rfl) ?_
    (try refine W.neg (by decide) ?_)
    refine W.ite (fun h4 => ?_) (fun h4 => main (fun hc => h4 hc.1))
    by_cases h5 : m2 = 0
    · rw [show (m2 == 0) = true by simpa using h5, if_pos ⟨h4, h5⟩]
      refine W.step (fun k => by simp only [impl_RestDo.j1, impl_restAll.f, Option.bind_some, ↓reduceIte, Int.reduceEq, Int.reduceGE, Int.reduceBEq, Bool.false_eq_true, beq_self_eq_true]; rfl) ?_
      refine W.bind (iNumDo op t t2) ?_
      rintro _ rfl
      exact W.ite (fun h6 => W.ret (by rw [if_pos h6])) (fun h6 => W.ret (by rw [if_neg h6]))
    · rw [show (m2 == 0) = false by simpa using h5]
      exact main (fun hc => h5 hc.2)
  · rw [ndf h3]; exact bad (.inr (.inr h3))
theorem sDo_1 {m t m2 t2 : Int} (o1 : okS m t) (o2 : okS m2 t2) : W (fun k => spec_RestDo.j1 k 1 false m t m2 t2) (· = mkS (t + t2) (Int.gcd (Int.gcd m m2 : Int) (wOf 1) : Int)) := by
  have r1 := okS_range o1; have r2 := okS_range o2
  have g1 := gcd_le (a := m) (b := m2) (B := 65536) (by omega) (by omega) (by omega)
  have g2 := gcd_le (a := (Int.gcd m m2 : Int)) (b := wOf 1) (B := 4294967296) (by omega) (by omega) (by simp [wOf])
  have hw : wOf 1 = 0 := by simp [wOf]
  rw [hw] at g2 ⊢
  refine W.steps 2 (fun k => by simp only [spec_RestDo.j1, spec_RestDo.j2, spec_RestDo.j3, spec_RestDo.j4, spec_RestDo.j5, spec_l9Wraps.f, spec_l9All.f, sIn, Option.bind_some, ↓reduceIte, Int.reduceEq, Int.reduceGE, Int.reduceBEq, Bool.false_eq_true, beq_self_eq_true]; rfl) ?_
  rw [wrap64_id (n := t + t2) (by omega) (by omega)]
  refine W.bind (sGcd m m2 (by omega) (by omega)) ?_
  rintro _ rfl
  refine W.bind (sGcd _ _ (by omega) (by omega)) ?_
  rintro _ rfl
  refine W.bind (sMake _ _ (by omega) (by omega)) ?_
  rintro _ rfl
  exact W.ret rfl
theorem sDo_11 {m t m2 t2 : Int} (o1 : okS m t) (o2 : okS m2 t2) : W (fun k => spec_RestDo.j1 k 11 false m t m2 t2) (· = mkS (t + t2) (Int.gcd (Int.gcd m m2 : Int) (wOf 11) : Int)) := by
  have r1 := okS_range o1; have r2 := okS_range o2
  have g1 := gcd_le (a := m) (b := m2) (B := 65536) (by omega) (by omega) (by omega)
  have g2 := gcd_le (a := (Int.gcd m m2 : Int)) (b := wOf 11) (B := 4294967296) (by omega) (by omega) (by simp [wOf])
  have hw : wOf 11 = 4294967296 := by simp [wOf]
  rw [hw] at g2 ⊢
  refine W.steps 2 (fun k => by simp only [spec_RestDo.j1, spec_RestDo.j2, spec_RestDo.j3, spec_RestDo.j4, spec_RestDo.j5, spec_l9Wraps.f, spec_l9All.f, sIn, Option.bind_some, ↓reduceIte, Int.reduceEq, Int.reduceGE, Int.reduceBEq, Bool.false_eq_true, beq_self_eq_true]; rfl) ?_
  rw [wrap64_id (n := t + t2) (by omega) (by omega)]
  refine W.bind (sGcd m m2 (by omega) (by omega)) ?_
  rintro _ rfl
  refine W.bind (sGcd _ _ (by omega) (by omega)) ?_
  rintro _ rfl
  refine W.bind (sMake _ _ (by omega) (by omega)) ?_
  rintro _ rfl
  exact W.ret rfl
theorem sDo_2 {m t m2 t2 : Int} (o1 : okS m t) (o2 : okS m2 t2) : W (fun k => spec_RestDo.j1 k 2 false m t m2 t2) (· = mkS (t - t2) (Int.gcd (Int.gcd m m2 : Int) (wOf 2) : Int)) := by
  have r1 := okS_range o1; have r2 := okS_range o2
  have g1 := gcd_le (a := m) (b := m2) (B := 65536) (by omega) (by omega) (by omega)
  have g2 := gcd_le (a := (Int.gcd m m2 : Int)) (b := wOf 2) (B := 4294967296) (by omega) (by omega) (by simp [wOf])
  have hw : wOf 2 = 0 := by simp [wOf]
  rw [hw] at g2 ⊢
  refine W.steps 3 (fun k => by simp only [spec_RestDo.j1, spec_RestDo.j2, spec_RestDo.j3, spec_RestDo.j4, spec_RestDo.j5, spec_l9Wraps.f, spec_l9All.f, sIn, Option.bind_some, ↓reduceIte, Int.reduceEq, Int.reduceGE, Int.reduceBEq, Bool.false_eq_true, beq_self_eq_true]; rfl) ?_
  rw [wrap64_id (n := t - t2) (by omega) (by omega)]
  refine W.bind (sGcd m m2 (by omega) (by omega)) ?_
  rintro _ rfl
  refine W.bind (sGcd _ _ (by omega) (by omega)) ?_
  rintro _ rfl
  refine W.bind (sMake _ _ (by omega) (by omega)) ?_
  rintro _ rfl
  exact W.ret rfl
theorem sDo_12 {m t m2 t2 : Int} (o1 : okS m t) (o2 : okS m2 t2) : W (fun k => spec_RestDo.j1 k 12 false m t m2 t2) (· = mkS (t - t2) (Int.gcd (Int.gcd m m2 : Int) (wOf 12) : Int)) := by
  have r1 := okS_range o1; have r2 := okS_range o2
  have g1 := gcd_le (a := m) (b := m2) (B := 65536) (by omega) (by omega) (by omega)
  have g2 := gcd_le (a := (Int.gcd m m2 : Int)) (b := wOf 12) (B := 4294967296) (by omega) (by omega) (by simp [wOf])
  have hw : wOf 12 = 4294967296 := by simp [wOf]
  rw [hw] at g2 ⊢
  refine W.steps 3 (fun k => by simp only [spec_RestDo.j1, spec_RestDo.j2, spec_RestDo.j3, spec_RestDo.j4, spec_RestDo.j5, spec_l9Wraps.f, spec_l9All.f, sIn, Option.bind_some, ↓reduceIte, Int.reduceEq, Int.reduceGE, Int.reduceBEq, Bool.false_eq_true, beq_self_eq_true]; rfl) ?_
  rw [wrap64_id (n := t - t2) (by omega) (by omega)]
  refine W.bind (sGcd m m2 (by omega) (by omega)) ?_
  rintro _ rfl
  refine W.bind (sGcd _ _ (by omega) (by omega)) ?_
  rintro _ rfl
  refine W.bind (sMake _ _ (by omega) (by omega)) ?_
  rintro _ rfl
  exact W.ret rfl
theorem sDo_3 {m t m2 t2 : Int} (o1 : okS m t) (o2 : okS m2 t2) : W (fun k => spec_RestDo.j1 k 3 false m t m2 t2) (· = if (Int.gcd (Int.gcd (m * m2) (m * t2) : Int) (m2 * t) : Int) = 0 then (0, 0) else mkS (t * t2) (Int.gcd (Int.gcd (Int.gcd (m * m2) (m * t2) : Int) (m2 * t) : Int) (wOf 3) : Int)) := by
  have r1 := okS_range o1; have r2 := okS_range o2
  have b1 := mul_bound (a := m) (b := m2) (by omega) (by omega); have b2 := mul_bound (a := m) (b := t2) (by omega) (by omega)
  have b3 := mul_bound (a := m2) (b := t) (by omega) (by omega); have b4 := mul_bound (a := t) (b := t2) (by omega) (by omega)
  have g1 := gcd_le (a := m * m2) (b := m * t2) (B := 4611686018427387904) (by omega) (by omega) (by omega)
  have g2 := gcd_le (a := (Int.gcd (m * m2) (m * t2) : Int)) (b := m2 * t) (B := 4611686018427387904) (by omega) (by omega) (by omega)
  have g3 := gcd_le (a := (Int.gcd (Int.gcd (m * m2) (m * t2) : Int) (m2 * t) : Int)) (b := wOf 3) (B := 4611686018427387904) (by omega) (by omega) (by simp [wOf])
  have hw : wOf 3 = 0 := by simp [wOf]
  rw [hw] at g3 ⊢
  refine W.steps 5 (fun k => by simp only [spec_RestDo.j1, spec_RestDo.j2, spec_RestDo.j3, spec_RestDo.j4, spec_RestDo.j5, spec_l9Wraps.f, spec_l9All.f, sIn, Option.bind_some, ↓reduceIte, Int.reduceEq, Int.reduceGE, Int.reduceBEq, Bool.false_eq_true, beq_self_eq_true]; rfl) ?_
  rw [wrap64_id (n := m * m2) (by omega) (by omega), wrap64_id (n := m * t2) (by omega) (by omega), wrap64_id (n := m2 * t) (by omega) (by omega)]
  refine W.bind (sGcd _ _ (by omega) (by omega)) ?_
  rintro _ rfl
  refine W.bind (sGcd _ _ (by omega) (by omega)) ?_
  rintro _ rfl
  refine W.ite (fun h => W.ret (by rw [if_pos h])) (fun h => ?_)
  rw [if_neg h]
  refine W.bind (sGcd _ _ (by omega) (by omega)) ?_
  rintro _ rfl
  rw [wrap64_id (n := t * t2) (by omega) (by omega)]
  refine W.bind (sMake _ _ (by omega) (by omega)) ?_
  rintro _ rfl
  exact W.ret rfl
theorem sDo_13 {m t m2 t2 : Int} (o1 : okS m t) (o2 : okS m2 t2) : W (fun k => spec_RestDo.j1 k 13 false m t m2 t2) (· = if (Int.gcd (Int.gcd (m * m2) (m * t2) : Int) (m2 * t) : Int) = 0 then (0, 0) else mkS (t * t2) (Int.gcd (Int.gcd (Int.gcd (m * m2) (m * t2) : Int) (m2 * t) : Int) (wOf 13) : Int)) := by
  have r1 := okS_range o1; have r2 := okS_range o2
  have b1 := mul_bound (a := m) (b := m2) (by omega) (by omega); have b2 := mul_bound (a := m) (b := t2) (by omega) (by omega)
  have b3 := mul_bound (a := m2) (b := t) (by omega) (by omega); have b4 := mul_bound (a := t) (b := t2) (by omega) (by omega)
  have g1 := gcd_le (a := m * m2) (b := m * t2) (B := 4611686018427387904) (by omega) (by omega) (by omega)
  have g2 := gcd_le (a := (Int.gcd (m * m2) (m * t2) : Int)) (b := m2 * t) (B := 4611686018427387904) (by omega) (by omega) (by omega)
  have g3 := gcd_le (a := (Int.gcd (Int.gcd (m * m2) (m * t2) : Int) (m2 * t) : Int)) (b := wOf 13) (B := 4611686018427387904) (by omega) (by omega) (by simp [wOf])
  have hw : wOf 13 = 4294967296 := by simp [wOf]
  rw [hw] at g3 ⊢
  refine W.steps 5 (fun k => by simp only [spec_RestDo.j1, spec_RestDo.j2, spec_RestDo.j3, spec_RestDo.j4, spec_RestDo.j5, spec_l9Wraps.f, spec_l9All.f, sIn, Option.bind_some, ↓reduceIte, Int.reduceEq, Int.reduceGE, Int.reduceBEq, Bool.false_eq_true, beq_self_eq_true]; rfl) ?_
  rw [wrap64_id (n := m * m2) (by omega) (by omega), wrap64_id (n := m * t2) (by omega) (by omega), wrap64_id (n := m2 * t) (by omega) (by omega)]
  refine W.bind (sGcd _ _ (by omega) (by omega)) ?_
  rintro _ rfl
  refine W.bind (sGcd _ _ (by omega) (by omega)) ?_
  rintro _ rfl
  refine W.ite (fun h => W.ret (by rw [if_pos h])) (fun h => ?_)
  rw [if_neg h]
  refine W.bind (sGcd _ _ (by omega) (by omega)) ?_
  rintro _ rfl
  rw [wrap64_id (n := t * t2) (by omega) (by omega)]
  refine W.bind (sMake _ _ (by omega) (by omega)) ?_
  rintro _ rfl
  exact W.ret rfl
theorem sDo_5 {m t m2 t2 : Int} (o1 : okS m t) (o2 : okS m2 t2) : W (fun k => spec_RestDo.j1 k 5 false m t m2 t2) (· = if (Int.gcd (Int.gcd m m2 : Int) t2 : Int) = 0 then (1, 0) else mkS t (Int.gcd (Int.gcd m m2 : Int) t2 : Int)) := by
  have r1 := okS_range o1; have r2 := okS_range o2
  have g1 := gcd_le (a := m) (b := m2) (B := 65536) (by omega) (by omega) (by omega)
  have g2 := gcd_le (a := (Int.gcd m m2 : Int)) (b := t2) (B := 4294967296) (by omega) (by omega) (by omega)
  have g3 := gcd_le (a := m2) (b := t2) (B := 4294967296) (by omega) (by omega) (by omega)
  refine W.steps 5 (fun k => by simp only [spec_RestDo.j1, spec_RestDo.j2, spec_RestDo.j3, spec_RestDo.j4, spec_RestDo.j5, spec_l9Wraps.f, spec_l9All.f, sIn, Option.bind_some, ↓reduceIte, Int.reduceEq, Int.reduceGE, Int.reduceBEq, Bool.false_eq_true, beq_self_eq_true]; rfl) ?_
  refine W.bind (sGcd m2 t2 (by omega) (by omega)) ?_
  rintro _ rfl
  refine W.bind (sGcd m _ (by omega) (by omega)) ?_
  rintro _ rfl
  rw [gcd_assoc']
  refine W.ite (fun h => W.ret (by rw [if_pos h])) (fun h => ?_)
  rw [if_neg h]
  refine W.bind (sMake _ _ (by omega) (by omega)) ?_
  rintro _ rfl
  exact W.ret rfl
theorem sDo_9 {m t m2 t2 : Int} (o1 : okS m t) (o2 : okS m2 t2) : W (fun k => spec_RestDo.j1 k 9 false m t m2 t2) (· = if m2 = 0 ∧ 0 ≤ t2 ∧ t2 ≤ 31 then mkS (t * 2 ^ t2.toNat) (m * 2 ^ t2.toNat) else (1, 0)) := by
  have r1 := okS_range o1; have r2 := okS_range o2
  refine W.steps 3 (fun k => by simp only [spec_RestDo.j1, spec_RestDo.j2, spec_RestDo.j3, spec_l9Wraps.f, sIn, Option.bind_some, ↓reduceIte, Int.reduceEq, Int.reduceGE, Int.reduceBEq, Bool.false_eq_true, beq_self_eq_true]; rfl) ?_
  have no : ¬ (m2 = 0 ∧ 0 ≤ t2 ∧ t2 ≤ 31) → W (fun k => spec_RestDo.j4 k 9 0 false m t m2 t2) (· = if m2 = 0 ∧ 0 ≤ t2 ∧ t2 ≤ 31 then mkS (t * 2 ^ t2.toNat) (m * 2 ^ t2.toNat) else (1, 0)) := by
    intro hn
    refine W.steps 2 (fun k => by simp only [spec_RestDo.j4, spec_RestDo.j5, spec_l9All.f, Option.bind_some, ↓reduceIte, Int.reduceEq, Int.reduceGE, Int.reduceBEq, Bool.false_eq_true, beq_self_eq_true]; rfl) ?_
    exact W.ret (by rw [if_neg hn])
  refine W.ite (fun h1 => ?_) (fun h1 => no (fun hc => h1 hc.1))
  by_cases h3 : 0 ≤ t2 ∧ t2 ≤ 31
  · rw [decide_eq_true h3, if_pos ⟨h1, h3⟩]
    have hp := pow_pos' t2.toNat; have hq := pow31 h3.2
    have b1 := mul_bound2 (a := t) (b := 2 ^ t2.toNat) (by omega) (by omega); have b2 := mul_bound2 (a := m) (b := 2 ^ t2.toNat) (by omega) (by omega)
    have b3 : 0 ≤ m * 2 ^ t2.toNat := Int.mul_nonneg (by omega) (by omega)
    refine W.step (fun k => by simp only [spec_RestDo.j4]; rfl) ?_
    refine W.pos True.intro ?_
    refine W.bind (power_ok t2 (by omega) (by omega)) ?_
    rintro _ rfl
    refine W.bind (power_ok t2 (by omega) (by omega)) ?_
    rintro _ rfl
    rw [wrap64_id (n := t * 2 ^ t2.toNat) (by omega) (by omega), wrap64_id (n := m * 2 ^ t2.toNat) (by omega) (by omega)]
    generalize t * 2 ^ t2.toNat = x1 at *
    generalize m * 2 ^ t2.toNat = x2 at *
    refine W.bind (sMake x2 x1 (by omega) (by omega)) ?_
    rintro _ rfl
    exact W.ret rfl
  · rw [decide_eq_false h3]; exact no (fun hc => h3 hc.2)
theorem sRestDo (op m t m2 t2 : Int) : W (fun k => spec_RestDo.f k op m t m2 t2) (· = doS op m t m2 t2) := by
  have bad : ¬ (1 ≤ op ∧ op ≤ 13) ∨ ¬ okS m t ∨ ¬ okS m2 t2 → W (fun k => spec_RestDo.j0 k op true m t m2 t2) (· = doS op m t m2 t2) := by
    intro hb
    refine W.step (fun k => by simp only [spec_RestDo.j0, spec_l9All.f, Option.bind_some, ↓reduceIte, Int.reduceEq, Int.reduceGE, Int.reduceBEq, Bool.false_eq_true, beq_self_eq_true]; rfl) ?_
    (try refine W.pos True.intro ?_)
    exact W.ret (by unfold doS; rw [if_pos hb])
  unfold spec_RestDo.f
  simp only [sIn, sRestOk, Option.bind_some]
  refine W.dec (fun h1 => W.dec (fun h2 => ?_) (fun h2 => bad (.inr (.inl h2)))) (fun h1 => bad (.inl h1))
  by_cases h3 : okS m2 t2
  · rw [ndt h3]
    unfold doS
    rw [if_neg (show ¬ (¬ (1 ≤ op ∧ op ≤ 13) ∨ ¬ okS m t ∨ ¬ okS m2 t2) from fun hc => hc.elim (fun x => x h1) (fun x => x.elim (fun y => y h2) (fun y => y h3)))]
    have main : ¬ (m = 0 ∧ m2 = 0) → W (fun k => spec_RestDo.j1 k op false m t m2 t2) (· = if m = 0 ∧ m2 = 0 then (if (numDo op t t2).2 = 0 then (0, (numDo op t t2).1) else (1, 0))
  else if op = 1 ∨ op = 11 then mkS (t + t2) (Int.gcd (Int.gcd m m2 : Int) (wOf op) : Int)
  else if op = 2 ∨ op = 12 then mkS (t - t2) (Int.gcd (Int.gcd m m2 : Int) (wOf op) : Int)
  else if op = 3 ∨ op = 13 then (if (Int.gcd (Int.gcd (m * m2) (m * t2) : Int) (m2 * t) : Int) = 0 then (0, 0) else mkS (t * t2) (Int.gcd (Int.gcd (Int.gcd (m * m2) (m * t2) : Int) (m2 * t) : Int) (wOf op) : Int))
  else if op = 9 then (if m2 = 0 ∧ 0 ≤ t2 ∧ t2 ≤ 31 then mkS (t * 2 ^ t2.toNat) (m * 2 ^ t2.toNat) else (1, 0))
  else if op = 5 then (if (Int.gcd (Int.gcd m m2 : Int) t2 : Int) = 0 then (1, 0) else mkS t (Int.gcd (Int.gcd m m2 : Int) t2 : Int))
  else (1, 0)) := by
      intro hz
      rw [if_neg hz]
      rcases ops h1.1 h1.2 with rfl | rfl | rfl | rfl | rfl | rfl | rfl | rfl | rfl | rfl | rfl | rfl | rfl
      · exact sDo_1 h2 h3
      · exact sDo_2 h2 h3
      · exact sDo_3 h2 h3
      · exact W.steps 5 (fun k => by simp only [spec_RestDo.j1, spec_RestDo.j2, spec_RestDo.j3, spec_RestDo.j4, spec_RestDo.j5, spec_l9Wraps.f, spec_l9All.f, sIn, Option.bind_some, ↓reduceIte, Int.reduceEq, Int.reduceGE, Int.reduceBEq, Bool.false_eq_true, beq_self_eq_true]; rfl) (W.ret rfl)
      · exact sDo_5 h2 h3
      · exact W.steps 5 (fun k => by simp only [spec_RestDo.j1, spec_RestDo.j2, spec_RestDo.j3, spec_RestDo.j4, spec_RestDo.j5, spec_l9Wraps.f, spec_l9All.f, sIn, Option.bind_some, ↓reduceIte, Int.reduceEq, Int.reduceGE, Int.reduceBEq, Bool.false_eq_true, beq_self_eq_true]; rfl) (W.ret rfl)
      · exact W.steps 5 (fun k => by simp only [spec_RestDo.j1, spec_RestDo.j2, spec_RestDo.j3, spec_RestDo.j4, spec_RestDo.j5, spec_l9Wraps.f, spec_l9All.f, sIn, Option.bind_some, ↓reduceIte, Int.reduceEq, Int.reduceGE, Int.reduceBEq, Bool.false_eq_true, beq_self_eq_true]; rfl) (W.ret rfl)
      · exact W.steps 5 (fun k => by simp only [spec_RestDo.j1, spec_RestDo.j2, spec_RestDo.j3, spec_RestDo.j4, spec_RestDo.j5, spec_l9Wraps.f, spec_l9All.f, sIn, Option.bind_some, ↓reduceIte, Int.reduceEq, Int.reduceGE, Int.reduceBEq, Bool.false_eq_true, beq_self_eq_true]; rfl) (W.ret rfl)
      · exact sDo_9 h2 h3
      · exact W.steps 5 (fun k => by simp only [spec_RestDo.j1, spec_RestDo.j2, spec_RestDo.j3, spec_RestDo.j4, spec_RestDo.j5, spec_l9Wraps.f, spec_l9All.f, sIn, Option.bind_some, ↓reduceIte, Int.reduceEq, Int.reduceGE, Int.reduceBEq, Bool.false_eq_true, beq_self_eq_true]; rfl) (W.ret rfl)
      · exact sDo_11 h2 h3
      · exact sDo_12 h2 h3
      · exact sDo_13 h2 h3
    refine W.step (fun k => by simp only [spec_RestDo.j0]; rfl) ?_
    (try refine W.neg (by decide) ?_)
    refine W.ite (fun h4 => ?_) (fun h4 => main (fun hc => h4 hc.1))
    by_cases h5 : m2 = 0
    · rw [show (m2 == 0) = true by simpa using h5, if_pos ⟨h4, h5⟩]
      refine W.step (fun k => by simp only [spec_RestDo.j1, spec_l9All.f, Option.bind_some, ↓reduceIte, Int.reduceEq, Int.reduceGE, Int.reduceBEq, Bool.false_eq_true, beq_self_eq_true]; rfl) ?_
      refine W.bind (sNumDo op t t2) ?_
      rintro _ rfl
      exact W.ite (fun h6 => W.ret (by rw [if_pos h6])) (fun h6 => W.ret (by rw [if_neg h6]))
    · rw [show (m2 == 0) = false by simpa using h5]
      exact main (fun hc => h5 hc.2)
  · rw [ndf h3]; exact bad (.inr (.inr h3))

theorem eqRest_same (a b : Int) : laws_eqRest.f a b a b = some true := by simp [laws_eqRest.f]
theorem FnExactRestDo (o a b c d : Int) (_ : (Lit.int .i64 o).wf = true) (_ : (Lit.int .i64 a).wf = true) (_ : (Lit.int .i64 b).wf = true) (_ : (Lit.int .i64 c).wf = true) (_ : (Lit.int .i64 d).wf = true) : ∃ k, laws_FnExactRestDo.f k o a b c d = some true := by
  apply W.eq
  unfold laws_FnExactRestDo.f
  simp only [laws_toRest.f, Option.bind_some]
  refine W.bind (sRestDo o a b c d) ?_
  rintro _ rfl
  refine W.bind (iRestDo o a b c d) ?_
  rintro _ rfl
  simp only [eqRest_same, Option.bind_some]
  exact W.pos (by trivial) (W.ret rfl)

end Go.Proofs.Ytlipfemjlicbbaa.Pure
