/- The pure statement of the law FnExactValDo: for every input the printed function answers true. -/
import Derived.Test.YthbkakcchgnhpaaPFnExactValDox0
import Derived.Test.YthbkakcchgnhpaaPFnExactValDox1
import Derived.Test.YthbkakcchgnhpaaPFnExactValDox2
import Derived.Test.YthbkakcchgnhpaaPFnExactValDox3
import Derived.Test.YthbkakcchgnhpaaPFnExactValDox4
import Derived.Test.YthbkakcchgnhpaaPFnExactValDox5
import Derived.Test.YthbkakcchgnhpaaPFnExactValDox6
import Derived.Test.YthbkakcchgnhpaaPFnExactValDox7
import Derived.Test.YthbkakcchgnhpaaPFnExactValDox8
import Derived.Test.YthbkakcchgnhpaaPFnExactValDox9
import Derived.Test.YthbkakcchgnhpaaLv
namespace Go.Proofs.Ythbkakcchgnhpaa.Pure
open Go Go.RowKit Go.Proofs.Ythbkakcchgnhpaa.PFnExactValDo Go.Proofs.YthbkakcchgnhpaaV.PrintWords Go.Proofs.YthbkakcchgnhpaaV.PrintLast Go.Proofs.YthbkakcchgnhpaaV.PrintMore Go.Proofs.Ythbkakcchgnhpaa.Lib
set_option linter.unusedVariables false
set_option linter.unusedSimpArgs false

def okN (v : Int) : Prop := -2147483648 ≤ v ∧ v ≤ 2147483647
instance (v : Int) : Decidable (okN v) := by unfold okN; exact inferInstance
theorem sNumOk (v : Int) : spec_NumOk.f v = some (decide (okN v)) := by
 simp only [spec_NumOk.f, spec_l1In.f, okN]
 by_cases h : v ≥ -2147483648 <;> simp [h]
theorem iNumOk (v : Int) : impl_NumOk.f v = some (decide (okN v)) := by
 simp only [impl_NumOk.f, okN]
 by_cases h : v ≥ -2147483648 <;> simp [h]

theorem tmod_pos {a n : Int} (h : 0 ≤ a) (hn : 1 ≤ n) : 0 ≤ a.tmod n ∧ a.tmod n < n := by
 rw [Int.tmod_eq_emod_of_nonneg h]
 exact ⟨Int.emod_nonneg _ (by omega), Int.emod_lt_of_pos _ (by omega)⟩

theorem power_loop (n : Int) (hn : n ≤ 61) (d : Nat) : ∀ i : Int, 0 ≤ i → i ≤ n → n - i = d → W (fun k => spec_l1Power.l0 k n (2 ^ i.toNat) i) (· = 2 ^ n.toNat) := by
 induction d with
 | zero =>
  intro i h0 h1 hd
  refine W.step (fun k => by simp only [spec_l1Power.l0]; rfl) ?_
  exact W.neg (by omega) (W.ret (by rw [show i = n by omega]))
 | succ d ih =>
  intro i h0 h1 hd
  refine W.step (fun k => by simp only [spec_l1Power.l0]; rfl) ?_
  refine W.pos (by omega) ?_
  have hp : (2 : Int) ^ i.toNat ≤ 2 ^ 61 := pow_mono (by omega)
  have hq := pow_pos' i.toNat
  have h := ih (i + 1) (by omega) (by omega) (by omega)
  rw [show (i + 1).toNat = i.toNat + 1 by omega, Int.pow_succ, Int.mul_comm] at h
  rw [wrap64_id (n := i + 1) (by omega) (by omega), wrap64_id (n := 2 * 2 ^ i.toNat) (by omega) (by omega)]
  exact h
theorem power_ok (n : Int) (h0 : 0 ≤ n) (hn : n ≤ 61) : W (fun k => spec_l1Power.f k n) (· = 2 ^ n.toNat) := by
 unfold spec_l1Power.f
 exact power_loop n hn n.toNat 0 (by omega) h0 (by omega)

theorem sNumWrap (a : Int) (h0 : -9223372036854775808 ≤ a) (h1 : a ≤ 9223372036854775807) : spec_NumWrap.f a = some (wrap32 a) := by
 simp only [spec_NumWrap.f, spec_l1Mod.f]
 have e := tmod_up (n := a) (m := 4294967296) (by omega)
 have b := tmod_bounds (n := a) (m := 4294967296) (by omega)
 rw [if_neg (by omega)]
 by_cases hn : a.tmod 4294967296 < 0
 ·rw [if_pos hn] at e ⊢
  rw [wrap64_id (by omega) (by omega), e]
  simp only [Option.bind_some]
  by_cases hm : a % 4294967296 > 2147483647
  ·rw [if_pos hm]
   congr 1; unfold wrap64 wrap32; omega
  ·rw [if_neg hm]
   congr 1; unfold wrap32; omega
 ·rw [if_neg hn] at e ⊢
  rw [e]
  simp only [Option.bind_some]
  by_cases hm : a % 4294967296 > 2147483647
  ·rw [if_pos hm]
   congr 1; unfold wrap64 wrap32; omega
  ·rw [if_neg hm]
   congr 1; unfold wrap32; omega
theorem wrap32_ok (a : Int) : -2147483648 ≤ wrap32 a ∧ wrap32 a ≤ 2147483647 := by unfold wrap32; omega
theorem wrap64_ok (a : Int) : -9223372036854775808 ≤ wrap64 a ∧ wrap64 a ≤ 9223372036854775807 := by unfold wrap64; omega


/-! ### what an operator makes of two numbers -/
def exactV (op a b : Int) : Int :=
 if op = 1 ∨ op = 11 then a + b else if op = 2 ∨ op = 12 then a - b else if op = 3 ∨ op = 13 then a * b else if op = 4 then a.tdiv b else if op = 5 then a.tmod b
 else if op = 6 then s32 (u32 a &&& u32 b) else if op = 7 then s32 (u32 a ||| u32 b) else if op = 8 then s32 (u32 a ^^^ u32 b) else if op = 9 then a * 2 ^ b.toNat else if op = 10 then a / 2 ^ b.toNat else 0
theorem mul_bound {a b : Int} (ha : -2147483648 ≤ a ∧ a ≤ 2147483647) (hb : -2147483648 ≤ b ∧ b ≤ 2147483647) : -4611686018427387904 ≤ a * b ∧ a * b ≤ 4611686018427387904 := by
 have h : (a * b).natAbs ≤ 2147483648 * 2147483648 := by
  rw [Int.natAbs_mul]; exact Nat.mul_le_mul (by omega) (by omega)
 omega
theorem mul_bound2 {a b : Int} (ha : -2147483648 ≤ a ∧ a ≤ 2147483647) (hb : 0 ≤ b ∧ b ≤ 2147483648) : -4611686018427387904 ≤ a * b ∧ a * b ≤ 4611686018427387904 := by
 have h : (a * b).natAbs ≤ 2147483648 * 2147483648 := by
  rw [Int.natAbs_mul]; exact Nat.mul_le_mul (by omega) (by omega)
 omega
theorem pow31 {b : Int} (h : b ≤ 31) : (2 : Int) ^ b.toNat ≤ 2147483648 := pow_mono (b := 31) (by omega)
theorem tdiv_bound {a b : Int} (ha : -2147483648 ≤ a ∧ a ≤ 2147483647) : -2147483648 ≤ a.tdiv b ∧ a.tdiv b ≤ 2147483648 := by
 have h : (a.tdiv b).natAbs ≤ a.natAbs := by rw [Int.natAbs_tdiv]; exact Nat.div_le_self _ _
 omega
theorem u64_small {i : Int} (h0 : 0 ≤ i) (h1 : i ≤ 1000) : IntKind.u64.wrap i = i := by
 simp [IntKind.wrap, IntKind.bits, IntKind.signed]; omega
theorem i64wrap {n : Int} (h0 : -9223372036854775808 ≤ n) (h1 : n ≤ 9223372036854775807) : IntKind.i64.wrap n = n := by
 simp [IntKind.wrap, IntKind.bits, IntKind.signed]; omega
theorem shl_id {x i : Int} (h0 : 0 ≤ i) (h1 : i ≤ 63) (hx : -9223372036854775808 ≤ x * 2 ^ i.toNat) (hy : x * 2 ^ i.toNat ≤ 9223372036854775807) : shl .i64 x i = x * 2 ^ i.toNat := by
 unfold shl
 rw [show min i.toNat IntKind.i64.bits = i.toNat by simp [IntKind.bits]; omega]
 exact i64wrap hx hy
theorem shr_id {x i : Int} (h0 : 0 ≤ i) (h1 : i ≤ 63) : shr .i64 x i = x / 2 ^ i.toNat := by
 unfold shr
 rw [show min i.toNat IntKind.i64.bits = i.toNat by simp [IntKind.bits]; omega]
/-- What the quotients, rests and shifts ask ahead. -/
def Fit (op b : Int) : Prop := (op = 4 ∨ op = 5 → b ≠ 0) ∧ (op = 9 ∨ op = 10 → 0 ≤ b ∧ b ≤ 31)
theorem ops {op : Int} (h : 1 ≤ op) (h1 : op ≤ 13) : op = 1 ∨ op = 2 ∨ op = 3 ∨ op = 4 ∨ op = 5 ∨ op = 6 ∨ op = 7 ∨ op = 8 ∨ op = 9 ∨ op = 10 ∨ op = 11 ∨ op = 12 ∨ op = 13 := by omega
theorem iExact {op a b : Int} (h : 1 ≤ op) (h1 : op ≤ 13) (ha : -2147483648 ≤ a ∧ a ≤ 2147483647) (hb : -2147483648 ≤ b ∧ b ≤ 2147483647) (hf : Fit op b) : W (fun k => impl_numExact.f k op a b) (· = exactV op a b) := by
 refine ⟨_, rfl, 3, fun k hk => ?_⟩
 obtain ⟨m, rfl⟩ : ∃ m, k = m + 3 := ⟨k - 3, by omega⟩
 obtain ⟨f1, f2⟩ := hf
 rcases ops h h1 with rfl | rfl | rfl | rfl | rfl | rfl | rfl | rfl | rfl | rfl | rfl | rfl | rfl
 ·simp [impl_numExact.f, impl_numExact.j0, exactV]; exact wrap64_id (by omega) (by omega)
 ·simp [impl_numExact.f, impl_numExact.j0, impl_numExact.j1, exactV]; exact wrap64_id (by omega) (by omega)
 ·have := mul_bound ha hb; simp [impl_numExact.f, impl_numExact.j0, impl_numExact.j1, impl_numExact.j2, exactV]; exact wrap64_id (by omega) (by omega)
 ·have := tdiv_bound (b := b) ha; have := f1 (by omega); simp [impl_numExact.f, impl_numExact.j0, impl_numExact.j1, impl_numExact.j2, exactV, this]; exact wrap64_id (by omega) (by omega)
 ·have := f1 (by omega); simp [impl_numExact.f, impl_numExact.j0, impl_numExact.j1, impl_numExact.j2, exactV, this]
 ·simp [impl_numExact.f, impl_numExact.j0, impl_numExact.j1, impl_numExact.j2, exactV]; exact bits_and ha.1 ha.2 hb.1 hb.2
 ·simp [impl_numExact.f, impl_numExact.j0, impl_numExact.j1, impl_numExact.j2, exactV]; exact bits_or ha.1 ha.2 hb.1 hb.2
 ·simp [impl_numExact.f, impl_numExact.j0, impl_numExact.j1, impl_numExact.j2, exactV]; exact bits_xor ha.1 ha.2 hb.1 hb.2
 ·have hb' := f2 (by omega)
  have hw := u64_small hb'.1 (by omega)
  have hp := mul_bound2 ha ⟨Int.le_of_lt (pow_pos' b.toNat), pow31 hb'.2⟩
  simp [impl_numExact.f, impl_numExact.j0, impl_numExact.j1, impl_numExact.j2, exactV, hw, hb'.1]; exact shl_id hb'.1 (by omega) (by omega) (by omega)
 ·have hb' := f2 (by omega)
  have hw := u64_small hb'.1 (by omega)
  simp [impl_numExact.f, impl_numExact.j0, impl_numExact.j1, impl_numExact.j2, exactV, hw, hb'.1]; exact shr_id hb'.1 (by omega)
 ·simp [impl_numExact.f, impl_numExact.j0, exactV]; exact wrap64_id (by omega) (by omega)
 ·simp [impl_numExact.f, impl_numExact.j0, impl_numExact.j1, exactV]; exact wrap64_id (by omega) (by omega)
 ·have := mul_bound ha hb; simp [impl_numExact.f, impl_numExact.j0, impl_numExact.j1, impl_numExact.j2, exactV]; exact wrap64_id (by omega) (by omega)

theorem nsMod {a : Int} (m : Int) (h0 : 0 < m) (h1 : m ≤ 4294967296) : spec_l1Mod.f a m = some (a % m) := by
 simp only [spec_l1Mod.f]
 have e := tmod_up (n := a) (m := m) h0
 have b := tmod_bounds (n := a) (m := m) h0
 rw [if_neg (by omega)]
 by_cases hn : a.tmod m < 0
 ·rw [if_pos hn] at e ⊢
  rw [wrap64_id (by omega) (by omega), e]
 ·rw [if_neg hn] at e ⊢
  rw [e]
theorem u32_cast (a : Int) : a % 4294967296 = (u32 a : Int) := by unfold u32; omega
theorem bit_cast (A n : Nat) : Int.tmod ((A : Int) / 2 ^ n) 2 = ((A / 2 ^ n % 2 : Nat) : Int) := by
 have : (A : Int) / 2 ^ n = ((A / 2 ^ n : Nat) : Int) := by norm_cast
 rw [this, Int.tmod_eq_emod_of_nonneg (Int.natCast_nonneg _)]; norm_cast
theorem bits_step {X n z : Nat} (hX : X < 4294967296) (hn : n < 32) (hz : X / 2 ^ n % 2 = z) : wrap64 (((X % 2 ^ n : Nat) : Int) + shl .i64 (z : Int) (n : Int)) = ((X % 2 ^ (n + 1) : Nat) : Int) := by
 have hz2 : z < 2 := by omega
 have h1 : X % 2 ^ (n + 1) ≤ X := Nat.mod_le _ _
 have e := mod_succ X n
 rw [hz] at e
 have hp : (2 : Nat) ^ n ≤ 2 ^ 31 := Nat.pow_le_pow_right (by omega) (by omega)
 have hs : (z : Int) * 2 ^ ((n : Int)).toNat = ((2 ^ n * z : Nat) : Int) := by
  rw [Int.toNat_natCast, Nat.mul_comm]; norm_cast
 have hb : 2 ^ n * z ≤ 2 ^ 31 * 1 := Nat.mul_le_mul hp (by omega)
 rw [shl_id (by omega) (by omega) (by rw [hs]; omega) (by rw [hs]; omega), hs, wrap64_id (by omega) (by omega)]
 omega
theorem sNumWrap_s32 {X : Nat} (h : X < 4294967296) : spec_NumWrap.f (X : Int) = some (s32 X) := by
 rw [sNumWrap _ (by omega) (by omega)]
 congr 1; unfold wrap32 s32; split <;> omega
theorem bits_loop {op a b : Int} {X : Nat} (hop : op = 6 ∨ op = 7 ∨ op = 8)
  (hX : X = if op = 6 then u32 a &&& u32 b else if op = 7 then u32 a ||| u32 b else u32 a ^^^ u32 b) (d : Nat) : ∀ n : Nat, n ≤ 32 → 32 - n = d → W (fun k => spec_l1Bits.l0 k op a b ((X % 2 ^ n : Nat) : Int) (n : Int)) (· = s32 X) := by
 have hA := u32_lt a
 have hB := u32_lt b
 have hXl : X < 4294967296 := by
  rw [hX]; split
  ·exact and_lt hA
  ·split
   ·exact or_lt hA hB
   ·exact xor_lt hA hB
 induction d with
 | zero =>
  intro n hn hd
  obtain rfl : n = 32 := by omega
  refine W.step (fun k => by simp only [spec_l1Bits.l0]; rfl) ?_
  refine W.neg (by omega) ?_
  rw [Nat.mod_eq_of_lt (show X < 2 ^ 32 from hXl)]
  refine W.bind (W.const (sNumWrap_s32 hXl) rfl) ?_
  rintro _ rfl
  exact W.ret rfl
 | succ d ih =>
  intro n hn hd
  have ih' := ih (n + 1) (by omega) (by omega)
  have ei : wrap64 ((n : Int) + 1) = ((n + 1 : Nat) : Int) := by rw [wrap64_id (by omega) (by omega)]; omega
  have hu : IntKind.u64.wrap (n : Int) = (n : Int) := u64_small (by omega) (by omega)
  have hsr : ∀ A : Nat, Int.tmod (shr .i64 (A : Int) (n : Int)) 2 = ((A / 2 ^ n % 2 : Nat) : Int) := fun A => by rw [shr_id (by omega) (by omega), Int.toNat_natCast]; exact bit_cast A n
  refine W.step (fun k => by simp only [spec_l1Bits.l0]; rfl) ?_
  refine W.pos (by omega) ?_
  refine W.bind (W.const (nsMod (a := a) 4294967296 (by omega) (by omega)) rfl) ?_
  rintro _ rfl
  rw [hu, u32_cast a]
  refine W.pos (by omega) ?_
  refine W.bind (W.const (nsMod (a := b) 4294967296 (by omega) (by omega)) rfl) ?_
  rintro _ rfl
  rw [u32_cast b, hsr, hsr, ei]
  have za := Nat.mod_two_eq_zero_or_one (u32 a / 2 ^ n); have zb := Nat.mod_two_eq_zero_or_one (u32 b / 2 ^ n)
  rcases hop with rfl | rfl | rfl
  ·refine W.neg (by decide) (W.neg (by decide) ?_)
   have hz := bit_and (u32 a) (u32 b) n
   simp only [if_true] at hX
   rw [← hX] at hz
   rw [show wrap64 (((u32 a / 2 ^ n % 2 : Nat) : Int) * ((u32 b / 2 ^ n % 2 : Nat) : Int)) = (((u32 a / 2 ^ n % 2) * (u32 b / 2 ^ n % 2) : Nat) : Int) by
    rcases za with h | h <;> rcases zb with g | g <;> rw [h, g] <;> simp [wrap64], bits_step hXl (by omega) hz]
   exact ih'
  ·refine W.pos rfl ?_
   have hz := bit_or (u32 a) (u32 b) n
   simp only [if_true, show ¬ (7 : Int) = 6 by decide, if_false] at hX
   rw [← hX] at hz
   rw [show wrap64 (wrap64 (((u32 a / 2 ^ n % 2 : Nat) : Int) + ((u32 b / 2 ^ n % 2 : Nat) : Int)) - wrap64 (((u32 a / 2 ^ n % 2 : Nat) : Int) * ((u32 b / 2 ^ n % 2 : Nat) : Int))) = (((u32 a / 2 ^ n % 2) + (u32 b / 2 ^ n % 2) - (u32 a / 2 ^ n % 2) * (u32 b / 2 ^ n % 2) : Nat) : Int) by
    rcases za with h | h <;> rcases zb with g | g <;> rw [h, g] <;> simp [wrap64], bits_step hXl (by omega) hz]
   exact ih'
  ·refine W.neg (by decide) (W.pos rfl ?_)
   have hz := bit_xor (u32 a) (u32 b) n
   simp only [show ¬ (8 : Int) = 6 by decide, show ¬ (8 : Int) = 7 by decide, if_false] at hX
   rw [← hX] at hz
   rw [show Int.tmod (wrap64 (((u32 a / 2 ^ n % 2 : Nat) : Int) + ((u32 b / 2 ^ n % 2 : Nat) : Int))) 2 = ((((u32 a / 2 ^ n % 2) + (u32 b / 2 ^ n % 2)) % 2 : Nat) : Int) by
    rcases za with h | h <;> rcases zb with g | g <;> rw [h, g] <;> simp [wrap64], bits_step hXl (by omega) hz]
   exact ih'
theorem sBits {op a b : Int} (hop : op = 6 ∨ op = 7 ∨ op = 8) : W (fun k => spec_l1Bits.f k op a b) (· = exactV op a b) := by
 unfold spec_l1Bits.f
 have h := bits_loop (op := op) (a := a) (b := b) hop rfl 32 0 (by omega) (by omega)
 rw [Nat.pow_zero, Nat.mod_one] at h
 refine W.mono h ?_
 rintro _ rfl
 rcases hop with rfl | rfl | rfl <;> simp [exactV]
theorem ediv_bound {a p : Int} (ha : -2147483648 ≤ a ∧ a ≤ 2147483647) (hp : 0 < p) : -2147483648 ≤ a / p ∧ a / p ≤ 2147483647 := by
 constructor
 ·rw [Int.le_ediv_iff_mul_le hp]
  have := Int.mul_le_mul_of_nonpos_left (a := -2147483648) (by omega) (show (1 : Int) ≤ p by omega)
  omega
 ·rcases Int.le_total 0 a with h | h
  ·have := Int.ediv_le_self p h; omega
  ·have := Int.ediv_le_ediv hp h; simp at this; omega
theorem floor_eq {a p : Int} (hp : 0 < p) : (a - a % p).tdiv p = a / p := by
 have := Int.mul_ediv_add_emod a p
 rw [show a - a % p = p * (a / p) by omega, Int.mul_tdiv_cancel_left _ (by omega)]
theorem sExact {op a b : Int} (h : 1 ≤ op) (h1 : op ≤ 13) (ha : -2147483648 ≤ a ∧ a ≤ 2147483647) (hb : -2147483648 ≤ b ∧ b ≤ 2147483647) (hf : Fit op b) : W (fun k => spec_l1Exact.f k op a b) (· = exactV op a b) := by
 obtain ⟨f1, f2⟩ := hf
 have st : ∀ {g : Nat → Option Int} (r : Int) (m : Nat), (∀ k, g (k + m) = some r) → W g (· = r) := fun r m hg => ⟨r, rfl, m, fun k hk => by obtain ⟨q, rfl⟩ : ∃ q, k = q + m := ⟨k - m, by omega⟩; exact hg q⟩
 rcases ops h h1 with rfl | rfl | rfl | rfl | rfl | rfl | rfl | rfl | rfl | rfl | rfl | rfl | rfl
 ·refine st _ 3 fun k => ?_; simp [spec_l1Exact.f, spec_l1Exact.j0, exactV]; exact wrap64_id (by omega) (by omega)
 ·refine st _ 3 fun k => ?_; simp [spec_l1Exact.f, spec_l1Exact.j0, spec_l1Exact.j1, exactV]; exact wrap64_id (by omega) (by omega)
 ·have := mul_bound ha hb; refine st _ 3 fun k => ?_; simp [spec_l1Exact.f, spec_l1Exact.j0, spec_l1Exact.j1, spec_l1Exact.j2, exactV]; exact wrap64_id (by omega) (by omega)
 ·have := tdiv_bound (b := b) ha; have := f1 (by omega); refine st _ 3 fun k => ?_; simp [spec_l1Exact.f, spec_l1Exact.j0, spec_l1Exact.j1, spec_l1Exact.j2, exactV, this]; exact wrap64_id (by omega) (by omega)
 ·have := f1 (by omega); refine st _ 3 fun k => ?_; simp [spec_l1Exact.f, spec_l1Exact.j0, spec_l1Exact.j1, spec_l1Exact.j2, exactV, this]
 ·refine W.steps 3 (fun k => by simp only [spec_l1Exact.f, spec_l1Exact.j0, spec_l1Exact.j1, spec_l1Exact.j2]; rfl) ?_
  refine W.bind (sBits (by omega)) ?_
  rintro _ rfl
  exact W.ret rfl
 ·refine W.steps 3 (fun k => by simp only [spec_l1Exact.f, spec_l1Exact.j0, spec_l1Exact.j1, spec_l1Exact.j2]; rfl) ?_
  refine W.bind (sBits (by omega)) ?_
  rintro _ rfl
  exact W.ret rfl
 ·refine W.steps 3 (fun k => by simp only [spec_l1Exact.f, spec_l1Exact.j0, spec_l1Exact.j1, spec_l1Exact.j2]; rfl) ?_
  refine W.bind (sBits (by omega)) ?_
  rintro _ rfl
  exact W.ret rfl
 ·have hb' := f2 (by omega)
  have hp := mul_bound2 ha ⟨Int.le_of_lt (pow_pos' b.toNat), pow31 hb'.2⟩
  refine W.steps 3 (fun k => by simp only [spec_l1Exact.f, spec_l1Exact.j0, spec_l1Exact.j1, spec_l1Exact.j2]; rfl) ?_
  refine W.bind (power_ok b hb'.1 (by omega)) ?_
  rintro _ rfl
  exact W.ret (by rw [wrap64_id (by omega) (by omega)]; simp [exactV])
 ·have hb' := f2 (by omega)
  have hq := pow_pos' b.toNat
  have hp := pow31 hb'.2
  have he := ediv_bound (p := 2 ^ b.toNat) ha hq
  have hm0 := Int.emod_nonneg a (show (2 : Int) ^ b.toNat ≠ 0 by omega)
  have hm1 := Int.emod_lt_of_pos a hq
  refine W.steps 3 (fun k => by simp only [spec_l1Exact.f, spec_l1Exact.j0, spec_l1Exact.j1, spec_l1Exact.j2]; rfl) ?_
  refine W.bind (power_ok b hb'.1 (by omega)) ?_
  rintro _ rfl
  refine W.bind (W.const (r := a / 2 ^ b.toNat) (by
   simp only [spec_l1Floor.f]
   rw [nsMod _ hq (by omega)]
   simp only [Option.bind_some]
   rw [if_neg (by omega), wrap64_id (n := a - a % 2 ^ b.toNat) (by omega) (by omega), floor_eq hq, wrap64_id (by omega) (by omega)]) rfl) ?_
  rintro _ rfl
  exact W.ret (by simp [exactV])
 ·refine st _ 3 fun k => ?_; simp [spec_l1Exact.f, spec_l1Exact.j0, exactV]; exact wrap64_id (by omega) (by omega)
 ·refine st _ 3 fun k => ?_; simp [spec_l1Exact.f, spec_l1Exact.j0, spec_l1Exact.j1, exactV]; exact wrap64_id (by omega) (by omega)
 ·have := mul_bound ha hb; refine st _ 3 fun k => ?_; simp [spec_l1Exact.f, spec_l1Exact.j0, spec_l1Exact.j1, spec_l1Exact.j2, exactV]; exact wrap64_id (by omega) (by omega)

theorem nsNumOk (v : Int) : spec_NumOk.f v = some (decide (-2147483648 ≤ v ∧ v ≤ 2147483647)) := by
 simp only [spec_NumOk.f, spec_l1In.f]
 by_cases h : v ≥ -2147483648 <;> simp [h]
theorem niNumOk (v : Int) : impl_NumOk.f v = some (decide (-2147483648 ≤ v ∧ v ≤ 2147483647)) := by
 simp only [impl_NumOk.f]
 by_cases h : v ≥ -2147483648 <;> simp [h]
theorem nsIn (v a b : Int) : spec_l1In.f v a b = some (decide (a ≤ v ∧ v ≤ b)) := by
 simp only [spec_l1In.f]
 by_cases h : v ≥ a <;> simp [h]
theorem iNumOp (v : Int) : impl_numOp.f v = some (decide (1 ≤ v ∧ v ≤ 13)) := by
 simp only [impl_numOp.f]
 by_cases h : v ≥ 1 <;> simp [h]
theorem iNumWrap (v : Int) : impl_NumWrap.f v = some (wrap32 v) := by
 simp only [impl_NumWrap.f]
 have := wrap32_ok v
 rw [wrap64_id (by omega) (by omega)]
def numDo (op a b : Int) : Int × Int :=
 if ¬ (1 ≤ op ∧ op ≤ 13) ∨ ¬ (-2147483648 ≤ a ∧ a ≤ 2147483647) ∨ ¬ (-2147483648 ≤ b ∧ b ≤ 2147483647) then (0, 0)
 else if (op = 4 ∨ op = 5) ∧ b = 0 then (0, 2)
 else if (op = 9 ∨ op = 10) ∧ ¬ (0 ≤ b ∧ b ≤ 31) then (0, 3)
 else if op ≥ 11 then (wrap32 (exactV op a b), 0)
 else if -2147483648 ≤ exactV op a b ∧ exactV op a b ≤ 2147483647 then (exactV op a b, 0) else (0, 1)
theorem exact_i64 {op a b : Int} (ha : -2147483648 ≤ a ∧ a ≤ 2147483647) (hb : -2147483648 ≤ b ∧ b ≤ 2147483647) (hf : Fit op b) : -9223372036854775808 ≤ exactV op a b ∧ exactV op a b ≤ 9223372036854775807 := by
 unfold exactV
 have h1 := mul_bound ha hb
 have h2 := tdiv_bound (b := b) ha
 have h3 : -2147483648 ≤ a.tmod b ∧ a.tmod b ≤ 2147483647 := by
  have h : (a.tmod b).natAbs ≤ a.natAbs := by rw [Int.natAbs_tmod]; exact Nat.mod_le _ _
  rcases Int.le_total 0 a with g | g
  ·have := Int.tmod_nonneg b g
   omega
  ·have := Int.tmod_nonneg b (show 0 ≤ -a by omega)
   rw [Int.neg_tmod] at this
   omega
 have h4 := s32_ok (and_lt (A := u32 a) (B := u32 b) (u32_lt a)); have h5 := s32_ok (or_lt (u32_lt a) (u32_lt b)); have h6 := s32_ok (xor_lt (u32_lt a) (u32_lt b))
 split
 ·omega
 split
 ·omega
 split
 ·omega
 split
 ·omega
 split
 ·omega
 split
 ·omega
 split
 ·omega
 split
 ·omega
 split
 ·rename_i h
  have := hf.2 (by omega)
  have := mul_bound2 ha ⟨Int.le_of_lt (pow_pos' b.toNat), pow31 this.2⟩
  omega
 split
 ·have := ediv_bound (p := 2 ^ b.toNat) ha (pow_pos' _)
  omega
 ·omega
theorem numDo_main {op a b : Int} (h : 1 ≤ op ∧ op ≤ 13) (ha : -2147483648 ≤ a ∧ a ≤ 2147483647) (hb : -2147483648 ≤ b ∧ b ≤ 2147483647) (hf : Fit op b) : numDo op a b = if op ≥ 11 then (wrap32 (exactV op a b), 0) else if -2147483648 ≤ exactV op a b ∧ exactV op a b ≤ 2147483647 then (exactV op a b, 0) else (0, 1) := by
 unfold numDo
 rw [if_neg (by omega), if_neg (fun hc => hf.1 hc.1 hc.2), if_neg (fun hc => hc.2 (hf.2 hc.1))]
theorem iNumDo_tail {op a b : Int} (h : 1 ≤ op ∧ op ≤ 13) (ha : -2147483648 ≤ a ∧ a ≤ 2147483647) (hb : -2147483648 ≤ b ∧ b ≤ 2147483647) (hf : Fit op b) : W (fun k => impl_NumDo.j3 k op a b) (· = numDo op a b) := by
 have hd : numDo op a b = if op ≥ 11 then (wrap32 (exactV op a b), 0) else if -2147483648 ≤ exactV op a b ∧ exactV op a b ≤ 2147483647 then (exactV op a b, 0) else (0, 1) := by
  unfold numDo
  rw [if_neg (by omega), if_neg (fun hc => hf.1 hc.1 hc.2), if_neg (fun hc => hc.2 (hf.2 hc.1))]
 rw [hd]
 refine W.step (fun k => by simp only [impl_NumDo.j3]; rfl) ?_
 refine W.bind (iExact h.1 h.2 ha hb hf) ?_
 rintro _ rfl
 have hw : ∀ c : Int, op ≥ 11 → W (fun k => impl_NumDo.j4 k (exactV op a b) true) (· = if op ≥ 11 then (wrap32 (exactV op a b), 0) else if -2147483648 ≤ exactV op a b ∧ exactV op a b ≤ 2147483647 then (exactV op a b, 0) else (0, 1)) := by
  intro c hop
  refine W.step (fun k => by simp only [impl_NumDo.j4, iNumWrap, Option.bind_some]; rfl) ?_
  exact W.pos (by trivial) (W.ret (by rw [if_pos hop]))
 by_cases h1 : op = 11
 ·refine W.pos h1 ?_
  rw [show (op == 11) = true by simpa using h1]; exact hw 0 (by omega)
 refine W.neg h1 ?_
 by_cases h2 : op = 12
 ·refine W.pos h2 ?_
  rw [show (op == 12) = true by simpa using h2]; exact hw 0 (by omega)
 refine W.neg h2 ?_
 by_cases h3 : op = 13
 ·rw [show (op == 13) = true by simpa using h3]; exact hw 0 (by omega)
 rw [show (op == 13) = false by simpa using h3]
 refine W.step (fun k => by simp only [impl_NumDo.j4, niNumOk, Option.bind_some]; rfl) ?_
 refine W.neg (by decide) ?_
 rw [if_neg (show ¬ op ≥ 11 by omega)]
 by_cases ho : -2147483648 ≤ exactV op a b ∧ exactV op a b ≤ 2147483647
 ·exact W.pos (by simpa using ho) (W.ret (by rw [if_pos ho]))
 ·exact W.neg (by simpa using ho) (W.ret (by rw [if_neg ho]))
theorem iNumDo (op a b : Int) : W (fun k => impl_NumDo.f k op a b) (· = numDo op a b) := by
 have bad : ∀ hc : (¬ (1 ≤ op ∧ op ≤ 13) ∨ ¬ (-2147483648 ≤ a ∧ a ≤ 2147483647) ∨ ¬ (-2147483648 ≤ b ∧ b ≤ 2147483647)), W (fun k => impl_NumDo.j0 k op a b true) (· = numDo op a b) := by
  intro hc
  refine W.step (fun k => by simp only [impl_NumDo.j0]; rfl) ?_
  exact W.pos (by trivial) (W.ret (by unfold numDo; rw [if_pos hc]))
 unfold impl_NumDo.f
 simp only [iNumOp, niNumOk, Option.bind_some]
 by_cases h : 1 ≤ op ∧ op ≤ 13
 ·refine W.pos (by simpa using h) ?_
  by_cases ha : -2147483648 ≤ a ∧ a ≤ 2147483647
  ·refine W.pos (by simpa using ha) ?_
   by_cases hb : -2147483648 ≤ b ∧ b ≤ 2147483647
   ·rw [show (!decide (-2147483648 ≤ b ∧ b ≤ 2147483647)) = false by rw [decide_eq_true hb]; rfl]
    refine W.step (fun k => by simp only [impl_NumDo.j0]; rfl) ?_
    refine W.neg (by decide) ?_
    have z1 : (op = 4 ∨ op = 5) → W (fun k => impl_NumDo.j1 k op a b op true) (· = numDo op a b) := by
     intro ho
     refine W.step (fun k => by simp only [impl_NumDo.j1]; rfl) ?_
     refine W.pos (by trivial) ?_
     by_cases hz : b = 0
     ·exact W.pos hz (W.ret (by unfold numDo; rw [if_neg (by omega), if_pos ⟨ho, hz⟩]))
     ·exact W.neg hz (iNumDo_tail h ha hb ⟨fun _ => hz, fun hc => by omega⟩)
    have z2 : (op = 9 ∨ op = 10) → W (fun k => impl_NumDo.j2 k op a b true) (· = numDo op a b) := by
     intro ho
     refine W.step (fun k => by simp only [impl_NumDo.j2]; rfl) ?_
     refine W.pos (by trivial) ?_
     by_cases h1 : b < 0
     ·exact W.pos h1 (W.ret (by unfold numDo; rw [if_neg (by omega), if_neg (by omega), if_pos ⟨ho, by omega⟩]))
     refine W.neg h1 ?_
     by_cases h2 : b > 31
     ·exact W.pos h2 (W.ret (by unfold numDo; rw [if_neg (by omega), if_neg (by omega), if_pos ⟨ho, by omega⟩]))
     ·exact W.neg h2 (iNumDo_tail h ha hb ⟨fun hc => by omega, fun _ => by omega⟩)
    have z3 : ¬ (op = 4 ∨ op = 5) → W (fun k => impl_NumDo.j1 k op a b op false) (· = numDo op a b) := by
     intro ho
     refine W.step (fun k => by simp only [impl_NumDo.j1]; rfl) ?_
     refine W.neg (by decide) ?_
     by_cases h9 : op = 9
     ·refine W.pos h9 ?_
      rw [show (op == 9) = true by simpa using h9]; exact z2 (.inl h9)
     refine W.neg h9 ?_
     by_cases h10 : op = 10
     ·rw [show (op == 10) = true by simpa using h10]; exact z2 (.inr h10)
     rw [show (op == 10) = false by simpa using h10]
     refine W.step (fun k => by simp only [impl_NumDo.j2]; rfl) ?_
     exact W.neg (by decide) (iNumDo_tail h ha hb ⟨fun hc => absurd hc ho, fun hc => by omega⟩)
    by_cases h4 : op = 4
    ·refine W.pos h4 ?_
     rw [show (op == 4) = true by simpa using h4]; exact z1 (.inl h4)
    refine W.neg h4 ?_
    by_cases h5 : op = 5
    ·rw [show (op == 5) = true by simpa using h5]; exact z1 (.inr h5)
    rw [show (op == 5) = false by simpa using h5]
    exact z3 (by omega)
   ·rw [show (!decide (-2147483648 ≤ b ∧ b ≤ 2147483647)) = true by rw [decide_eq_false hb]; rfl]
    exact bad (by omega)
  ·exact W.neg (by simpa using ha) (bad (by omega))
 ·exact W.neg (by simpa using h) (bad (by omega))
theorem sNumDo (op a b : Int) : W (fun k => spec_NumDo.f k op a b) (· = numDo op a b) := by
 have bad : ∀ hc : (¬ (1 ≤ op ∧ op ≤ 13) ∨ ¬ (-2147483648 ≤ a ∧ a ≤ 2147483647) ∨ ¬ (-2147483648 ≤ b ∧ b ≤ 2147483647)), W (fun k => spec_NumDo.j0 k op a b true) (· = numDo op a b) := by
  intro hc
  refine W.step (fun k => by simp only [spec_NumDo.j0]; rfl) ?_
  exact W.pos (by trivial) (W.ret (by unfold numDo; rw [if_pos hc]))
 unfold spec_NumDo.f
 simp only [nsIn, nsNumOk, Option.bind_some]
 by_cases h : 1 ≤ op ∧ op ≤ 13
 ·refine W.pos (by simpa using h) ?_
  by_cases ha : -2147483648 ≤ a ∧ a ≤ 2147483647
  ·refine W.pos (by simpa using ha) ?_
   by_cases hb : -2147483648 ≤ b ∧ b ≤ 2147483647
   ·rw [show (!decide (-2147483648 ≤ b ∧ b ≤ 2147483647)) = false by rw [decide_eq_true hb]; rfl]
    refine W.step (fun k => by simp only [spec_NumDo.j0]; rfl) ?_
    refine W.neg (by decide) ?_
    have z2 : ¬ ((op = 4 ∨ op = 5) ∧ b = 0) → ¬ ((op = 9 ∨ op = 10) ∧ ¬ (0 ≤ b ∧ b ≤ 31)) → W (fun k => spec_NumDo.j2 k op a b false) (· = numDo op a b) := by
     intro h1 h2
     have hf : Fit op b := ⟨fun hc hz => h1 ⟨hc, hz⟩, fun hc => by omega⟩
     have hi := exact_i64 (op := op) ha hb hf
     unfold numDo
     rw [if_neg (by omega), if_neg h1, if_neg h2]
     refine W.step (fun k => by simp only [spec_NumDo.j2, nsNumOk, Option.bind_some]; rfl) ?_
     refine W.neg (by decide) ?_
     refine W.bind (sExact h.1 h.2 ha hb hf) ?_
     rintro _ rfl
     rw [sNumWrap _ hi.1 hi.2]
     simp only [Option.bind_some]
     by_cases h11 : op ≥ 11
     ·exact W.pos h11 (W.ret (by rw [if_pos h11]))
     refine W.neg h11 ?_
     rw [if_neg h11]
     by_cases ho : -2147483648 ≤ exactV op a b ∧ exactV op a b ≤ 2147483647
     ·exact W.pos (by simpa using ho) (W.ret (by rw [if_pos ho]))
     ·exact W.neg (by simpa using ho) (W.ret (by rw [if_neg ho]))
    have z1 : ¬ ((op = 4 ∨ op = 5) ∧ b = 0) → W (fun k => spec_NumDo.j1 k op a b false) (· = numDo op a b) := by
     intro h1
     refine W.step (fun k => by simp only [spec_NumDo.j1, nsIn, Option.bind_some]; rfl) ?_
     refine W.neg (by decide) ?_
     have z3 : (op = 9 ∨ op = 10) → W (fun k => spec_NumDo.j2 k op a b (!decide (0 ≤ b ∧ b ≤ 31))) (· = numDo op a b) := by
      intro ho
      by_cases hs : 0 ≤ b ∧ b ≤ 31
      ·rw [show (!decide (0 ≤ b ∧ b ≤ 31)) = false by rw [decide_eq_true hs]; rfl]
       exact z2 h1 (by omega)
      ·rw [show (!decide (0 ≤ b ∧ b ≤ 31)) = true by rw [decide_eq_false hs]; rfl]
       refine W.step (fun k => by simp only [spec_NumDo.j2]; rfl) ?_
       exact W.pos (by trivial) (W.ret (by unfold numDo; rw [if_neg (by omega), if_neg h1, if_pos ⟨ho, hs⟩]))
     by_cases h9 : op = 9
     ·exact W.pos h9 (z3 (.inl h9))
     refine W.neg h9 ?_
     by_cases h10 : op = 10
     ·exact W.pos h10 (z3 (.inr h10))
     exact W.neg h10 (z2 h1 (by omega))
    have z0 : (op = 4 ∨ op = 5) → W (fun k => spec_NumDo.j1 k op a b (b == 0)) (· = numDo op a b) := by
     intro ho
     by_cases hz : b = 0
     ·rw [show (b == 0) = true by simpa using hz]
      refine W.step (fun k => by simp only [spec_NumDo.j1]; rfl) ?_
      exact W.pos (by trivial) (W.ret (by unfold numDo; rw [if_neg (by omega), if_pos ⟨ho, hz⟩]))
     ·rw [show (b == 0) = false by simpa using hz]
      exact z1 (by omega)
    by_cases h4 : op = 4
    ·exact W.pos h4 (z0 (.inl h4))
    refine W.neg h4 ?_
    by_cases h5 : op = 5
    ·exact W.pos h5 (z0 (.inr h5))
    exact W.neg h5 (z1 (by omega))
   ·rw [show (!decide (-2147483648 ≤ b ∧ b ≤ 2147483647)) = true by rw [decide_eq_false hb]; rfl]
    exact bad (by omega)
  ·exact W.neg (by simpa using ha) (bad (by omega))
 ·exact W.neg (by simpa using h) (bad (by omega))
theorem numDo_facts (op a b : Int) : (-2147483648 ≤ (numDo op a b).1 ∧ (numDo op a b).1 ≤ 2147483647) ∧ ((numDo op a b).2 = 0 ∨ (numDo op a b).1 = 0) ∧ (0 ≤ (numDo op a b).2 ∧ (numDo op a b).2 ≤ 3) ∧ (op ≥ 11 → (numDo op a b).2 = 0) := by
 unfold numDo
 have hw := wrap32_ok (exactV op a b)
 split
 ·simp
 split
 ·simp; omega
 split
 ·simp; omega
 split
 ·simp; omega
 split
 ·rename_i h; simp [h]
 ·simp; omega
theorem numDo_comm {op : Int} (a b : Int) (h : op = 1 ∨ op = 3 ∨ op = 8) : numDo op b a = numDo op a b := by
 have he : exactV op b a = exactV op a b := by
  rcases h with rfl | rfl | rfl
  ·simp only [exactV]; simp; omega
  ·simp only [exactV]; simp; exact Int.mul_comm ..
  ·simp only [exactV]; simp; rw [Nat.xor_comm]
 by_cases h1 : ¬ (1 ≤ op ∧ op ≤ 13) ∨ ¬ (-2147483648 ≤ a ∧ a ≤ 2147483647) ∨ ¬ (-2147483648 ≤ b ∧ b ≤ 2147483647)
 ·unfold numDo; rw [if_pos (by omega), if_pos h1]
 ·rw [numDo_main (by omega) (by omega) (by omega) ⟨fun h => by omega, fun h => by omega⟩, numDo_main (a := a) (b := b) (by omega) (by omega) (by omega) ⟨fun h => by omega, fun h => by omega⟩, he]

/-! ### ranges: whether they are as they must be -/
def okR (l h : Int) : Prop := (l = 1 ∧ h = 0) ∨ (-2147483648 ≤ l ∧ l ≤ h ∧ h ≤ 2147483647)
instance (l h : Int) : Decidable (okR l h) := by unfold okR; exact inferInstance
theorem sRangeOk (l h : Int) : spec_RangeOk.f l h = some (decide (okR l h)) := by
 simp only [spec_RangeOk.f, spec_l8None.f, sNumOk, Option.bind_some]
 by_cases h1 : l = 1 ∧ h = 0
 ·obtain ⟨rfl, rfl⟩ := h1; rfl
 ·have : (l == 1 && h == 0) = false := by simpa using h1
  rw [this]; simp only [Bool.false_eq_true, if_false, okR, okN]
  by_cases h2 : -2147483648 ≤ l ∧ l ≤ 2147483647
  ·by_cases h3 : -2147483648 ≤ h ∧ h ≤ 2147483647
   ·simp only [h2, h3, and_self, true_and, and_true, decide_true, if_true]; congr 1; apply decide_eq_decide.2; omega
   ·simp only [h2, h3, and_self, decide_true, decide_false, if_true, Bool.false_eq_true, if_false]; congr 1; symm; apply decide_eq_false; omega
  ·simp only [h2, decide_false, Bool.false_eq_true, if_false]; congr 1; symm; apply decide_eq_false; omega
theorem iRangeOk (l h : Int) : impl_RangeOk.f l h = some (decide (okR l h)) := by
 simp only [impl_RangeOk.f, impl_rangeNone.f, iNumOk, Option.bind_some]
 by_cases h1 : l = 1 ∧ h = 0
 ·obtain ⟨rfl, rfl⟩ := h1; rfl
 ·have : (l == 1 && h == 0) = false := by simpa using h1
  rw [this]; simp only [Bool.false_eq_true, if_false, okR, okN]
  by_cases h2 : -2147483648 ≤ l ∧ l ≤ 2147483647
  ·by_cases h3 : -2147483648 ≤ h ∧ h ≤ 2147483647
   ·simp only [h2, h3, and_self, true_and, and_true, decide_true, if_true]; congr 1; apply decide_eq_decide.2; omega
   ·simp only [h2, h3, and_self, decide_true, decide_false, if_true, Bool.false_eq_true, if_false]; congr 1; symm; apply decide_eq_false; omega
  ·simp only [h2, decide_false, Bool.false_eq_true, if_false]; congr 1; symm; apply decide_eq_false; omega

/-! ### ranges: cut, joined, met -/
def cut (l h : Int) : Int × Int := if mx l (-2147483648) > mn h 2147483647 then (1, 0) else (mx l (-2147483648), mn h 2147483647)
def isNone (l h : Int) : Prop := l = 1 ∧ h = 0
instance (l h : Int) : Decidable (isNone l h) := by unfold isNone; exact inferInstance
theorem okR_gt {l h : Int} (o : okR l h) : l > h ↔ isNone l h := by unfold okR at o; unfold isNone; omega
theorem bIsNone (l h : Int) : (l == 1 && h == 0) = decide (isNone l h) := by
 rw [Bool.eq_iff_iff, decide_eq_true_iff]; unfold isNone; simp

theorem sMin (a b : Int) : spec_l8Min.f a b = some (mn a b) := by unfold spec_l8Min.f mn; split <;> split <;> first | rfl | (congr 1; omega)
theorem sMax (a b : Int) : spec_l8Max.f a b = some (mx a b) := by unfold spec_l8Max.f mx; split <;> split <;> first | rfl | (congr 1; omega)

theorem sCut (l h : Int) : spec_l8Cut.f l h = some (cut l h) := by
 unfold spec_l8Cut.f cut
 simp only [sMin, sMax, spec_l8None.f, Option.bind_some]
 split <;> rfl
theorem iFrom (l h : Int) : impl_rangeFrom.f l h = some (cut l h) := by
 unfold impl_rangeFrom.f cut
 simp only [impl_rangeNone.f, Option.bind_some]
 split <;> rfl
theorem cut_ok (l h : Int) : (cut l h = (1, 0)) ∨ ((cut l h).1 ≤ (cut l h).2 ∧ -2147483648 ≤ (cut l h).1 ∧ (cut l h).2 ≤ 2147483647) := by
 unfold cut mx mn
 by_cases h1 : l < -2147483648 <;> by_cases h2 : 2147483647 < h <;> simp only [h1, h2, if_true, if_false] <;> split <;> first | (left; rfl) | (right; simp only; omega)
theorem cut_okR (l h : Int) : okR (cut l h).1 (cut l h).2 := by
 rcases cut_ok l h with e | e
 ·rw [e]; exact .inl ⟨rfl, rfl⟩
 ·exact .inr ⟨by omega, by omega, by omega⟩

def rmeet (l h l2 h2 : Int) : Int × Int := if ¬ okR l h ∨ ¬ okR l2 h2 ∨ isNone l h ∨ isNone l2 h2 then (1, 0) else cut (mx l l2) (mn h h2)
theorem sRangeMeet (l h l2 h2 : Int) : W (fun k => spec_RangeMeet.f k l h l2 h2) (· = rmeet l h l2 h2) := by
 unfold spec_RangeMeet.f
 simp only [sRangeOk, spec_l8None.f, Option.bind_some, bIsNone]
 have bad : ¬ okR l h ∨ ¬ okR l2 h2 ∨ isNone l h ∨ isNone l2 h2 → W (fun k => spec_RangeMeet.j0 k true l h l2 h2) (· = rmeet l h l2 h2) := by
  intro hb
  refine W.step (fun k => by simp only [spec_RangeMeet.j0, spec_l8None.f, Option.bind_some]; rfl) ?_
  exact W.pos (by trivial) (W.ret (by unfold rmeet; rw [if_pos hb]))
 refine W.dec (fun h1 => W.dec (fun h3 => W.dec (fun h4 => ?_) (fun h4 => ?_)) (fun h3 => bad (.inr (.inl h3)))) (fun h1 => bad (.inl h1))
 ·exact bad (.inr (.inr (.inl h4)))
 ·by_cases h5 : isNone l2 h2
  ·rw [decide_eq_true h5]; exact bad (.inr (.inr (.inr h5)))
  ·rw [decide_eq_false h5]
   refine W.step (fun k => by simp only [spec_RangeMeet.j0, spec_l8None.f, Option.bind_some, sMin, sMax, sCut]; rfl) ?_
   exact W.neg (by decide) (W.ret (by unfold rmeet; rw [if_neg (by simp [h1, h3, h4, h5])]))
theorem iRangeMeet (l h l2 h2 : Int) : W (fun k => impl_RangeMeet.f k l h l2 h2) (· = rmeet l h l2 h2) := by
 unfold impl_RangeMeet.f
 simp only [iRangeOk, impl_Range_empty.f, Option.bind_some]
 have bad : ¬ okR l h ∨ ¬ okR l2 h2 ∨ isNone l h ∨ isNone l2 h2 → W (fun k => impl_RangeMeet.j0 k true l h l2 h2) (· = rmeet l h l2 h2) := by
  intro hb
  refine W.step (fun k => by simp only [impl_RangeMeet.j0, impl_rangeNone.f, Option.bind_some]; rfl) ?_
  exact W.pos (by trivial) (W.ret (by unfold rmeet; rw [if_pos hb]))
 refine W.dec (fun h1 => W.dec (fun h3 => W.dec (fun h4 => ?_) (fun h4 => ?_)) (fun h3 => bad (.inr (.inl h3)))) (fun h1 => bad (.inl h1))
 ·exact bad (.inr (.inr (.inl ((okR_gt h1).1 h4))))
 ·by_cases h5 : l2 > h2
  ·rw [decide_eq_true h5]; exact bad (.inr (.inr (.inr ((okR_gt h3).1 h5))))
  ·rw [decide_eq_false h5]
   refine W.step (fun k => by simp only [impl_RangeMeet.j0, impl_rangeNone.f, Option.bind_some, iFrom]; rfl) ?_
   exact W.neg (by decide) (W.ret (by unfold rmeet; rw [if_neg (by rw [← okR_gt h1, ← okR_gt h3]; simp only [h1, h3, not_true, false_or]; omega)]))
theorem rmeet_ok (l h l2 h2 : Int) : okR (rmeet l h l2 h2).1 (rmeet l h l2 h2).2 := by
 unfold rmeet
 split
 ·exact .inl ⟨rfl, rfl⟩
 ·exact cut_okR _ _

def rjoin (l h l2 h2 : Int) : Int × Int := if ¬ okR l h ∨ ¬ okR l2 h2 then (1, 0) else if isNone l h then (l2, h2) else if isNone l2 h2 then (l, h) else (mn l l2, mx h h2)
theorem sRangeJoin (l h l2 h2 : Int) : W (fun k => spec_RangeJoin.f k l h l2 h2) (· = rjoin l h l2 h2) := by
 unfold spec_RangeJoin.f
 simp only [sRangeOk, Option.bind_some]
 have bad : ¬ okR l h ∨ ¬ okR l2 h2 → W (fun k => spec_RangeJoin.j0 k true l h l2 h2) (· = rjoin l h l2 h2) := by
  intro hb
  refine W.step (fun k => by simp only [spec_RangeJoin.j0, spec_l8None.f, Option.bind_some]; rfl) ?_
  (try refine W.pos (by trivial) ?_)
  exact W.ret (by unfold rjoin; rw [if_pos hb])
 refine W.dec (fun h1 => ?_) (fun h1 => bad (.inl h1))
 by_cases h3 : okR l2 h2
 ·rw [ndt h3]
  refine W.step (fun k => by simp only [spec_RangeJoin.j0, spec_l8None.f, Option.bind_some, sMin, sMax, bIsNone]; rfl) ?_
  unfold rjoin
  have hk : ¬ (¬ okR l h ∨ ¬ okR l2 h2) := by simp [h1, h3]
  rw [if_neg hk]
  (try refine W.neg (by decide) ?_)
  refine W.dec (fun h4 => W.ret (by rw [if_pos h4])) (fun h4 => ?_)
  rw [if_neg h4]
  exact W.dec (fun h5 => W.ret (by rw [if_pos h5])) (fun h5 => W.ret (by rw [if_neg h5]))
 ·rw [ndf h3]; exact bad (.inr h3)
theorem iRangeJoin (l h l2 h2 : Int) : W (fun k => impl_RangeJoin.f k l h l2 h2) (· = rjoin l h l2 h2) := by
 unfold impl_RangeJoin.f
 simp only [iRangeOk, Option.bind_some]
 have bad : ¬ okR l h ∨ ¬ okR l2 h2 → W (fun k => impl_RangeJoin.j0 k true l h l2 h2) (· = rjoin l h l2 h2) := by
  intro hb
  refine W.step (fun k => by simp only [impl_RangeJoin.j0, impl_rangeNone.f, Option.bind_some]; rfl) ?_
  (try refine W.pos (by trivial) ?_)
  exact W.ret (by unfold rjoin; rw [if_pos hb])
 refine W.dec (fun h1 => ?_) (fun h1 => bad (.inl h1))
 by_cases h3 : okR l2 h2
 ·rw [ndt h3]
  refine W.step (fun k => by simp only [impl_RangeJoin.j0, impl_rangeNone.f, impl_Range_empty.f, Option.bind_some]; rfl) ?_
  unfold rjoin
  have hk : ¬ (¬ okR l h ∨ ¬ okR l2 h2) := by simp [h1, h3]
  rw [if_neg hk]
  (try refine W.neg (by decide) ?_)
  refine W.dec (fun h4 => W.ret (by rw [if_pos ((okR_gt h1).1 h4)])) (fun h4 => ?_)
  rw [if_neg (fun hc => h4 ((okR_gt h1).2 hc))]
  exact W.dec (fun h5 => W.ret (by rw [if_pos ((okR_gt h3).1 h5)])) (fun h5 => W.ret (by rw [if_neg (fun hc => h5 ((okR_gt h3).2 hc))]))
 ·rw [ndf h3]; exact bad (.inr h3)
theorem rjoin_ok (l h l2 h2 : Int) : okR (rjoin l h l2 h2).1 (rjoin l h l2 h2).2 := by
 unfold rjoin
 split
 ·exact .inl ⟨rfl, rfl⟩
 rename_i hb
 have o1 : okR l h := Decidable.byContradiction fun h => hb (.inl h)
 have o2 : okR l2 h2 := Decidable.byContradiction fun h => hb (.inr h)
 split
 ·exact o2
 split
 ·exact o1
 ·rename_i n1 n2
  unfold okR at o1 o2 ⊢; unfold isNone at n1 n2; unfold mn mx
  right; simp only
  split <;> split <;> omega

theorem sRangeHas (l h v : Int) : spec_RangeHas.f l h v = some (decide (okR l h ∧ l ≤ v ∧ v ≤ h)) := by
 simp only [spec_RangeHas.f, spec_l1In.f, sRangeOk, Option.bind_some]
 by_cases h1 : okR l h
 ·by_cases h2 : l ≤ v
  ·simp [h1, h2]
  ·simp [h1, h2]
 ·simp [h1]
theorem iRangeHas (l h v : Int) : impl_RangeHas.f l h v = some (decide (okR l h ∧ l ≤ v ∧ v ≤ h)) := by
 simp only [impl_RangeHas.f, iRangeOk, Option.bind_some]
 by_cases h1 : okR l h
 ·by_cases h2 : l ≤ v
  ·simp [h1, h2]
  ·simp [h1, h2]
 ·simp [h1]

/-! ### rests -/
def okS (m t : Int) : Prop := (m = 0 ∧ okN t) ∨ (1 ≤ m ∧ m ≤ 65536 ∧ 0 ≤ t ∧ t < m)
instance (m t : Int) : Decidable (okS m t) := by unfold okS; exact inferInstance
theorem sIn (v a b : Int) : spec_l1In.f v a b = some (decide (a ≤ v ∧ v ≤ b)) := by
 simp only [spec_l1In.f]
 by_cases h : v ≥ a <;> simp [h]
theorem sRestOk (m t : Int) : spec_RestOk.f m t = some (decide (okS m t)) := by
 simp only [spec_RestOk.f, sNumOk, sIn, Option.bind_some]
 by_cases h0 : m = 0
 ·subst h0; rw [if_pos rfl]; congr 1; apply decide_eq_decide.2; unfold okS okN; omega
 ·rw [if_neg h0]
  by_cases h1 : 1 ≤ m ∧ m ≤ 65536
  ·rw [if_pos (decide_eq_true h1), wrap64_id (by omega) (by omega)]; congr 1; apply decide_eq_decide.2; unfold okS; omega
  ·rw [if_neg (by rw [decide_eq_true_iff]; exact h1)]; congr 1; symm; apply decide_eq_false; unfold okS; omega
theorem iRestOk (m t : Int) : impl_RestOk.f m t = some (decide (okS m t)) := by
 simp only [impl_RestOk.f, iNumOk, Option.bind_some]
 by_cases h0 : m = 0
 ·subst h0; rw [if_pos rfl]; congr 1; apply decide_eq_decide.2; unfold okS okN; omega
 ·rw [if_neg h0]
  split
  ·split
   ·split
    ·congr 1; apply decide_eq_decide.2; unfold okS; omega
    ·congr 1; symm; apply decide_eq_false; unfold okS; omega
   ·congr 1; symm; apply decide_eq_false; unfold okS; omega
  ·congr 1; symm; apply decide_eq_false; unfold okS; omega

theorem sMod {a : Int} (m : Int) (h0 : 0 < m) (h1 : m ≤ 4294967296) : spec_l1Mod.f a m = some (a % m) := by
 simp only [spec_l1Mod.f]
 have e := tmod_up (n := a) (m := m) h0
 have b := tmod_bounds (n := a) (m := m) h0
 rw [if_neg (by omega)]
 by_cases hn : a.tmod m < 0
 ·rw [if_pos hn] at e ⊢
  rw [wrap64_id (by omega) (by omega), e]
 ·rw [if_neg hn] at e ⊢
  rw [e]
theorem iMod {a : Int} (m : Int) (h0 : 0 < m) (h1 : m ≤ 4294967296) : impl_restMod.f a m = some (a % m) := by
 simp only [impl_restMod.f]
 have e := tmod_up (n := a) (m := m) h0
 have b := tmod_bounds (n := a) (m := m) h0
 rw [if_neg (by omega)]
 by_cases hn : a.tmod m < 0
 ·rw [if_pos hn] at e ⊢
  rw [wrap64_id (by omega) (by omega), e]
 ·rw [if_neg hn] at e ⊢
  rw [e]

theorem okS_pos {m t : Int} (h : okS m t) (h0 : m ≠ 0) : 1 ≤ m ∧ m ≤ 65536 ∧ 0 ≤ t ∧ t < m := by unfold okS at h; omega

/-! ### vals -/
def mkV (l h m t : Int) : Int × Int × Int × Int :=
 if ¬ okR l h ∨ ¬ okS m t ∨ isNone l h then (1, 0, 0, 0)
 else if m = 0 then (if l ≤ t ∧ t ≤ h then (t, t, 0, t) else (1, 0, 0, 0))
 else if l + (t - l) % m > h - (h - t) % m then (1, 0, 0, 0)
 else if l + (t - l) % m = h - (h - t) % m then (l + (t - l) % m, l + (t - l) % m, 0, l + (t - l) % m)
 else (l + (t - l) % m, h - (h - t) % m, m, t)
theorem sValMake (l h m t : Int) : W (fun k => spec_ValMake.f k l h m t) (· = mkV l h m t) := by
 unfold spec_ValMake.f
 simp only [sRangeOk, sRestOk, spec_l8None.f, Option.bind_some, bIsNone]
 have bad : ¬ okR l h ∨ ¬ okS m t ∨ isNone l h → W (fun k => spec_ValMake.j0 k true l h m t) (· = mkV l h m t) := by
  intro hb
  refine W.step (fun k => by simp only [spec_ValMake.j0, spec_l10None.f, Option.bind_some]; rfl) ?_
  (try refine W.pos (by trivial) ?_)
  exact W.ret (by unfold mkV; rw [if_pos hb])
 refine W.dec (fun h1 => W.dec (fun h2 => ?_) (fun h2 => bad (.inr (.inl h2)))) (fun h1 => bad (.inl h1))
 by_cases h3 : isNone l h
 ·rw [decide_eq_true h3]; exact bad (.inr (.inr h3))
 ·rw [decide_eq_false h3]
  have hk : ¬ (¬ okR l h ∨ ¬ okS m t ∨ isNone l h) := by simp [h1, h2, h3]
  unfold mkV
  rw [if_neg hk]
  refine W.step (fun k => by simp only [spec_ValMake.j0, spec_l10None.f, spec_l10One.f, sRangeHas, Option.bind_some]; rfl) ?_
  (try refine W.neg (by decide) ?_)
  refine W.ite (fun h4 => ?_) (fun h4 => ?_)
  ·rw [if_pos h4]
   refine W.dec (fun h5 => W.ret (by rw [if_pos h5.2])) (fun h5 => W.ret (by rw [if_neg (fun hc => h5 ⟨h1, hc⟩)]))
  ·rw [if_neg h4]
   have o := okS_pos h2 h4
   have r : -2147483648 ≤ l ∧ l ≤ h ∧ h ≤ 2147483647 := by unfold okR at h1; unfold isNone at h3; omega
   have e1 := Int.emod_nonneg (t - l) (show m ≠ 0 by omega); have e2 := Int.emod_lt_of_pos (t - l) (show 0 < m by omega)
   have e3 := Int.emod_nonneg (h - t) (show m ≠ 0 by omega); have e4 := Int.emod_lt_of_pos (h - t) (show 0 < m by omega)
   rw [wrap64_id (n := t - l) (by omega) (by omega), wrap64_id (n := h - t) (by omega) (by omega), sMod m (by omega) (by omega), sMod m (by omega) (by omega)]
   simp only [Option.bind_some]
   rw [wrap64_id (n := l + (t - l) % m) (by omega) (by omega), wrap64_id (n := h - (h - t) % m) (by omega) (by omega)]
   refine W.ite (fun h5 => W.ret (by rw [if_pos h5])) (fun h5 => ?_)
   rw [if_neg h5]
   exact W.ite (fun h6 => W.ret (by rw [if_pos h6])) (fun h6 => W.ret (by rw [if_neg h6]))
theorem iValMake (l h m t : Int) : W (fun k => impl_ValMake.f k l h m t) (· = mkV l h m t) := by
 unfold impl_ValMake.f
 simp only [iRangeOk, iRestOk, impl_Range_empty.f, Option.bind_some]
 have bad : ¬ okR l h ∨ ¬ okS m t ∨ isNone l h → W (fun k => impl_ValMake.j0 k true l h m t) (· = mkV l h m t) := by
  intro hb
  refine W.step (fun k => by simp only [impl_ValMake.j0, impl_valNone.f, Option.bind_some]; rfl) ?_
  (try refine W.pos (by trivial) ?_)
  exact W.ret (by unfold mkV; rw [if_pos hb])
 refine W.dec (fun h1 => W.dec (fun h2 => ?_) (fun h2 => bad (.inr (.inl h2)))) (fun h1 => bad (.inl h1))
 by_cases h3 : l > h
 ·rw [decide_eq_true h3]; exact bad (.inr (.inr ((okR_gt h1).1 h3)))
 ·rw [decide_eq_false h3]
  have h3' : ¬ isNone l h := fun hc => h3 ((okR_gt h1).2 hc)
  have hk : ¬ (¬ okR l h ∨ ¬ okS m t ∨ isNone l h) := by simp [h1, h2, h3']
  unfold mkV
  rw [if_neg hk]
  refine W.step (fun k => by simp only [impl_ValMake.j0, impl_valNone.f, impl_valOne.f, iRangeHas, Option.bind_some]; rfl) ?_
  (try refine W.neg (by decide) ?_)
  refine W.ite (fun h4 => ?_) (fun h4 => ?_)
  ·rw [if_pos h4]
   refine W.dec (fun h5 => W.ret (by rw [if_pos h5.2])) (fun h5 => W.ret (by rw [if_neg (fun hc => h5 ⟨h1, hc⟩)]))
  ·rw [if_neg h4]
   have o := okS_pos h2 h4
   have r : -2147483648 ≤ l ∧ l ≤ h ∧ h ≤ 2147483647 := by unfold okR at h1; unfold isNone at h3'; omega
   have e1 := Int.emod_nonneg (t - l) (show m ≠ 0 by omega); have e2 := Int.emod_lt_of_pos (t - l) (show 0 < m by omega)
   have e3 := Int.emod_nonneg (h - t) (show m ≠ 0 by omega); have e4 := Int.emod_lt_of_pos (h - t) (show 0 < m by omega)
   rw [wrap64_id (n := t - l) (by omega) (by omega), wrap64_id (n := h - t) (by omega) (by omega), iMod m (by omega) (by omega), iMod m (by omega) (by omega)]
   simp only [Option.bind_some]
   rw [wrap64_id (n := l + (t - l) % m) (by omega) (by omega), wrap64_id (n := h - (h - t) % m) (by omega) (by omega)]
   refine W.ite (fun h5 => W.ret (by rw [if_pos h5])) (fun h5 => ?_)
   rw [if_neg h5]
   exact W.ite (fun h6 => W.ret (by rw [if_pos h6])) (fun h6 => W.ret (by rw [if_neg h6]))

def isNV (l h m t : Int) : Prop := l = 1 ∧ h = 0 ∧ m = 0 ∧ t = 0
instance (l h m t : Int) : Decidable (isNV l h m t) := by unfold isNV; exact inferInstance
theorem bNV (l h m t : Int) : (l == 1 && (h == 0 && (m == 0 && (t == 0)))) = decide (isNV l h m t) := by
 rw [Bool.eq_iff_iff, decide_eq_true_iff]; unfold isNV; simp
def okV (l h m t : Int) : Prop := (l, h, m, t) = mkV l h m t
instance (l h m t : Int) : Decidable (okV l h m t) := by unfold okV; exact inferInstance
theorem bEq4 (l h m t : Int) (x : Int × Int × Int × Int) : (l == x.1 && (h == x.2.1 && (m == x.2.2.1 && (t == x.2.2.2)))) = decide ((l, h, m, t) = x) := by
 obtain ⟨a, b, c, d⟩ := x
 rw [Bool.eq_iff_iff, decide_eq_true_iff]; simp
theorem okV_none {l h m t : Int} (hn : isNV l h m t) : okV l h m t := by
 obtain ⟨rfl, rfl, rfl, rfl⟩ := hn
 unfold okV mkV
 rw [if_pos (.inr (.inr ⟨rfl, rfl⟩))]
theorem okV_some {l h m t : Int} (ho : okV l h m t) (hn : ¬ isNV l h m t) : okR l h ∧ okS m t ∧ ¬ isNone l h := by
 unfold okV at ho
 refine Decidable.byContradiction fun hc => hn ?_
 have hk : ¬ okR l h ∨ ¬ okS m t ∨ isNone l h := by
  by_cases h1 : okR l h
  ·by_cases h2 : okS m t
   ·by_cases h3 : isNone l h
    ·exact .inr (.inr h3)
    ·exact absurd ⟨h1, h2, h3⟩ hc
   ·exact .inr (.inl h2)
  ·exact .inl h1
 unfold mkV at ho
 rw [if_pos hk] at ho
 simp only [Prod.mk.injEq] at ho
 exact ho
theorem okV_okR {l h m t : Int} (ho : okV l h m t) : okR l h := by
 by_cases hn : isNV l h m t
 ·exact .inl ⟨hn.1, hn.2.1⟩
 ·exact (okV_some ho hn).1
theorem isNV_iff {l h m t : Int} (ho : okV l h m t) : isNV l h m t ↔ isNone l h := by
 constructor
 ·exact fun hn => ⟨hn.1, hn.2.1⟩
 ·exact fun hc => Decidable.byContradiction fun hn => (okV_some ho hn).2.2 hc
theorem iValOk (l h m t : Int) : W (fun k => impl_ValOk.f k l h m t) (· = decide (okV l h m t)) := by
 unfold impl_ValOk.f
 simp only [impl_Val_span.f, impl_Val_rest.f, Option.bind_some]
 refine W.bind (iValMake l h m t) ?_
 rintro _ rfl
 exact W.ret (by rw [bEq4]; rfl)
theorem sValOk (l h m t : Int) : W (fun k => spec_ValOk.f k l h m t) (· = decide (okV l h m t)) := by
 unfold spec_ValOk.f
 simp only [spec_l10None.f, spec_l10Range.f, spec_l10Rest.f, sRangeOk, sRestOk, Option.bind_some, bNV]
 refine W.dec (fun h1 => W.ret (by symm; exact decide_eq_true (okV_none h1))) (fun h1 => ?_)
 refine W.dec (fun h2 => W.dec (fun h3 => ?_) (fun h3 => W.ret ?_)) (fun h2 => W.ret ?_)
 ·refine W.bind (sValMake l h m t) ?_
  rintro _ rfl
  exact W.ret (by rw [bEq4]; rfl)
 ·symm; exact decide_eq_false fun ho => h3 (okV_some ho h1).2.1
 ·symm; exact decide_eq_false fun ho => h2 (okV_some ho h1).1

theorem iVal_none (l h m t : Int) : impl_Val_none.f l h m t = some (decide (isNV l h m t)) := by
 simp only [impl_Val_none.f, impl_valNone.f, Option.bind_some, bNV]

/-! ### greatest common divisors -/
theorem sGcd_loop (d : Nat) : ∀ a b : Int, 0 ≤ a → 0 ≤ b → b.natAbs ≤ d → W (fun k => spec_l9Gcd.l0 k a b) (· = (Int.gcd a b : Int)) := by
 induction d using Nat.strongRecOn with
 | _ d ih =>
  intro a b ha hb hd
  refine W.step (fun k => by simp only [spec_l9Gcd.l0]; rfl) ?_
  refine W.ite (fun h => W.ret ?_) (fun h => ?_)
  ·subst h; rw [Int.gcd_zero_right]; omega
  ·have hm := tmod_pos ha (n := b) (by omega)
   have := ih (a.tmod b).natAbs (by omega) b (a.tmod b) hb hm.1 (Nat.le_refl _)
   refine this.mono ?_
   rintro _ rfl
   unfold Int.gcd; rw [Int.natAbs_tmod, Nat.gcd_comm, ← Nat.gcd_rec, Nat.gcd_comm]
theorem sGcd (a b : Int) (ha : -9223372036854775807 ≤ a ∧ a ≤ 9223372036854775807) (hb : -9223372036854775807 ≤ b ∧ b ≤ 9223372036854775807) : W (fun k => spec_l9Gcd.f k a b) (· = (Int.gcd a b : Int)) := by
 have j1 : ∀ x y : Int, 0 ≤ x → 0 ≤ y → W (fun k => spec_l9Gcd.j1 k x y) (· = (Int.gcd x y : Int)) := by
  intro x y hx hy
  refine W.step (fun k => by simp only [spec_l9Gcd.j1]; rfl) ?_
  exact sGcd_loop _ x y hx hy (Nat.le_refl _)
 have j0 : ∀ x : Int, 0 ≤ x → W (fun k => spec_l9Gcd.j0 k x b) (· = (Int.gcd x b : Int)) := by
  intro x hx
  refine W.step (fun k => by simp only [spec_l9Gcd.j0]; rfl) ?_
  refine W.ite (fun h => ?_) (fun h => j1 x b hx (by omega))
  rw [wrap64_id (by omega) (by omega)]
  refine (j1 x (-b) hx (by omega)).mono ?_
  rintro _ rfl
  rw [Int.gcd_neg]
 unfold spec_l9Gcd.f
 refine W.ite (fun h => ?_) (fun h => j0 a (by omega))
 rw [wrap64_id (by omega) (by omega)]
 refine (j0 (-a) (by omega)).mono ?_
 rintro _ rfl
 rw [Int.neg_gcd]
/-- The greatest common divisor of some numbers, as the program goes through them. -/
def gl (g : Nat) (l : List Int) : Nat := l.foldl (fun g n => Int.gcd g n) g
theorem iGcd_in {xs : List Int} {len i : Int} {P : Int → Prop} (d : Nat) : ∀ g n : Int, n.natAbs ≤ d → i + 1 ≤ 9223372036854775807 → 0 ≤ i →
  (∀ g' : Int, g'.natAbs = Int.gcd g n → W (fun k => impl_restGcd.l0 k g' xs len (i + 1)) P) → W (fun k => impl_restGcd.l1 k g n xs len i) P := by
 induction d using Nat.strongRecOn with
 | _ d ih =>
  intro g n hd hi hi0 hk
  refine W.step (fun k => by simp only [impl_restGcd.l1]; rfl) ?_
  refine W.ite (fun h => ?_) (fun h => ?_)
  ·rw [wrap64_id (by omega) (by omega)]
   exact hk g (by subst h; rw [Int.gcd_zero_right])
  ·have hm : (g.tmod n).natAbs = g.natAbs % n.natAbs := Int.natAbs_tmod ..
   have hl : g.natAbs % n.natAbs < n.natAbs := Nat.mod_lt _ (by omega)
   refine ih (g.tmod n).natAbs (by omega) n (g.tmod n) (Nat.le_refl _) hi hi0 (fun g' hg => hk g' ?_)
   rw [hg]; unfold Int.gcd; rw [hm, Nat.gcd_comm, ← Nat.gcd_rec, Nat.gcd_comm]
theorem iGcd_loop {xs : List Int} (hx : xs.length ≤ 100) (hb : ∀ x ∈ xs, -9223372036854775807 ≤ x ∧ x ≤ 9223372036854775807) (d : Nat) : ∀ (i : Nat) (g : Int), i ≤ xs.length → xs.length - i = d → -9223372036854775807 ≤ g → g ≤ 9223372036854775807 →
  W (fun k => impl_restGcd.l0 k g xs (xs.length : Int) (i : Int)) (· = (gl g.natAbs (xs.drop i) : Int)) := by
 induction d with
 | zero =>
  intro i g hi hd g0 g1
  refine W.step (fun k => by simp only [impl_restGcd.l0]; rfl) ?_
  refine W.neg (by omega) ?_
  rw [List.drop_eq_nil_of_le (by omega)]
  refine W.ite (fun h => W.ret ?_) (fun h => W.ret ?_)
  ·rw [wrap64_id (by omega) (by omega)]; simp only [gl, List.foldl_nil]; omega
  ·simp only [gl, List.foldl_nil]; omega
 | succ d ih =>
  intro i g hi hd g0 g1
  have hlt : i < xs.length := by omega
  have hx0 := hb _ (List.getElem_mem hlt)
  have hr : rd xs (i : Int) = xs[i] := by simp [rd, List.getD_eq_getElem?_getD, List.getElem?_eq_getElem hlt]
  refine W.step (fun k => by simp only [impl_restGcd.l0]; rfl) ?_
  refine W.pos (by omega) (W.pos (by omega) (W.pos (by omega) ?_))
  rw [hr]
  refine iGcd_in _ g xs[i] (Nat.le_refl _) (by omega) (by omega) (fun g' hg => ?_)
  have hle : g'.natAbs ≤ 9223372036854775807 := by
   rw [hg]
   by_cases hz : xs[i] = 0
   ·rw [hz, Int.gcd_zero_right]; omega
   ·have := Nat.le_of_dvd (by omega) (show Int.gcd g xs[i] ∣ xs[i].natAbs from Nat.gcd_dvd_right _ _); omega
  have h := ih (i + 1) g' (by omega) (by omega) (by omega) (by omega)
  rw [show ((i + 1 : Nat) : Int) = (i : Int) + 1 by omega] at h
  refine h.mono ?_
  rintro _ rfl
  rw [List.drop_eq_getElem_cons hlt, hg]
  simp only [gl, List.foldl_cons]
  congr 2
theorem iGcd (xs : List Int) (hx : xs.length ≤ 100) (hb : ∀ x ∈ xs, -9223372036854775807 ≤ x ∧ x ≤ 9223372036854775807) : W (fun k => impl_restGcd.f k xs) (· = (gl 0 xs : Int)) := by
 unfold impl_restGcd.f
 exact iGcd_loop hx hb xs.length 0 0 (by omega) (by omega) (by omega) (by omega)
theorem gl2 (a b : Int) : gl 0 [a, b] = Int.gcd a b := by simp [gl, Int.gcd]
theorem gl3 (a b c : Int) : gl 0 [a, b, c] = Int.gcd (Int.gcd a b : Int) c := by simp [gl, Int.gcd]
theorem gcd_le {a b B : Int} (h0 : 0 ≤ B) (ha : -B ≤ a ∧ a ≤ B) (hb : -B ≤ b ∧ b ≤ B) : ((Int.gcd a b : Nat) : Int) ≤ B := by
 by_cases hz : a = 0
 ·subst hz; rw [Int.gcd_zero_left]; omega
 ·have := Nat.le_of_dvd (by omega) (show Int.gcd a b ∣ a.natAbs from Nat.gcd_dvd_left _ _); omega

/-- The rest of a number by a modulus from 0 on. -/
def mkS (n m : Int) : Int × Int := if m > 65536 then (((Int.gcd m 65536 : Nat) : Int), n % (Int.gcd m 65536 : Nat)) else if m = 0 then (0, n) else (m, n % m)
theorem gcd_small (m : Int) : 1 ≤ Int.gcd m 65536 ∧ Int.gcd m 65536 ≤ 65536 := by
 constructor
 ·exact Nat.gcd_pos_of_pos_right _ (by decide)
 ·exact Nat.le_of_dvd (by decide) (show Int.gcd m 65536 ∣ 65536 from Nat.gcd_dvd_right _ _)
theorem sMake (m n : Int) (h0 : 0 ≤ m) (h1 : m ≤ 9223372036854775807) : W (fun k => spec_l9Make.f k m n) (· = mkS n m) := by
 unfold spec_l9Make.f mkS
 have hg := gcd_small m
 refine W.ite (fun h => ?_) (fun h => ?_)
 ·rw [if_pos h]
  refine W.bind (sGcd m 65536 (by omega) (by omega)) ?_
  rintro _ rfl
  refine W.neg (by omega) ?_
  rw [sMod _ (by omega) (by omega)]
  exact W.ret rfl
 ·rw [if_neg h]
  refine W.ite (fun h2 => W.ret (by rw [if_pos h2])) (fun h2 => ?_)
  rw [if_neg h2, sMod _ (by omega) (by omega)]
  exact W.ret rfl
theorem iOf (m n : Int) (h0 : 0 ≤ m) (h1 : m ≤ 9223372036854775807) : W (fun k => impl_restOf.f k n m) (· = mkS n m) := by
 unfold impl_restOf.f mkS
 have hg := gcd_small m
 refine W.ite (fun h => ?_) (fun h => ?_)
 ·rw [if_pos h]
  refine W.bind (iGcd [m, 65536] (by simp) (by simp; omega)) ?_
  rintro _ rfl
  rw [gl2]
  refine W.neg (by omega) ?_
  rw [iMod _ (by omega) (by omega)]
  exact W.ret rfl
 ·rw [if_neg h]
  refine W.ite (fun h2 => W.ret (by rw [if_pos h2])) (fun h2 => ?_)
  rw [if_neg h2, iMod _ (by omega) (by omega)]
  exact W.ret rfl

/-! ### what an operator makes of two rests -/
def wOf (op : Int) : Int := if op ≥ 11 then 4294967296 else 0
def doS (op m t m2 t2 : Int) : Int × Int :=
 if ¬ (1 ≤ op ∧ op ≤ 13) ∨ ¬ okS m t ∨ ¬ okS m2 t2 then (1, 0)
 else if m = 0 ∧ m2 = 0 then (if (numDo op t t2).2 = 0 then (0, (numDo op t t2).1) else (1, 0))
 else if op = 1 ∨ op = 11 then mkS (t + t2) (Int.gcd (Int.gcd m m2 : Int) (wOf op) : Int)
 else if op = 2 ∨ op = 12 then mkS (t - t2) (Int.gcd (Int.gcd m m2 : Int) (wOf op) : Int)
 else if op = 3 ∨ op = 13 then (if (Int.gcd (Int.gcd (m * m2) (m * t2) : Int) (m2 * t) : Int) = 0 then (0, 0) else mkS (t * t2) (Int.gcd (Int.gcd (Int.gcd (m * m2) (m * t2) : Int) (m2 * t) : Int) (wOf op) : Int))
 else if op = 9 then (if m2 = 0 ∧ 0 ≤ t2 ∧ t2 ≤ 31 then mkS (t * 2 ^ t2.toNat) (m * 2 ^ t2.toNat) else (1, 0))
 else if op = 5 then (if (Int.gcd (Int.gcd m m2 : Int) t2 : Int) = 0 then (1, 0) else mkS t (Int.gcd (Int.gcd m m2 : Int) t2 : Int))
 else (1, 0)
theorem okS_range {m t : Int} (h : okS m t) : (0 ≤ m ∧ m ≤ 65536) ∧ (-2147483648 ≤ t ∧ t ≤ 2147483647) := by unfold okS okN at h; omega
theorem gcd_assoc' (a b c : Int) : Int.gcd a (Int.gcd b c : Int) = Int.gcd (Int.gcd a b : Int) c := by
 unfold Int.gcd; simp [Nat.gcd_assoc]
theorem iDo_1 {m t m2 t2 : Int} (o1 : okS m t) (o2 : okS m2 t2) : W (fun k => impl_RestDo.j1 k 1 false m t m2 t2) (· = mkS (t + t2) (Int.gcd (Int.gcd m m2 : Int) (wOf 1) : Int)) := by
 have r1 := okS_range o1; have r2 := okS_range o2
 have g1 := gcd_le (a := m) (b := m2) (B := 65536) (by omega) (by omega) (by omega)
 have g2 := gcd_le (a := (Int.gcd m m2 : Int)) (b := wOf 1) (B := 4294967296) (by omega) (by omega) (by simp [wOf])
 have hw : wOf 1 = 0 := by simp [wOf]
 rw [hw] at g2 ⊢
 refine W.steps 3 (fun k => by simp only [impl_RestDo.j1, impl_RestDo.j2, impl_RestDo.j3, impl_RestDo.j4, impl_RestDo.j5, impl_restAll.f, Option.bind_some, ↓reduceIte, Int.reduceEq, Int.reduceGE, Int.reduceBEq, Bool.false_eq_true, beq_self_eq_true]; rfl) ?_
 rw [wrap64_id (n := t + t2) (by omega) (by omega)]
 refine W.bind (iGcd [m, m2, 0] (by simp) (by simp; omega)) ?_
 rintro _ rfl
 rw [gl3]
 refine W.bind (iOf _ _ (by omega) (by omega)) ?_
 rintro _ rfl
 exact W.ret rfl
theorem iDo_11 {m t m2 t2 : Int} (o1 : okS m t) (o2 : okS m2 t2) : W (fun k => impl_RestDo.j1 k 11 false m t m2 t2) (· = mkS (t + t2) (Int.gcd (Int.gcd m m2 : Int) (wOf 11) : Int)) := by
 have r1 := okS_range o1; have r2 := okS_range o2
 have g1 := gcd_le (a := m) (b := m2) (B := 65536) (by omega) (by omega) (by omega)
 have g2 := gcd_le (a := (Int.gcd m m2 : Int)) (b := wOf 11) (B := 4294967296) (by omega) (by omega) (by simp [wOf])
 have hw : wOf 11 = 4294967296 := by simp [wOf]
 rw [hw] at g2 ⊢
 refine W.steps 3 (fun k => by simp only [impl_RestDo.j1, impl_RestDo.j2, impl_RestDo.j3, impl_RestDo.j4, impl_RestDo.j5, impl_restAll.f, Option.bind_some, ↓reduceIte, Int.reduceEq, Int.reduceGE, Int.reduceBEq, Bool.false_eq_true, beq_self_eq_true]; rfl) ?_
 rw [wrap64_id (n := t + t2) (by omega) (by omega)]
 refine W.bind (iGcd [m, m2, 4294967296] (by simp) (by simp; omega)) ?_
 rintro _ rfl
 rw [gl3]
 refine W.bind (iOf _ _ (by omega) (by omega)) ?_
 rintro _ rfl
 exact W.ret rfl
theorem iDo_2 {m t m2 t2 : Int} (o1 : okS m t) (o2 : okS m2 t2) : W (fun k => impl_RestDo.j1 k 2 false m t m2 t2) (· = mkS (t - t2) (Int.gcd (Int.gcd m m2 : Int) (wOf 2) : Int)) := by
 have r1 := okS_range o1; have r2 := okS_range o2
 have g1 := gcd_le (a := m) (b := m2) (B := 65536) (by omega) (by omega) (by omega)
 have g2 := gcd_le (a := (Int.gcd m m2 : Int)) (b := wOf 2) (B := 4294967296) (by omega) (by omega) (by simp [wOf])
 have hw : wOf 2 = 0 := by simp [wOf]
 rw [hw] at g2 ⊢
 refine W.steps 4 (fun k => by simp only [impl_RestDo.j1, impl_RestDo.j2, impl_RestDo.j3, impl_RestDo.j4, impl_RestDo.j5, impl_restAll.f, Option.bind_some, ↓reduceIte, Int.reduceEq, Int.reduceGE, Int.reduceBEq, Bool.false_eq_true, beq_self_eq_true]; rfl) ?_
 rw [wrap64_id (n := t - t2) (by omega) (by omega)]
 refine W.bind (iGcd [m, m2, 0] (by simp) (by simp; omega)) ?_
 rintro _ rfl
 rw [gl3]
 refine W.bind (iOf _ _ (by omega) (by omega)) ?_
 rintro _ rfl
 exact W.ret rfl
theorem iDo_12 {m t m2 t2 : Int} (o1 : okS m t) (o2 : okS m2 t2) : W (fun k => impl_RestDo.j1 k 12 false m t m2 t2) (· = mkS (t - t2) (Int.gcd (Int.gcd m m2 : Int) (wOf 12) : Int)) := by
 have r1 := okS_range o1; have r2 := okS_range o2
 have g1 := gcd_le (a := m) (b := m2) (B := 65536) (by omega) (by omega) (by omega)
 have g2 := gcd_le (a := (Int.gcd m m2 : Int)) (b := wOf 12) (B := 4294967296) (by omega) (by omega) (by simp [wOf])
 have hw : wOf 12 = 4294967296 := by simp [wOf]
 rw [hw] at g2 ⊢
 refine W.steps 4 (fun k => by simp only [impl_RestDo.j1, impl_RestDo.j2, impl_RestDo.j3, impl_RestDo.j4, impl_RestDo.j5, impl_restAll.f, Option.bind_some, ↓reduceIte, Int.reduceEq, Int.reduceGE, Int.reduceBEq, Bool.false_eq_true, beq_self_eq_true]; rfl) ?_
 rw [wrap64_id (n := t - t2) (by omega) (by omega)]
 refine W.bind (iGcd [m, m2, 4294967296] (by simp) (by simp; omega)) ?_
 rintro _ rfl
 rw [gl3]
 refine W.bind (iOf _ _ (by omega) (by omega)) ?_
 rintro _ rfl
 exact W.ret rfl
theorem iDo_3 {m t m2 t2 : Int} (o1 : okS m t) (o2 : okS m2 t2) : W (fun k => impl_RestDo.j1 k 3 false m t m2 t2) (· = if (Int.gcd (Int.gcd (m * m2) (m * t2) : Int) (m2 * t) : Int) = 0 then (0, 0) else mkS (t * t2) (Int.gcd (Int.gcd (Int.gcd (m * m2) (m * t2) : Int) (m2 * t) : Int) (wOf 3) : Int)) := by
 have r1 := okS_range o1; have r2 := okS_range o2
 have b1 := mul_bound (a := m) (b := m2) (by omega) (by omega); have b2 := mul_bound (a := m) (b := t2) (by omega) (by omega)
 have b3 := mul_bound (a := m2) (b := t) (by omega) (by omega); have b4 := mul_bound (a := t) (b := t2) (by omega) (by omega)
 have g1 := gcd_le (a := m * m2) (b := m * t2) (B := 4611686018427387904) (by omega) (by omega) (by omega)
 have g2 := gcd_le (a := (Int.gcd (m * m2) (m * t2) : Int)) (b := m2 * t) (B := 4611686018427387904) (by omega) (by omega) (by omega)
 have g3 := gcd_le (a := (Int.gcd (Int.gcd (m * m2) (m * t2) : Int) (m2 * t) : Int)) (b := wOf 3) (B := 4611686018427387904) (by omega) (by omega) (by simp [wOf])
 have hw : wOf 3 = 0 := by simp [wOf]
 rw [hw] at g3 ⊢
 refine W.steps 5 (fun k => by simp only [impl_RestDo.j1, impl_RestDo.j2, impl_RestDo.j3, impl_RestDo.j4, impl_RestDo.j5, impl_restAll.f, Option.bind_some, ↓reduceIte, Int.reduceEq, Int.reduceGE, Int.reduceBEq, Bool.false_eq_true, beq_self_eq_true]; rfl) ?_
 rw [wrap64_id (n := m * m2) (by omega) (by omega), wrap64_id (n := m * t2) (by omega) (by omega), wrap64_id (n := m2 * t) (by omega) (by omega)]
 refine W.bind (iGcd [m * m2, m * t2, m2 * t] (by simp) (by simp; omega)) ?_
 rintro _ rfl
 rw [gl3]
 refine W.ite (fun h => W.ret (by rw [if_pos h])) (fun h => ?_)
 rw [if_neg h]
 refine W.bind (iGcd [_, 0] (by simp) (by simp; omega)) ?_
 rintro _ rfl
 rw [gl2, wrap64_id (n := t * t2) (by omega) (by omega)]
 refine W.bind (iOf _ _ (by omega) (by omega)) ?_
 rintro _ rfl
 exact W.ret rfl
theorem iDo_13 {m t m2 t2 : Int} (o1 : okS m t) (o2 : okS m2 t2) : W (fun k => impl_RestDo.j1 k 13 false m t m2 t2) (· = if (Int.gcd (Int.gcd (m * m2) (m * t2) : Int) (m2 * t) : Int) = 0 then (0, 0) else mkS (t * t2) (Int.gcd (Int.gcd (Int.gcd (m * m2) (m * t2) : Int) (m2 * t) : Int) (wOf 13) : Int)) := by
 have r1 := okS_range o1; have r2 := okS_range o2
 have b1 := mul_bound (a := m) (b := m2) (by omega) (by omega); have b2 := mul_bound (a := m) (b := t2) (by omega) (by omega)
 have b3 := mul_bound (a := m2) (b := t) (by omega) (by omega); have b4 := mul_bound (a := t) (b := t2) (by omega) (by omega)
 have g1 := gcd_le (a := m * m2) (b := m * t2) (B := 4611686018427387904) (by omega) (by omega) (by omega)
 have g2 := gcd_le (a := (Int.gcd (m * m2) (m * t2) : Int)) (b := m2 * t) (B := 4611686018427387904) (by omega) (by omega) (by omega)
 have g3 := gcd_le (a := (Int.gcd (Int.gcd (m * m2) (m * t2) : Int) (m2 * t) : Int)) (b := wOf 13) (B := 4611686018427387904) (by omega) (by omega) (by simp [wOf])
 have hw : wOf 13 = 4294967296 := by simp [wOf]
 rw [hw] at g3 ⊢
 refine W.steps 5 (fun k => by simp only [impl_RestDo.j1, impl_RestDo.j2, impl_RestDo.j3, impl_RestDo.j4, impl_RestDo.j5, impl_restAll.f, Option.bind_some, ↓reduceIte, Int.reduceEq, Int.reduceGE, Int.reduceBEq, Bool.false_eq_true, beq_self_eq_true]; rfl) ?_
 rw [wrap64_id (n := m * m2) (by omega) (by omega), wrap64_id (n := m * t2) (by omega) (by omega), wrap64_id (n := m2 * t) (by omega) (by omega)]
 refine W.bind (iGcd [m * m2, m * t2, m2 * t] (by simp) (by simp; omega)) ?_
 rintro _ rfl
 rw [gl3]
 refine W.ite (fun h => W.ret (by rw [if_pos h])) (fun h => ?_)
 rw [if_neg h]
 refine W.bind (iGcd [_, 4294967296] (by simp) (by simp; omega)) ?_
 rintro _ rfl
 rw [gl2, wrap64_id (n := t * t2) (by omega) (by omega)]
 refine W.bind (iOf _ _ (by omega) (by omega)) ?_
 rintro _ rfl
 exact W.ret rfl
theorem iDo_5 {m t m2 t2 : Int} (o1 : okS m t) (o2 : okS m2 t2) : W (fun k => impl_RestDo.j1 k 5 false m t m2 t2) (· = if (Int.gcd (Int.gcd m m2 : Int) t2 : Int) = 0 then (1, 0) else mkS t (Int.gcd (Int.gcd m m2 : Int) t2 : Int)) := by
 have r1 := okS_range o1; have r2 := okS_range o2
 have g1 := gcd_le (a := m) (b := m2) (B := 65536) (by omega) (by omega) (by omega)
 have g2 := gcd_le (a := (Int.gcd m m2 : Int)) (b := t2) (B := 4294967296) (by omega) (by omega) (by omega)
 have g3 := gcd_le (a := m2) (b := t2) (B := 4294967296) (by omega) (by omega) (by omega)
 refine W.steps 5 (fun k => by simp only [impl_RestDo.j1, impl_RestDo.j2, impl_RestDo.j3, impl_RestDo.j4, impl_RestDo.j5, impl_restAll.f, Option.bind_some, ↓reduceIte, Int.reduceEq, Int.reduceGE, Int.reduceBEq, Bool.false_eq_true, beq_self_eq_true]; rfl) ?_
 refine W.bind (iGcd [m, m2, t2] (by simp) (by simp; omega)) ?_
 rintro _ rfl
 rw [gl3]
 refine W.ite (fun h => W.ret (by rw [if_pos h])) (fun h => ?_)
 rw [if_neg h]
 refine W.bind (iOf _ _ (by omega) (by omega)) ?_
 rintro _ rfl
 exact W.ret rfl
theorem iDo_9 {m t m2 t2 : Int} (o1 : okS m t) (o2 : okS m2 t2) : W (fun k => impl_RestDo.j1 k 9 false m t m2 t2) (· = if m2 = 0 ∧ 0 ≤ t2 ∧ t2 ≤ 31 then mkS (t * 2 ^ t2.toNat) (m * 2 ^ t2.toNat) else (1, 0)) := by
 have r1 := okS_range o1; have r2 := okS_range o2
 refine W.steps 5 (fun k => by simp only [impl_RestDo.j1, impl_RestDo.j2, impl_RestDo.j3, impl_RestDo.j4, impl_RestDo.j5, impl_restAll.f, Option.bind_some, ↓reduceIte, Int.reduceEq, Int.reduceGE, Int.reduceBEq, Bool.false_eq_true, beq_self_eq_true]; rfl) ?_
 have no : ¬ (m2 = 0 ∧ 0 ≤ t2 ∧ t2 ≤ 31) → W (fun k => impl_RestDo.j6 k false m t m2 t2) (· = if m2 = 0 ∧ 0 ≤ t2 ∧ t2 ≤ 31 then mkS (t * 2 ^ t2.toNat) (m * 2 ^ t2.toNat) else (1, 0)) := by
  intro hn
  refine W.step (fun k => by simp only [impl_RestDo.j6, impl_restAll.f, Option.bind_some, ↓reduceIte, Int.reduceEq, Int.reduceGE, Int.reduceBEq, Bool.false_eq_true, beq_self_eq_true]; rfl) ?_
  (try refine W.neg (by decide) ?_)
  exact W.ret (by rw [if_neg hn])
 refine W.ite (fun h1 => W.ite (fun h2 => ?_) (fun h2 => no (fun hc => h2 hc.2.1))) (fun h1 => no (fun hc => h1 hc.1))
 by_cases h3 : t2 ≤ 31
 ·rw [decide_eq_true h3, if_pos ⟨h1, h2, h3⟩]
  have hp := pow_pos' t2.toNat; have hq := pow31 h3
  have hu := u64_small (i := t2) (by omega) (by omega)
  have b1 := mul_bound2 (a := t) (b := 2 ^ t2.toNat) (by omega) (by omega); have b2 := mul_bound2 (a := m) (b := 2 ^ t2.toNat) (by omega) (by omega)
  have b3 : 0 ≤ m * 2 ^ t2.toNat := Int.mul_nonneg (by omega) (by omega)
  refine W.step (fun k => by simp only [impl_RestDo.j6]; rfl) ?_
  refine W.pos True.intro ?_
  rw [hu, shl_id (x := 1) (by omega) (by omega) (by omega) (by omega), Int.one_mul, wrap64_id (n := t * 2 ^ t2.toNat) (by omega) (by omega), wrap64_id (n := m * 2 ^ t2.toNat) (by omega) (by omega)]
  refine W.pos (by omega) ?_
  generalize t * 2 ^ t2.toNat = x1 at *
  generalize m * 2 ^ t2.toNat = x2 at *
  refine W.bind (iOf x2 x1 (by omega) (by omega)) ?_
  rintro _ rfl
  exact W.ret rfl
 ·rw [decide_eq_false h3]; exact no (fun hc => h3 hc.2.2)
theorem iRestDo (op m t m2 t2 : Int) : W (fun k => impl_RestDo.f k op m t m2 t2) (· = doS op m t m2 t2) := by
 have bad : ¬ (1 ≤ op ∧ op ≤ 13) ∨ ¬ okS m t ∨ ¬ okS m2 t2 → W (fun k => impl_RestDo.j0 k op true m t m2 t2) (· = doS op m t m2 t2) := by
  intro hb
  refine W.step (fun k => by simp only [impl_RestDo.j0, impl_restAll.f, Option.bind_some, ↓reduceIte, Int.reduceEq, Int.reduceGE, Int.reduceBEq, Bool.false_eq_true, beq_self_eq_true]; rfl) ?_
  (try refine W.pos True.intro ?_)
  exact W.ret (by unfold doS; rw [if_pos hb])
 unfold impl_RestDo.f
 simp only [iNumOp, iRestOk, Option.bind_some]
 refine W.dec (fun h1 => W.dec (fun h2 => ?_) (fun h2 => bad (.inr (.inl h2)))) (fun h1 => bad (.inl h1))
 by_cases h3 : okS m2 t2
 ·rw [ndt h3]
  unfold doS
  rw [if_neg (show ¬ (¬ (1 ≤ op ∧ op ≤ 13) ∨ ¬ okS m t ∨ ¬ okS m2 t2) from fun hc => hc.elim (fun x => x h1) (fun x => x.elim (fun y => y h2) (fun y => y h3)))]
  have main : ¬ (m = 0 ∧ m2 = 0) → W (fun k => impl_RestDo.j1 k op false m t m2 t2) (· = if m = 0 ∧ m2 = 0 then (if (numDo op t t2).2 = 0 then (0, (numDo op t t2).1) else (1, 0))
 else if op = 1 ∨ op = 11 then mkS (t + t2) (Int.gcd (Int.gcd m m2 : Int) (wOf op) : Int)
 else if op = 2 ∨ op = 12 then mkS (t - t2) (Int.gcd (Int.gcd m m2 : Int) (wOf op) : Int)
 else if op = 3 ∨ op = 13 then (if (Int.gcd (Int.gcd (m * m2) (m * t2) : Int) (m2 * t) : Int) = 0 then (0, 0) else mkS (t * t2) (Int.gcd (Int.gcd (Int.gcd (m * m2) (m * t2) : Int) (m2 * t) : Int) (wOf op) : Int))
 else if op = 9 then (if m2 = 0 ∧ 0 ≤ t2 ∧ t2 ≤ 31 then mkS (t * 2 ^ t2.toNat) (m * 2 ^ t2.toNat) else (1, 0))
 else if op = 5 then (if (Int.gcd (Int.gcd m m2 : Int) t2 : Int) = 0 then (1, 0) else mkS t (Int.gcd (Int.gcd m m2 : Int) t2 : Int))
 else (1, 0)) := by
   intro hz
   rw [if_neg hz]
   rcases ops h1.1 h1.2 with rfl | rfl | rfl | rfl | rfl | rfl | rfl | rfl | rfl | rfl | rfl | rfl | rfl
   ·exact iDo_1 h2 h3
   ·exact iDo_2 h2 h3
   ·exact iDo_3 h2 h3
   ·exact W.steps 5 (fun k => by simp only [impl_RestDo.j1, impl_RestDo.j2, impl_RestDo.j3, impl_RestDo.j4, impl_RestDo.j5, impl_restAll.f, Option.bind_some, ↓reduceIte, Int.reduceEq, Int.reduceGE, Int.reduceBEq, Bool.false_eq_true, beq_self_eq_true]; rfl) (W.ret rfl)
   ·exact iDo_5 h2 h3
   ·exact W.steps 5 (fun k => by simp only [impl_RestDo.j1, impl_RestDo.j2, impl_RestDo.j3, impl_RestDo.j4, impl_RestDo.j5, impl_restAll.f, Option.bind_some, ↓reduceIte, Int.reduceEq, Int.reduceGE, Int.reduceBEq, Bool.false_eq_true, beq_self_eq_true]; rfl) (W.ret rfl)
   ·exact W.steps 5 (fun k => by simp only [impl_RestDo.j1, impl_RestDo.j2, impl_RestDo.j3, impl_RestDo.j4, impl_RestDo.j5, impl_restAll.f, Option.bind_some, ↓reduceIte, Int.reduceEq, Int.reduceGE, Int.reduceBEq, Bool.false_eq_true, beq_self_eq_true]; rfl) (W.ret rfl)
   ·exact W.steps 5 (fun k => by simp only [impl_RestDo.j1, impl_RestDo.j2, impl_RestDo.j3, impl_RestDo.j4, impl_RestDo.j5, impl_restAll.f, Option.bind_some, ↓reduceIte, Int.reduceEq, Int.reduceGE, Int.reduceBEq, Bool.false_eq_true, beq_self_eq_true]; rfl) (W.ret rfl)
   ·exact iDo_9 h2 h3
   ·exact W.steps 5 (fun k => by simp only [impl_RestDo.j1, impl_RestDo.j2, impl_RestDo.j3, impl_RestDo.j4, impl_RestDo.j5, impl_restAll.f, Option.bind_some, ↓reduceIte, Int.reduceEq, Int.reduceGE, Int.reduceBEq, Bool.false_eq_true, beq_self_eq_true]; rfl) (W.ret rfl)
   ·exact iDo_11 h2 h3
   ·exact iDo_12 h2 h3
   ·exact iDo_13 h2 h3
  refine W.step (fun k => by simp only [impl_RestDo.j0]; rfl) ?_
  (try refine W.neg (by decide) ?_)
  refine W.ite (fun h4 => ?_) (fun h4 => main (fun hc => h4 hc.1))
  by_cases h5 : m2 = 0
  ·rw [show (m2 == 0) = true by simpa using h5, if_pos ⟨h4, h5⟩]
   refine W.step (fun k => by simp only [impl_RestDo.j1, impl_restAll.f, Option.bind_some, ↓reduceIte, Int.reduceEq, Int.reduceGE, Int.reduceBEq, Bool.false_eq_true, beq_self_eq_true]; rfl) ?_
   refine W.bind (iNumDo op t t2) ?_
   rintro _ rfl
   exact W.ite (fun h6 => W.ret (by rw [if_pos h6])) (fun h6 => W.ret (by rw [if_neg h6]))
  ·rw [show (m2 == 0) = false by simpa using h5]
   exact main (fun hc => h5 hc.2)
 ·rw [ndf h3]; exact bad (.inr (.inr h3))
theorem sDo_1 {m t m2 t2 : Int} (o1 : okS m t) (o2 : okS m2 t2) : W (fun k => spec_RestDo.j1 k 1 false m t m2 t2) (· = mkS (t + t2) (Int.gcd (Int.gcd m m2 : Int) (wOf 1) : Int)) := by
 have r1 := okS_range o1; have r2 := okS_range o2
 have g1 := gcd_le (a := m) (b := m2) (B := 65536) (by omega) (by omega) (by omega)
 have g2 := gcd_le (a := (Int.gcd m m2 : Int)) (b := wOf 1) (B := 4294967296) (by omega) (by omega) (by simp [wOf])
 have hw : wOf 1 = 0 := by simp [wOf]
 rw [hw] at g2 ⊢
 refine W.steps 2 (fun k => by simp only [spec_RestDo.j1, spec_RestDo.j2, spec_RestDo.j3, spec_RestDo.j4, spec_RestDo.j5, spec_l9Wraps.f, spec_l9All.f, sIn, Option.bind_some, ↓reduceIte, Int.reduceEq, Int.reduceGE, Int.reduceBEq, Bool.false_eq_true, beq_self_eq_true]; rfl) ?_
 rw [wrap64_id (n := t + t2) (by omega) (by omega)]
 refine W.bind (sGcd m m2 (by omega) (by omega)) ?_
 rintro _ rfl
 refine W.bind (sGcd _ _ (by omega) (by omega)) ?_
 rintro _ rfl
 refine W.bind (sMake _ _ (by omega) (by omega)) ?_
 rintro _ rfl
 exact W.ret rfl
theorem sDo_11 {m t m2 t2 : Int} (o1 : okS m t) (o2 : okS m2 t2) : W (fun k => spec_RestDo.j1 k 11 false m t m2 t2) (· = mkS (t + t2) (Int.gcd (Int.gcd m m2 : Int) (wOf 11) : Int)) := by
 have r1 := okS_range o1; have r2 := okS_range o2
 have g1 := gcd_le (a := m) (b := m2) (B := 65536) (by omega) (by omega) (by omega)
 have g2 := gcd_le (a := (Int.gcd m m2 : Int)) (b := wOf 11) (B := 4294967296) (by omega) (by omega) (by simp [wOf])
 have hw : wOf 11 = 4294967296 := by simp [wOf]
 rw [hw] at g2 ⊢
 refine W.steps 2 (fun k => by simp only [spec_RestDo.j1, spec_RestDo.j2, spec_RestDo.j3, spec_RestDo.j4, spec_RestDo.j5, spec_l9Wraps.f, spec_l9All.f, sIn, Option.bind_some, ↓reduceIte, Int.reduceEq, Int.reduceGE, Int.reduceBEq, Bool.false_eq_true, beq_self_eq_true]; rfl) ?_
 rw [wrap64_id (n := t + t2) (by omega) (by omega)]
 refine W.bind (sGcd m m2 (by omega) (by omega)) ?_
 rintro _ rfl
 refine W.bind (sGcd _ _ (by omega) (by omega)) ?_
 rintro _ rfl
 refine W.bind (sMake _ _ (by omega) (by omega)) ?_
 rintro _ rfl
 exact W.ret rfl
theorem sDo_2 {m t m2 t2 : Int} (o1 : okS m t) (o2 : okS m2 t2) : W (fun k => spec_RestDo.j1 k 2 false m t m2 t2) (· = mkS (t - t2) (Int.gcd (Int.gcd m m2 : Int) (wOf 2) : Int)) := by
 have r1 := okS_range o1; have r2 := okS_range o2
 have g1 := gcd_le (a := m) (b := m2) (B := 65536) (by omega) (by omega) (by omega)
 have g2 := gcd_le (a := (Int.gcd m m2 : Int)) (b := wOf 2) (B := 4294967296) (by omega) (by omega) (by simp [wOf])
 have hw : wOf 2 = 0 := by simp [wOf]
 rw [hw] at g2 ⊢
 refine W.steps 3 (fun k => by simp only [spec_RestDo.j1, spec_RestDo.j2, spec_RestDo.j3, spec_RestDo.j4, spec_RestDo.j5, spec_l9Wraps.f, spec_l9All.f, sIn, Option.bind_some, ↓reduceIte, Int.reduceEq, Int.reduceGE, Int.reduceBEq, Bool.false_eq_true, beq_self_eq_true]; rfl) ?_
 rw [wrap64_id (n := t - t2) (by omega) (by omega)]
 refine W.bind (sGcd m m2 (by omega) (by omega)) ?_
 rintro _ rfl
 refine W.bind (sGcd _ _ (by omega) (by omega)) ?_
 rintro _ rfl
 refine W.bind (sMake _ _ (by omega) (by omega)) ?_
 rintro _ rfl
 exact W.ret rfl
theorem sDo_12 {m t m2 t2 : Int} (o1 : okS m t) (o2 : okS m2 t2) : W (fun k => spec_RestDo.j1 k 12 false m t m2 t2) (· = mkS (t - t2) (Int.gcd (Int.gcd m m2 : Int) (wOf 12) : Int)) := by
 have r1 := okS_range o1; have r2 := okS_range o2
 have g1 := gcd_le (a := m) (b := m2) (B := 65536) (by omega) (by omega) (by omega)
 have g2 := gcd_le (a := (Int.gcd m m2 : Int)) (b := wOf 12) (B := 4294967296) (by omega) (by omega) (by simp [wOf])
 have hw : wOf 12 = 4294967296 := by simp [wOf]
 rw [hw] at g2 ⊢
 refine W.steps 3 (fun k => by simp only [spec_RestDo.j1, spec_RestDo.j2, spec_RestDo.j3, spec_RestDo.j4, spec_RestDo.j5, spec_l9Wraps.f, spec_l9All.f, sIn, Option.bind_some, ↓reduceIte, Int.reduceEq, Int.reduceGE, Int.reduceBEq, Bool.false_eq_true, beq_self_eq_true]; rfl) ?_
 rw [wrap64_id (n := t - t2) (by omega) (by omega)]
 refine W.bind (sGcd m m2 (by omega) (by omega)) ?_
 rintro _ rfl
 refine W.bind (sGcd _ _ (by omega) (by omega)) ?_
 rintro _ rfl
 refine W.bind (sMake _ _ (by omega) (by omega)) ?_
 rintro _ rfl
 exact W.ret rfl
theorem sDo_3 {m t m2 t2 : Int} (o1 : okS m t) (o2 : okS m2 t2) : W (fun k => spec_RestDo.j1 k 3 false m t m2 t2) (· = if (Int.gcd (Int.gcd (m * m2) (m * t2) : Int) (m2 * t) : Int) = 0 then (0, 0) else mkS (t * t2) (Int.gcd (Int.gcd (Int.gcd (m * m2) (m * t2) : Int) (m2 * t) : Int) (wOf 3) : Int)) := by
 have r1 := okS_range o1; have r2 := okS_range o2
 have b1 := mul_bound (a := m) (b := m2) (by omega) (by omega); have b2 := mul_bound (a := m) (b := t2) (by omega) (by omega)
 have b3 := mul_bound (a := m2) (b := t) (by omega) (by omega); have b4 := mul_bound (a := t) (b := t2) (by omega) (by omega)
 have g1 := gcd_le (a := m * m2) (b := m * t2) (B := 4611686018427387904) (by omega) (by omega) (by omega)
 have g2 := gcd_le (a := (Int.gcd (m * m2) (m * t2) : Int)) (b := m2 * t) (B := 4611686018427387904) (by omega) (by omega) (by omega)
 have g3 := gcd_le (a := (Int.gcd (Int.gcd (m * m2) (m * t2) : Int) (m2 * t) : Int)) (b := wOf 3) (B := 4611686018427387904) (by omega) (by omega) (by simp [wOf])
 have hw : wOf 3 = 0 := by simp [wOf]
 rw [hw] at g3 ⊢
 refine W.steps 5 (fun k => by simp only [spec_RestDo.j1, spec_RestDo.j2, spec_RestDo.j3, spec_RestDo.j4, spec_RestDo.j5, spec_l9Wraps.f, spec_l9All.f, sIn, Option.bind_some, ↓reduceIte, Int.reduceEq, Int.reduceGE, Int.reduceBEq, Bool.false_eq_true, beq_self_eq_true]; rfl) ?_
 rw [wrap64_id (n := m * m2) (by omega) (by omega), wrap64_id (n := m * t2) (by omega) (by omega), wrap64_id (n := m2 * t) (by omega) (by omega)]
 refine W.bind (sGcd _ _ (by omega) (by omega)) ?_
 rintro _ rfl
 refine W.bind (sGcd _ _ (by omega) (by omega)) ?_
 rintro _ rfl
 refine W.ite (fun h => W.ret (by rw [if_pos h])) (fun h => ?_)
 rw [if_neg h]
 refine W.bind (sGcd _ _ (by omega) (by omega)) ?_
 rintro _ rfl
 rw [wrap64_id (n := t * t2) (by omega) (by omega)]
 refine W.bind (sMake _ _ (by omega) (by omega)) ?_
 rintro _ rfl
 exact W.ret rfl
theorem sDo_13 {m t m2 t2 : Int} (o1 : okS m t) (o2 : okS m2 t2) : W (fun k => spec_RestDo.j1 k 13 false m t m2 t2) (· = if (Int.gcd (Int.gcd (m * m2) (m * t2) : Int) (m2 * t) : Int) = 0 then (0, 0) else mkS (t * t2) (Int.gcd (Int.gcd (Int.gcd (m * m2) (m * t2) : Int) (m2 * t) : Int) (wOf 13) : Int)) := by
 have r1 := okS_range o1; have r2 := okS_range o2
 have b1 := mul_bound (a := m) (b := m2) (by omega) (by omega); have b2 := mul_bound (a := m) (b := t2) (by omega) (by omega)
 have b3 := mul_bound (a := m2) (b := t) (by omega) (by omega); have b4 := mul_bound (a := t) (b := t2) (by omega) (by omega)
 have g1 := gcd_le (a := m * m2) (b := m * t2) (B := 4611686018427387904) (by omega) (by omega) (by omega)
 have g2 := gcd_le (a := (Int.gcd (m * m2) (m * t2) : Int)) (b := m2 * t) (B := 4611686018427387904) (by omega) (by omega) (by omega)
 have g3 := gcd_le (a := (Int.gcd (Int.gcd (m * m2) (m * t2) : Int) (m2 * t) : Int)) (b := wOf 13) (B := 4611686018427387904) (by omega) (by omega) (by simp [wOf])
 have hw : wOf 13 = 4294967296 := by simp [wOf]
 rw [hw] at g3 ⊢
 refine W.steps 5 (fun k => by simp only [spec_RestDo.j1, spec_RestDo.j2, spec_RestDo.j3, spec_RestDo.j4, spec_RestDo.j5, spec_l9Wraps.f, spec_l9All.f, sIn, Option.bind_some, ↓reduceIte, Int.reduceEq, Int.reduceGE, Int.reduceBEq, Bool.false_eq_true, beq_self_eq_true]; rfl) ?_
 rw [wrap64_id (n := m * m2) (by omega) (by omega), wrap64_id (n := m * t2) (by omega) (by omega), wrap64_id (n := m2 * t) (by omega) (by omega)]
 refine W.bind (sGcd _ _ (by omega) (by omega)) ?_
 rintro _ rfl
 refine W.bind (sGcd _ _ (by omega) (by omega)) ?_
 rintro _ rfl
 refine W.ite (fun h => W.ret (by rw [if_pos h])) (fun h => ?_)
 rw [if_neg h]
 refine W.bind (sGcd _ _ (by omega) (by omega)) ?_
 rintro _ rfl
 rw [wrap64_id (n := t * t2) (by omega) (by omega)]
 refine W.bind (sMake _ _ (by omega) (by omega)) ?_
 rintro _ rfl
 exact W.ret rfl
theorem sDo_5 {m t m2 t2 : Int} (o1 : okS m t) (o2 : okS m2 t2) : W (fun k => spec_RestDo.j1 k 5 false m t m2 t2) (· = if (Int.gcd (Int.gcd m m2 : Int) t2 : Int) = 0 then (1, 0) else mkS t (Int.gcd (Int.gcd m m2 : Int) t2 : Int)) := by
 have r1 := okS_range o1; have r2 := okS_range o2
 have g1 := gcd_le (a := m) (b := m2) (B := 65536) (by omega) (by omega) (by omega)
 have g2 := gcd_le (a := (Int.gcd m m2 : Int)) (b := t2) (B := 4294967296) (by omega) (by omega) (by omega)
 have g3 := gcd_le (a := m2) (b := t2) (B := 4294967296) (by omega) (by omega) (by omega)
 refine W.steps 5 (fun k => by simp only [spec_RestDo.j1, spec_RestDo.j2, spec_RestDo.j3, spec_RestDo.j4, spec_RestDo.j5, spec_l9Wraps.f, spec_l9All.f, sIn, Option.bind_some, ↓reduceIte, Int.reduceEq, Int.reduceGE, Int.reduceBEq, Bool.false_eq_true, beq_self_eq_true]; rfl) ?_
 refine W.bind (sGcd m2 t2 (by omega) (by omega)) ?_
 rintro _ rfl
 refine W.bind (sGcd m _ (by omega) (by omega)) ?_
 rintro _ rfl
 rw [gcd_assoc']
 refine W.ite (fun h => W.ret (by rw [if_pos h])) (fun h => ?_)
 rw [if_neg h]
 refine W.bind (sMake _ _ (by omega) (by omega)) ?_
 rintro _ rfl
 exact W.ret rfl
theorem sDo_9 {m t m2 t2 : Int} (o1 : okS m t) (o2 : okS m2 t2) : W (fun k => spec_RestDo.j1 k 9 false m t m2 t2) (· = if m2 = 0 ∧ 0 ≤ t2 ∧ t2 ≤ 31 then mkS (t * 2 ^ t2.toNat) (m * 2 ^ t2.toNat) else (1, 0)) := by
 have r1 := okS_range o1; have r2 := okS_range o2
 refine W.steps 3 (fun k => by simp only [spec_RestDo.j1, spec_RestDo.j2, spec_RestDo.j3, spec_l9Wraps.f, sIn, Option.bind_some, ↓reduceIte, Int.reduceEq, Int.reduceGE, Int.reduceBEq, Bool.false_eq_true, beq_self_eq_true]; rfl) ?_
 have no : ¬ (m2 = 0 ∧ 0 ≤ t2 ∧ t2 ≤ 31) → W (fun k => spec_RestDo.j4 k 9 0 false m t m2 t2) (· = if m2 = 0 ∧ 0 ≤ t2 ∧ t2 ≤ 31 then mkS (t * 2 ^ t2.toNat) (m * 2 ^ t2.toNat) else (1, 0)) := by
  intro hn
  refine W.steps 2 (fun k => by simp only [spec_RestDo.j4, spec_RestDo.j5, spec_l9All.f, Option.bind_some, ↓reduceIte, Int.reduceEq, Int.reduceGE, Int.reduceBEq, Bool.false_eq_true, beq_self_eq_true]; rfl) ?_
  exact W.ret (by rw [if_neg hn])
 refine W.ite (fun h1 => ?_) (fun h1 => no (fun hc => h1 hc.1))
 by_cases h3 : 0 ≤ t2 ∧ t2 ≤ 31
 ·rw [decide_eq_true h3, if_pos ⟨h1, h3⟩]
  have hp := pow_pos' t2.toNat; have hq := pow31 h3.2
  have b1 := mul_bound2 (a := t) (b := 2 ^ t2.toNat) (by omega) (by omega); have b2 := mul_bound2 (a := m) (b := 2 ^ t2.toNat) (by omega) (by omega)
  have b3 : 0 ≤ m * 2 ^ t2.toNat := Int.mul_nonneg (by omega) (by omega)
  refine W.step (fun k => by simp only [spec_RestDo.j4]; rfl) ?_
  refine W.pos True.intro ?_
  refine W.bind (power_ok t2 (by omega) (by omega)) ?_
  rintro _ rfl
  refine W.bind (power_ok t2 (by omega) (by omega)) ?_
  rintro _ rfl
  rw [wrap64_id (n := t * 2 ^ t2.toNat) (by omega) (by omega), wrap64_id (n := m * 2 ^ t2.toNat) (by omega) (by omega)]
  generalize t * 2 ^ t2.toNat = x1 at *
  generalize m * 2 ^ t2.toNat = x2 at *
  refine W.bind (sMake x2 x1 (by omega) (by omega)) ?_
  rintro _ rfl
  exact W.ret rfl
 ·rw [decide_eq_false h3]; exact no (fun hc => h3 hc.2)
theorem sRestDo (op m t m2 t2 : Int) : W (fun k => spec_RestDo.f k op m t m2 t2) (· = doS op m t m2 t2) := by
 have bad : ¬ (1 ≤ op ∧ op ≤ 13) ∨ ¬ okS m t ∨ ¬ okS m2 t2 → W (fun k => spec_RestDo.j0 k op true m t m2 t2) (· = doS op m t m2 t2) := by
  intro hb
  refine W.step (fun k => by simp only [spec_RestDo.j0, spec_l9All.f, Option.bind_some, ↓reduceIte, Int.reduceEq, Int.reduceGE, Int.reduceBEq, Bool.false_eq_true, beq_self_eq_true]; rfl) ?_
  (try refine W.pos True.intro ?_)
  exact W.ret (by unfold doS; rw [if_pos hb])
 unfold spec_RestDo.f
 simp only [sIn, sRestOk, Option.bind_some]
 refine W.dec (fun h1 => W.dec (fun h2 => ?_) (fun h2 => bad (.inr (.inl h2)))) (fun h1 => bad (.inl h1))
 by_cases h3 : okS m2 t2
 ·rw [ndt h3]
  unfold doS
  rw [if_neg (show ¬ (¬ (1 ≤ op ∧ op ≤ 13) ∨ ¬ okS m t ∨ ¬ okS m2 t2) from fun hc => hc.elim (fun x => x h1) (fun x => x.elim (fun y => y h2) (fun y => y h3)))]
  have main : ¬ (m = 0 ∧ m2 = 0) → W (fun k => spec_RestDo.j1 k op false m t m2 t2) (· = if m = 0 ∧ m2 = 0 then (if (numDo op t t2).2 = 0 then (0, (numDo op t t2).1) else (1, 0))
 else if op = 1 ∨ op = 11 then mkS (t + t2) (Int.gcd (Int.gcd m m2 : Int) (wOf op) : Int)
 else if op = 2 ∨ op = 12 then mkS (t - t2) (Int.gcd (Int.gcd m m2 : Int) (wOf op) : Int)
 else if op = 3 ∨ op = 13 then (if (Int.gcd (Int.gcd (m * m2) (m * t2) : Int) (m2 * t) : Int) = 0 then (0, 0) else mkS (t * t2) (Int.gcd (Int.gcd (Int.gcd (m * m2) (m * t2) : Int) (m2 * t) : Int) (wOf op) : Int))
 else if op = 9 then (if m2 = 0 ∧ 0 ≤ t2 ∧ t2 ≤ 31 then mkS (t * 2 ^ t2.toNat) (m * 2 ^ t2.toNat) else (1, 0))
 else if op = 5 then (if (Int.gcd (Int.gcd m m2 : Int) t2 : Int) = 0 then (1, 0) else mkS t (Int.gcd (Int.gcd m m2 : Int) t2 : Int))
 else (1, 0)) := by
   intro hz
   rw [if_neg hz]
   rcases ops h1.1 h1.2 with rfl | rfl | rfl | rfl | rfl | rfl | rfl | rfl | rfl | rfl | rfl | rfl | rfl
   ·exact sDo_1 h2 h3
   ·exact sDo_2 h2 h3
   ·exact sDo_3 h2 h3
   ·exact W.steps 5 (fun k => by simp only [spec_RestDo.j1, spec_RestDo.j2, spec_RestDo.j3, spec_RestDo.j4, spec_RestDo.j5, spec_l9Wraps.f, spec_l9All.f, sIn, Option.bind_some, ↓reduceIte, Int.reduceEq, Int.reduceGE, Int.reduceBEq, Bool.false_eq_true, beq_self_eq_true]; rfl) (W.ret rfl)
   ·exact sDo_5 h2 h3
   ·exact W.steps 5 (fun k => by simp only [spec_RestDo.j1, spec_RestDo.j2, spec_RestDo.j3, spec_RestDo.j4, spec_RestDo.j5, spec_l9Wraps.f, spec_l9All.f, sIn, Option.bind_some, ↓reduceIte, Int.reduceEq, Int.reduceGE, Int.reduceBEq, Bool.false_eq_true, beq_self_eq_true]; rfl) (W.ret rfl)
   ·exact W.steps 5 (fun k => by simp only [spec_RestDo.j1, spec_RestDo.j2, spec_RestDo.j3, spec_RestDo.j4, spec_RestDo.j5, spec_l9Wraps.f, spec_l9All.f, sIn, Option.bind_some, ↓reduceIte, Int.reduceEq, Int.reduceGE, Int.reduceBEq, Bool.false_eq_true, beq_self_eq_true]; rfl) (W.ret rfl)
   ·exact W.steps 5 (fun k => by simp only [spec_RestDo.j1, spec_RestDo.j2, spec_RestDo.j3, spec_RestDo.j4, spec_RestDo.j5, spec_l9Wraps.f, spec_l9All.f, sIn, Option.bind_some, ↓reduceIte, Int.reduceEq, Int.reduceGE, Int.reduceBEq, Bool.false_eq_true, beq_self_eq_true]; rfl) (W.ret rfl)
   ·exact sDo_9 h2 h3
   ·exact W.steps 5 (fun k => by simp only [spec_RestDo.j1, spec_RestDo.j2, spec_RestDo.j3, spec_RestDo.j4, spec_RestDo.j5, spec_l9Wraps.f, spec_l9All.f, sIn, Option.bind_some, ↓reduceIte, Int.reduceEq, Int.reduceGE, Int.reduceBEq, Bool.false_eq_true, beq_self_eq_true]; rfl) (W.ret rfl)
   ·exact sDo_11 h2 h3
   ·exact sDo_12 h2 h3
   ·exact sDo_13 h2 h3
  refine W.step (fun k => by simp only [spec_RestDo.j0]; rfl) ?_
  (try refine W.neg (by decide) ?_)
  refine W.ite (fun h4 => ?_) (fun h4 => main (fun hc => h4 hc.1))
  by_cases h5 : m2 = 0
  ·rw [show (m2 == 0) = true by simpa using h5, if_pos ⟨h4, h5⟩]
   refine W.step (fun k => by simp only [spec_RestDo.j1, spec_l9All.f, Option.bind_some, ↓reduceIte, Int.reduceEq, Int.reduceGE, Int.reduceBEq, Bool.false_eq_true, beq_self_eq_true]; rfl) ?_
   refine W.bind (sNumDo op t t2) ?_
   rintro _ rfl
   exact W.ite (fun h6 => W.ret (by rw [if_pos h6])) (fun h6 => W.ret (by rw [if_neg h6]))
  ·rw [show (m2 == 0) = false by simpa using h5]
   exact main (fun hc => h5 hc.2)
 ·rw [ndf h3]; exact bad (.inr (.inr h3))

/-! ### what an operator makes of two ranges: the program's -/
def N32 (a : Int) : Prop := -2147483648 ≤ a ∧ a ≤ 2147483647
instance (v : Int) : Decidable (N32 v) := by unfold N32; exact inferInstance
theorem mn_self (a : Int) : mn a a = a := by unfold mn; split <;> rfl
theorem mx_self (a : Int) : mx a a = a := by unfold mx; split <;> rfl
theorem mn_cases (a b : Int) : (mn a b = a ∧ a ≤ b) ∨ (mn a b = b ∧ b ≤ a) := by unfold mn; split <;> omega
theorem mx_cases (a b : Int) : (mx a b = a ∧ b ≤ a) ∨ (mx a b = b ∧ a ≤ b) := by unfold mx; split <;> omega
def crn (op l h l2 h2 : Int) : Int × Int :=
 (mn (mn (mn (exactV op l l2) (exactV op l h2)) (exactV op h l2)) (exactV op h h2), mx (mx (mx (exactV op l l2) (exactV op l h2)) (exactV op h l2)) (exactV op h h2))
theorem corners_loop (p q r s : Int) : W (fun k => impl_rangeCorners.l0 k p p 0 p q r s) (· = (mn (mn (mn p q) r) s, mx (mx (mx p q) r) s)) := by
 refine ⟨_, rfl, 5, fun k hk => ?_⟩
 obtain ⟨m, rfl⟩ : ∃ m, k = m + 5 := ⟨k - 5, by omega⟩
 simp [impl_rangeCorners.l0, wrap64, mn_self, mx_self]
theorem iCorners {op l h l2 h2 : Int} (ho : 1 ≤ op) (ho1 : op ≤ 13) (hl : N32 l) (hh : N32 h) (hl2 : N32 l2) (hh2 : N32 h2) (f1 : Fit op l2) (f2 : Fit op h2) : W (fun k => impl_rangeCorners.f k op l h l2 h2) (· = crn op l h l2 h2) := by
 unfold impl_rangeCorners.f
 refine W.bind (iExact ho ho1 hl hl2 f1) ?_
 rintro _ rfl
 refine W.bind (iExact ho ho1 hl hh2 f2) ?_
 rintro _ rfl
 refine W.bind (iExact ho ho1 hh hl2 f1) ?_
 rintro _ rfl
 refine W.bind (iExact ho ho1 hh hh2 f2) ?_
 rintro _ rfl
 exact corners_loop _ _ _ _
theorem crn_ends (op l h l2 h2 : Int) : ∃ x y x' y', (x = l ∨ x = h) ∧ (y = l2 ∨ y = h2) ∧ (x' = l ∨ x' = h) ∧ (y' = l2 ∨ y' = h2) ∧ (crn op l h l2 h2).1 = exactV op x y ∧ (crn op l h l2 h2).2 = exactV op x' y' := by
 have e1 : ∀ p q r s : Int, (mn (mn (mn p q) r) s = p) ∨ (mn (mn (mn p q) r) s = q) ∨ (mn (mn (mn p q) r) s = r) ∨ (mn (mn (mn p q) r) s = s) := by
  intro p q r s
  rcases mn_cases p q with ⟨a, _⟩ | ⟨a, _⟩ <;> rw [a] <;> rcases mn_cases _ r with ⟨b, _⟩ | ⟨b, _⟩ <;> rw [b] <;> rcases mn_cases _ s with ⟨c, _⟩ | ⟨c, _⟩ <;> rw [c] <;> simp
 have e2 : ∀ p q r s : Int, (mx (mx (mx p q) r) s = p) ∨ (mx (mx (mx p q) r) s = q) ∨ (mx (mx (mx p q) r) s = r) ∨ (mx (mx (mx p q) r) s = s) := by
  intro p q r s
  rcases mx_cases p q with ⟨a, _⟩ | ⟨a, _⟩ <;> rw [a] <;> rcases mx_cases _ r with ⟨b, _⟩ | ⟨b, _⟩ <;> rw [b] <;> rcases mx_cases _ s with ⟨c, _⟩ | ⟨c, _⟩ <;> rw [c] <;> simp
 have a := e1 (exactV op l l2) (exactV op l h2) (exactV op h l2) (exactV op h h2)
 have b := e2 (exactV op l l2) (exactV op l h2) (exactV op h l2) (exactV op h h2)
 unfold crn
 rcases a with a | a | a | a <;> rcases b with b | b | b | b <;> rw [a, b]
 ·exact ⟨l, l2, l, l2, .inl rfl, .inl rfl, .inl rfl, .inl rfl, rfl, rfl⟩
 ·exact ⟨l, l2, l, h2, .inl rfl, .inl rfl, .inl rfl, .inr rfl, rfl, rfl⟩
 ·exact ⟨l, l2, h, l2, .inl rfl, .inl rfl, .inr rfl, .inl rfl, rfl, rfl⟩
 ·exact ⟨l, l2, h, h2, .inl rfl, .inl rfl, .inr rfl, .inr rfl, rfl, rfl⟩
 ·exact ⟨l, h2, l, l2, .inl rfl, .inr rfl, .inl rfl, .inl rfl, rfl, rfl⟩
 ·exact ⟨l, h2, l, h2, .inl rfl, .inr rfl, .inl rfl, .inr rfl, rfl, rfl⟩
 ·exact ⟨l, h2, h, l2, .inl rfl, .inr rfl, .inr rfl, .inl rfl, rfl, rfl⟩
 ·exact ⟨l, h2, h, h2, .inl rfl, .inr rfl, .inr rfl, .inr rfl, rfl, rfl⟩
 ·exact ⟨h, l2, l, l2, .inr rfl, .inl rfl, .inl rfl, .inl rfl, rfl, rfl⟩
 ·exact ⟨h, l2, l, h2, .inr rfl, .inl rfl, .inl rfl, .inr rfl, rfl, rfl⟩
 ·exact ⟨h, l2, h, l2, .inr rfl, .inl rfl, .inr rfl, .inl rfl, rfl, rfl⟩
 ·exact ⟨h, l2, h, h2, .inr rfl, .inl rfl, .inr rfl, .inr rfl, rfl, rfl⟩
 ·exact ⟨h, h2, l, l2, .inr rfl, .inr rfl, .inl rfl, .inl rfl, rfl, rfl⟩
 ·exact ⟨h, h2, l, h2, .inr rfl, .inr rfl, .inl rfl, .inr rfl, rfl, rfl⟩
 ·exact ⟨h, h2, h, l2, .inr rfl, .inr rfl, .inr rfl, .inl rfl, rfl, rfl⟩
 ·exact ⟨h, h2, h, h2, .inr rfl, .inr rfl, .inr rfl, .inr rfl, rfl, rfl⟩
theorem mul_low {a b : Int} (ha : N32 a) (hb : N32 b) : -4611686016279904256 ≤ a * b := by
 unfold N32 at ha hb
 by_cases h1 : 0 ≤ a
 ·by_cases h2 : 0 ≤ b
  ·have := Int.mul_nonneg h1 h2; omega
  ·have h : (a * b).natAbs ≤ 2147483647 * 2147483648 := by
    rw [Int.natAbs_mul]; exact Nat.mul_le_mul (by omega) (by omega)
   omega
 ·by_cases h2 : 0 ≤ b
  ·have h : (a * b).natAbs ≤ 2147483648 * 2147483647 := by
    rw [Int.natAbs_mul]; exact Nat.mul_le_mul (by omega) (by omega)
   omega
  ·have h : 0 ≤ a * b := Int.mul_nonneg_of_nonpos_of_nonpos (by omega) (by omega)
   omega
/-- Operators that wrap make numbers that lie no further apart than a word holds. -/
theorem wrapV {op a b : Int} (h : 11 ≤ op) (h1 : op ≤ 13) (ha : N32 a) (hb : N32 b) : -4611686016279904256 ≤ exactV op a b ∧ exactV op a b ≤ 4611686018427387904 := by
 have hm := mul_low ha hb
 have hm2 := mul_bound ha hb
 unfold N32 at ha hb
 rcases (show op = 11 ∨ op = 12 ∨ op = 13 by omega) with rfl | rfl | rfl
 ·simp only [exactV]; omega
 ·simp only [exactV]; omega
 ·simp only [exactV]; omega
def rwrap (op l h l2 h2 : Int) : Int × Int :=
 if (crn op l h l2 h2).2 - (crn op l h l2 h2).1 > 4294967295 ∨ wrap32 (crn op l h l2 h2).1 > wrap32 (crn op l h l2 h2).2 then (-2147483648, 2147483647) else (wrap32 (crn op l h l2 h2).1, wrap32 (crn op l h l2 h2).2)
theorem cut_id {l h : Int} (hl : N32 l) (hh : N32 h) (h0 : l ≤ h) : cut l h = (l, h) := by
 unfold N32 at hl hh
 unfold cut mx mn
 split <;> split <;> (try split) <;> first | rfl | omega | (congr 1 <;> omega)
theorem iWrap {op l h l2 h2 : Int} (ho : 11 ≤ op) (ho1 : op ≤ 13) (hl : N32 l) (hh : N32 h) (hl2 : N32 l2) (hh2 : N32 h2) : W (fun k => impl_rangeWrap.f k op l h l2 h2) (· = rwrap op l h l2 h2) := by
 have ft : ∀ b, Fit op b := fun b => ⟨fun h => absurd h (by omega), fun h => absurd h (by omega)⟩
 obtain ⟨x, y, x', y', hx, hy, hx', hy', e1, e2⟩ := crn_ends op l h l2 h2
 have b1 := wrapV (a := x) (b := y) ho ho1 (by rcases hx with rfl | rfl <;> assumption) (by rcases hy with rfl | rfl <;> assumption)
 have b2 := wrapV (a := x') (b := y') ho ho1 (by rcases hx' with rfl | rfl <;> assumption) (by rcases hy' with rfl | rfl <;> assumption)
 rw [← e1] at b1
 rw [← e2] at b2
 unfold impl_rangeWrap.f
 refine W.bind (iCorners (by omega) ho1 hl hh hl2 hh2 (ft _) (ft _)) ?_
 rintro _ rfl
 have bad : ((crn op l h l2 h2).2 - (crn op l h l2 h2).1 > 4294967295 ∨ wrap32 (crn op l h l2 h2).1 > wrap32 (crn op l h l2 h2).2) → W (fun k => impl_rangeWrap.j0 k (crn op l h l2 h2).1 (crn op l h l2 h2).2 true) (· = rwrap op l h l2 h2) := by
  intro hb
  refine W.step (fun k => by simp only [impl_rangeWrap.j0, iFrom, Option.bind_some]; try rfl) ?_
  refine W.pos (by trivial) (W.ret ?_)
  unfold rwrap; rw [if_pos hb]; try rfl
 rw [wrap64_id (n := (crn op l h l2 h2).2 - (crn op l h l2 h2).1) (by omega) (by omega)]
 refine W.ite (fun h1 => bad (.inl h1)) (fun h1 => ?_)
 simp only [iNumWrap, Option.bind_some]
 by_cases h3 : wrap32 (crn op l h l2 h2).1 > wrap32 (crn op l h l2 h2).2
 ·rw [decide_eq_true h3]; exact bad (.inr h3)
 ·rw [decide_eq_false h3]
  refine W.step (fun k => by simp only [impl_rangeWrap.j0, iNumWrap, iFrom, Option.bind_some]; try rfl) ?_
  refine W.neg (by decide) (W.ret ?_)
  rw [cut_id (wrap32_ok _) (wrap32_ok _) (by omega)]
  unfold rwrap; rw [if_neg (by omega)]
/-! ### shifts -/
def offB (x y l h : Int) : Bool := !(x == l) || (!(y == h))
def rshift (op l h l2 h2 : Int) : Int × Int × List Int :=
 if (rmeet l2 h2 0 31).1 > (rmeet l2 h2 0 31).2 then (1, 0, if offB (rmeet l2 h2 0 31).1 (rmeet l2 h2 0 31).2 l2 h2 then [3] else [])
 else ((cut (crn op l h (rmeet l2 h2 0 31).1 (rmeet l2 h2 0 31).2).1 (crn op l h (rmeet l2 h2 0 31).1 (rmeet l2 h2 0 31).2).2).1, (cut (crn op l h (rmeet l2 h2 0 31).1 (rmeet l2 h2 0 31).2).1 (crn op l h (rmeet l2 h2 0 31).1 (rmeet l2 h2 0 31).2).2).2,
  (if (crn op l h (rmeet l2 h2 0 31).1 (rmeet l2 h2 0 31).2).1 < -2147483648 ∨ (crn op l h (rmeet l2 h2 0 31).1 (rmeet l2 h2 0 31).2).2 > 2147483647 then [1] else []) ++ (if offB (rmeet l2 h2 0 31).1 (rmeet l2 h2 0 31).2 l2 h2 then [3] else []))
theorem rmeet_in (l h : Int) {x y : Int} (o : okR x y) (n : ¬ isNone x y) : (rmeet l h x y).1 > (rmeet l h x y).2 ∨ (x ≤ (rmeet l h x y).1 ∧ (rmeet l h x y).1 ≤ (rmeet l h x y).2 ∧ (rmeet l h x y).2 ≤ y ∧ l ≤ (rmeet l h x y).1 ∧ (rmeet l h x y).2 ≤ h) := by
 unfold rmeet
 split
 ·left; simp
 ·unfold okR at o; unfold isNone at n
  unfold cut
  split
  ·left; simp
  ·right
   have h1 := mx_cases l x; have h2 := mx_cases (mx l x) (-2147483648); have h3 := mn_cases h y; have h4 := mn_cases (mn h y) 2147483647
   simp only
   omega
theorem iShift {op l h l2 h2 : Int} (ho : op = 9 ∨ op = 10) (hl : N32 l) (hh : N32 h) : W (fun k => impl_rangeShift.f k op l h l2 h2) (· = rshift op l h l2 h2) := by
 unfold impl_rangeShift.f
 refine W.bind (iRangeMeet l2 h2 0 31) ?_
 rintro _ rfl
 simp only [impl_rangeNone.f, impl_Range_empty.f, Option.bind_some]
 have hm := rmeet_in l2 h2 (x := 0) (y := 31) (by unfold okR; omega) (by unfold isNone; omega)
 generalize hc : rmeet l2 h2 0 31 = c at hm ⊢
 refine W.dec (fun h1 => ?_) (fun h1 => ?_)
 ·show W (fun k => if offB c.1 c.2 l2 h2 = true then _ else _) _
  unfold rshift
  rw [hc, if_pos h1]
  refine W.ite (fun h2 => ?_) (fun h2 => ?_)
  ·exact W.pos (by decide) (W.ret (by rw [if_pos h2]; try rfl))
  ·exact W.ret (by rw [if_neg h2])
 ·have hm' := hm.resolve_left h1
  have ft : ∀ b, 0 ≤ b → b ≤ 31 → Fit op b := fun b h0 h1 => ⟨fun h => absurd h (by omega), fun _ => ⟨h0, h1⟩⟩
  refine W.bind (iCorners (l := l) (h := h) (l2 := c.1) (h2 := c.2) (by omega) (by omega) hl hh (by unfold N32; omega) (by unfold N32; omega) (ft _ (by omega) (by omega)) (ft _ (by omega) (by omega))) ?_
  rintro _ rfl
  simp only [iFrom, Option.bind_some]
  have key : ∀ b : Bool, (b = true ↔ ((crn op l h c.1 c.2).1 < -2147483648 ∨ (crn op l h c.1 c.2).2 > 2147483647)) → W (fun k => impl_rangeShift.j0 k [] b l2 h2 c.1 c.2 (cut (crn op l h c.1 c.2).1 (crn op l h c.1 c.2).2).1 (cut (crn op l h c.1 c.2).1 (crn op l h c.1 c.2).2).2) (· = rshift op l h l2 h2) := by
   intro b hb
   refine W.step (fun k => by simp only [impl_rangeShift.j0, Option.bind_some, List.nil_append]; try rfl) ?_
   unfold rshift
   rw [hc, if_neg h1]
   refine W.ite (fun h2 => ?_) (fun h2 => ?_)
   ·rw [if_pos (hb.1 h2)]
    refine W.pos (by decide) ?_
    refine W.ite (fun h3 => ?_) (fun h3 => ?_)
    ·refine W.pos (by decide) (W.ret ?_)
     rw [if_pos (show offB c.1 c.2 l2 _ = true from h3)]; try rfl
    ·refine W.ret ?_
     rw [if_neg (show ¬ offB c.1 c.2 l2 _ = true from h3)]; try rfl
   ·rw [if_neg (fun hx => h2 (hb.2 hx))]
    refine W.ite (fun h3 => ?_) (fun h3 => ?_)
    ·refine W.pos (by decide) (W.ret ?_)
     rw [if_pos (show offB c.1 c.2 l2 _ = true from h3)]; try rfl
    ·refine W.ret ?_
     rw [if_neg (show ¬ offB c.1 c.2 l2 _ = true from h3)]; try rfl
  refine W.ite (fun h2 => key true ?_) (fun h2 => key _ ?_)
  ·simp [h2]
  ·simp only [decide_eq_true_iff]; omega
/-! ### quotients -/
def hasR (l h v : Int) : Bool := decide (okR l h ∧ l ≤ v ∧ v ≤ h)
def rdiv (l h l2 h2 : Int) : Int × Int × List Int :=
 let n := rmeet l2 h2 (-2147483648) (-1)
 let p := rmeet l2 h2 1 2147483647
 let c := if n.1 > n.2 then (if p.1 > p.2 then (1, 0) else cut (crn 4 l h p.1 p.2).1 (crn 4 l h p.1 p.2).2)
  else if p.1 > p.2 then cut (crn 4 l h n.1 n.2).1 (crn 4 l h n.1 n.2).2
  else cut (mn (crn 4 l h p.1 p.2).1 (crn 4 l h n.1 n.2).1) (mx (crn 4 l h p.1 p.2).2 (crn 4 l h n.1 n.2).2)
 (c.1, c.2, (if hasR l h (-2147483648) && hasR l2 h2 (-1) then [1] else []) ++ (if hasR l2 h2 0 then [2] else []))
theorem iDiv_tail (l h l2 h2 : Int) (c : Int × Int) : W (fun k => impl_rangeDiv.j1 k l h l2 h2 c.1 c.2) (· = (c.1, c.2, (if hasR l h (-2147483648) && hasR l2 h2 (-1) then [1] else []) ++ (if hasR l2 h2 0 then [2] else []))) := by
 have key : ∀ b : Bool, W (fun k => impl_rangeDiv.j2 k [] b l2 h2 c.1 c.2) (· = (c.1, c.2, (if b then [1] else []) ++ (if hasR l2 h2 0 then [2] else []))) := by
  intro b
  refine W.step (fun k => by simp only [impl_rangeDiv.j2, iRangeHas, Option.bind_some, List.nil_append]; try rfl) ?_
  refine W.ite (fun h1 => ?_) (fun h1 => ?_)
  ·rw [if_pos h1]
   refine W.pos (by decide) ?_
   refine W.ite (fun h2 => ?_) (fun h2 => ?_)
   ·exact W.pos (by decide) (W.ret (by rw [if_pos (show hasR l2 _ 0 = true from h2)]; try rfl))
   ·exact W.ret (by rw [if_neg (show ¬ hasR l2 _ 0 = true from h2)]; try rfl)
  ·rw [if_neg h1]
   refine W.ite (fun h2 => ?_) (fun h2 => ?_)
   ·exact W.pos (by decide) (W.ret (by rw [if_pos (show hasR l2 _ 0 = true from h2)]; try rfl))
   ·exact W.ret (by rw [if_neg (show ¬ hasR l2 _ 0 = true from h2)]; try rfl)
 refine W.step (fun k => by simp only [impl_rangeDiv.j1, iRangeHas, Option.bind_some]; try rfl) ?_
 refine W.ite (fun h1 => ?_) (fun h1 => ?_)
 ·have e : hasR l h (-2147483648) = true := h1
  have := key (hasR l2 h2 (-1))
  rw [e, Bool.true_and]
  exact this
 ·have e : hasR l h (-2147483648) = false := Bool.eq_false_iff.mpr h1
  have := key false
  rw [e, Bool.false_and]
  exact this
theorem iDiv {l h l2 h2 : Int} (hl : N32 l) (hh : N32 h) : W (fun k => impl_rangeDiv.f k l h l2 h2) (· = rdiv l h l2 h2) := by
 have hn := rmeet_in l2 h2 (x := -2147483648) (y := -1) (by unfold okR; omega) (by unfold isNone; omega)
 have hp := rmeet_in l2 h2 (x := 1) (y := 2147483647) (by unfold okR; omega) (by unfold isNone; omega)
 unfold impl_rangeDiv.f impl_rangeSides.f
 refine W.bind (Q := (· = ((rmeet l2 h2 (-2147483648) (-1)).1, (rmeet l2 h2 (-2147483648) (-1)).2, (rmeet l2 h2 1 2147483647).1, (rmeet l2 h2 1 2147483647).2))) ?_ ?_
 ·refine W.bind (iRangeMeet l2 h2 (-2147483648) (-1)) ?_
  rintro _ rfl
  refine W.bind (iRangeMeet l2 h2 1 2147483647) ?_
  rintro _ rfl
  exact W.ret rfl
 rintro _ rfl
 simp only
 unfold rdiv
 generalize rmeet l2 h2 (-2147483648) (-1) = n at hn ⊢
 generalize rmeet l2 h2 1 2147483647 = p at hp ⊢
 simp only
 have ft : ∀ b : Int, b ≠ 0 → Fit 4 b := fun b h0 => ⟨fun _ => h0, fun h => absurd h (by omega)⟩
 have fin : ∀ (x y : Int) (s : Bool) (i : Int), i = 2 → W (fun k => impl_rangeDiv.l0 k x y s i l h l2 h2 n.1 n.2 p.1 p.2) (· = ((if s then cut x y else (1, 0)).1, (if s then cut x y else (1, 0)).2, (if hasR l h (-2147483648) && hasR l2 h2 (-1) then [1] else []) ++ (if hasR l2 h2 0 then [2] else []))) := by
  rintro x y s _ rfl
  refine W.step (fun k => by simp only [impl_rangeDiv.l0, impl_rangeNone.f, iFrom, Option.bind_some]; try rfl) ?_
  refine W.neg (by decide) ?_
  refine W.ite (fun h1 => ?_) (fun h1 => ?_)
  ·rw [if_pos h1]; exact iDiv_tail l h l2 h2 _
  ·rw [if_neg h1]; exact iDiv_tail l h l2 h2 (1, 0)
 have two : ∀ (x y : Int) (s : Bool), W (fun k => impl_rangeDiv.l0 k x y s 1 l h l2 h2 n.1 n.2 p.1 p.2) (· = (let c := if p.1 > p.2 then (if s then cut x y else (1, 0)) else if s then cut (mn (crn 4 l h p.1 p.2).1 x) (mx (crn 4 l h p.1 p.2).2 y) else cut (crn 4 l h p.1 p.2).1 (crn 4 l h p.1 p.2).2
   (c.1, c.2, (if hasR l h (-2147483648) && hasR l2 h2 (-1) then [1] else []) ++ (if hasR l2 h2 0 then [2] else [])))) := by
  intro x y s
  refine W.step (fun k => by simp only [impl_rangeDiv.l0, impl_Range_empty.f, Option.bind_some]; try rfl) ?_
  refine W.pos (by decide) (W.neg (by decide) (W.pos True.intro ?_))
  refine W.dec (fun h1 => ?_) (fun h1 => ?_)
  ·rw [if_pos h1]; exact fin x y s _ (by unfold wrap64; omega)
  ·rw [if_neg h1]
   have hp' := hp.resolve_left h1
   refine W.bind (iCorners (l := l) (h := h) (l2 := p.1) (h2 := p.2) (by omega) (by omega) hl hh (by unfold N32; omega) (by unfold N32; omega) (ft _ (by omega)) (ft _ (by omega))) ?_
   rintro _ rfl
   refine W.ite (fun h2 => ?_) (fun h2 => ?_)
   ·have := fin (mn (crn 4 l h p.1 p.2).1 x) (mx (crn 4 l h p.1 p.2).2 y) true _ (show wrap64 (1 + 1) = 2 by unfold wrap64; omega)
    rw [if_pos h2]; exact this
   ·have := fin (crn 4 l h p.1 p.2).1 (crn 4 l h p.1 p.2).2 true _ (show wrap64 (1 + 1) = 2 by unfold wrap64; omega)
    rw [if_neg h2]; exact this
 refine W.step (fun k => by simp only [impl_rangeDiv.l0, impl_Range_empty.f, Option.bind_some]; try rfl) ?_
 refine W.pos (by decide) (W.pos True.intro ?_)
 have e1 : wrap64 (0 + 1) = 1 := by unfold wrap64; omega
 rw [e1]
 refine W.dec (fun h1 => ?_) (fun h1 => ?_)
 ·rw [if_pos h1]; exact two 0 0 false
 ·rw [if_neg h1]
  have hn' := hn.resolve_left h1
  refine W.bind (iCorners (l := l) (h := h) (l2 := n.1) (h2 := n.2) (by omega) (by omega) hl hh (by unfold N32; omega) (by unfold N32; omega) (ft _ (by omega)) (ft _ (by omega))) ?_
  rintro _ rfl
  refine W.neg (by decide) ?_
  exact two _ _ true

/-! ### rests -/
def remBy (l h x y : Int) : Int × Int := if l > -x ∧ h < x then (l, h) else (if l < 0 then mx l (1 - y) else 0, if h > 0 then mn h (y - 1) else 0)
theorem iRemBy {l h x y : Int} (hx : 0 ≤ x ∧ x ≤ 2147483648) (hy : 0 ≤ y ∧ y ≤ 2147483648) : W (fun k => impl_rangeRemBy.f k l h x y) (· = remBy l h x y) := by
 have e1 : wrap64 (-x) = -x := wrap64_id (by omega) (by omega)
 have e2 : wrap64 (1 - y) = 1 - y := wrap64_id (by omega) (by omega)
 have e3 : wrap64 (y - 1) = y - 1 := wrap64_id (by omega) (by omega)
 have key : ∀ b : Bool, (b = true ↔ (l > -x ∧ h < x)) → W (fun k => impl_rangeRemBy.j0 k y b l h) (· = remBy l h x y) := by
  intro b hb
  refine W.step (fun k => by simp only [impl_rangeRemBy.j0, e2, e3]; rfl) ?_
  refine W.ite (fun h1 => W.ret ?_) (fun h1 => ?_)
  ·unfold remBy; rw [if_pos (hb.1 h1)]
  ·have h1' : ¬ (l > -x ∧ h < x) := fun z => h1 (hb.2 z)
   unfold remBy
   rw [if_neg h1']
   refine W.ite (fun h2 => W.ite (fun h3 => W.ret ?_) (fun h3 => W.ret ?_)) (fun h2 => W.ite (fun h3 => W.ret ?_) (fun h3 => W.ret ?_))
   ·rw [if_pos h2, if_pos h3]
   ·rw [if_pos h2, if_neg h3]
   ·rw [if_neg h2, if_pos h3]
   ·rw [if_neg h2, if_neg h3]
 unfold impl_rangeRemBy.f
 rw [e1]
 refine W.ite (fun h1 => key _ ?_) (fun h1 => key _ ?_)
 ·simp [h1]
 ·simp only [Bool.false_eq_true, false_iff]; omega
def rrem (l h l2 h2 : Int) : Int × Int × List Int :=
 if l = h ∧ l2 = h2 ∧ l2 ≠ 0 then (l.tmod l2, l.tmod l2, []) else
 let n := rmeet l2 h2 (-2147483648) (-1)
 let p := rmeet l2 h2 1 2147483647
 let o := if n.1 > n.2 then (1, 0) else rjoin 1 0 (remBy l h (-n.2) (-n.1)).1 (remBy l h (-n.2) (-n.1)).2
 let q := if p.1 > p.2 then o else rjoin o.1 o.2 (remBy l h p.1 p.2).1 (remBy l h p.1 p.2).2
 (q.1, q.2, if hasR l2 h2 0 then [2] else [])
theorem iRem {l h l2 h2 : Int} : W (fun k => impl_rangeRem.f k l h l2 h2) (· = rrem l h l2 h2) := by
 have hn := rmeet_in l2 h2 (x := -2147483648) (y := -1) (by unfold okR; omega) (by unfold isNone; omega)
 have hp := rmeet_in l2 h2 (x := 1) (y := 2147483647) (by unfold okR; omega) (by unfold isNone; omega)
 have key : ∀ b : Bool, (b = true ↔ (l = h ∧ l2 = h2 ∧ l2 ≠ 0)) → W (fun k => impl_rangeRem.j0 k b l h l2 h2) (· = rrem l h l2 h2) := by
  intro b hb
  refine W.step (fun k => by simp only [impl_rangeRem.j0]; rfl) ?_
  refine W.ite (fun h1 => ?_) (fun h1 => ?_)
  ·refine W.neg (hb.1 h1).2.2 (W.ret ?_)
   unfold rrem; rw [if_pos (hb.1 h1)]
  have h1' : ¬ (l = h ∧ l2 = h2 ∧ l2 ≠ 0) := fun z => h1 (hb.2 z)
  unfold rrem impl_rangeSides.f
  rw [if_neg h1']
  refine W.bind (Q := (· = ((rmeet l2 h2 (-2147483648) (-1)).1, (rmeet l2 h2 (-2147483648) (-1)).2, (rmeet l2 h2 1 2147483647).1, (rmeet l2 h2 1 2147483647).2))) ?_ ?_
  ·refine W.bind (iRangeMeet l2 h2 (-2147483648) (-1)) ?_
   rintro _ rfl
   refine W.bind (iRangeMeet l2 h2 1 2147483647) ?_
   rintro _ rfl
   exact W.ret rfl
  rintro _ rfl
  simp only [impl_rangeNone.f, impl_Range_empty.f, Option.bind_some]
  generalize rmeet l2 h2 (-2147483648) (-1) = n at hn ⊢
  generalize rmeet l2 h2 1 2147483647 = p at hp ⊢
  have fin : ∀ o : Int × Int, W (fun k => impl_rangeRem.j1 k l h l2 h2 n.1 n.2 p.1 p.2 o.1 o.2) (· = ((if p.1 > p.2 then o else rjoin o.1 o.2 (remBy l h p.1 p.2).1 (remBy l h p.1 p.2).2).1, (if p.1 > p.2 then o else rjoin o.1 o.2 (remBy l h p.1 p.2).1 (remBy l h p.1 p.2).2).2, if hasR l2 h2 0 then [2] else [])) := by
   intro o
   refine W.step (fun k => by simp only [impl_rangeRem.j1, impl_Range_empty.f, iRangeHas, Option.bind_some]; rfl) ?_
   refine W.dec (fun h2 => ?_) (fun h2 => ?_)
   ·rw [if_pos h2]
    refine W.ite (fun h3 => W.ret ?_) (fun h3 => W.ret ?_)
    ·rw [if_pos (show hasR l2 _ 0 = true from h3)]
    ·rw [if_neg (show ¬ hasR l2 _ 0 = true from h3)]
   ·rw [if_neg h2]
    have hp' := hp.resolve_left h2
    refine W.bind (iRemBy (by omega) (by omega)) ?_
    rintro _ rfl
    refine W.bind (iRangeJoin _ _ _ _) ?_
    rintro _ rfl
    refine W.ite (fun h3 => W.ret ?_) (fun h3 => W.ret ?_)
    ·rw [if_pos (show hasR l2 _ 0 = true from h3)]
    ·rw [if_neg (show ¬ hasR l2 _ 0 = true from h3)]
  refine W.dec (fun h2 => ?_) (fun h2 => ?_)
  ·rw [if_pos h2]; exact fin (1, 0)
  ·rw [if_neg h2]
   have hn' := hn.resolve_left h2
   rw [wrap64_id (n := -n.2) (by omega) (by omega), wrap64_id (n := -n.1) (by omega) (by omega)]
   refine W.bind (iRemBy (by omega) (by omega)) ?_
   rintro _ rfl
   refine W.bind (iRangeJoin _ _ _ _) ?_
   rintro _ rfl
   exact fin _
 unfold impl_rangeRem.f
 simp only [impl_Range_single.f, Option.bind_some]
 refine W.ite (fun h1 => W.ite (fun h2 => key _ ?_) (fun h2 => key _ ?_)) (fun h1 => key _ ?_)
 ·simp only [beq_iff_eq] at h1 h2
  simp [h1, h2]
 ·simp only [beq_iff_eq] at h1 h2
  simp [h2]
 ·simp only [beq_iff_eq] at h1
  simp [h1]
/-! ### bits -/
def mskL : Nat → Int → Int → Int
 | 0, x, _ => x
 | n + 1, x, m => if x < m then mskL n (2 * x + 1) m else x
/-- The least number of ones, in bits, that is at least m. -/
def msk (m : Int) : Int := mskL 32 0 m
theorem msk_loop {g : Nat → Int → Int × Int → Prop} (m : Int) (hm : m ≤ 2147483647) (l h l2 h2 z : Int) (e : mx h h2 = m) : ∀ (n : Nat) (x : Int), 0 ≤ x → x + 1 = 2 ^ (32 - n) → n ≤ 32 → W (fun k => impl_rangeBits.l0 k l h l2 h2 z x) (· = (z, mskL n x m)) := by
 intro n
 induction n with
 | zero =>
  intro x h0 hx _
  refine W.step (fun k => by simp only [impl_rangeBits.l0]; rfl) ?_
  refine W.neg (by rw [e]; simp at hx; omega) (W.ret rfl)
 | succ n ih =>
  intro x h0 hx hn
  refine W.step (fun k => by simp only [impl_rangeBits.l0]; rfl) ?_
  rw [e]
  unfold mskL
  refine W.ite (fun h1 => ?_) (fun h1 => W.ret (by rw [if_neg h1]))
  rw [if_pos h1, wrap64_id (n := 2 * x) (by omega) (by omega), wrap64_id (n := 2 * x + 1) (by omega) (by omega)]
  refine ih (2 * x + 1) (by omega) ?_ (by omega)
  rw [show 32 - n = (32 - (n + 1)) + 1 by omega, Int.pow_succ]
  omega
def rbits (op l h l2 h2 : Int) : Int × Int :=
 if l = h ∧ l2 = h2 then (exactV op l l2, exactV op l l2) else
 if op = 6 then (if l ≥ 0 ∧ l2 ≥ 0 then (0, mn h h2) else if l ≥ 0 then (0, h) else if l2 ≥ 0 then (0, h2) else (-2147483648, 2147483647))
 else if l < 0 ∨ l2 < 0 then (-2147483648, 2147483647) else (if op = 7 then mx l l2 else 0, msk (mx h h2))
theorem iBits {op l h l2 h2 : Int} (ho : op = 6 ∨ op = 7 ∨ op = 8) (hl : N32 l) (hh : N32 h) (hl2 : N32 l2) (hh2 : N32 h2) : W (fun k => impl_rangeBits.f k op l h l2 h2) (· = rbits op l h l2 h2) := by
 have ft : Fit op l2 := ⟨fun h => absurd h (by omega), fun h => absurd h (by omega)⟩
 have hm : mx h h2 ≤ 2147483647 := by unfold N32 at hh hh2; unfold mx; split <;> omega
 have key : ∀ b : Bool, (b = true ↔ (l = h ∧ l2 = h2)) → W (fun k => impl_rangeBits.j0 k op b l h l2 h2) (· = rbits op l h l2 h2) := by
  intro b hb
  refine W.step (fun k => by simp only [impl_rangeBits.j0]; rfl) ?_
  refine W.ite (fun h1 => ?_) (fun h1 => ?_)
  ·refine W.bind (iExact (by omega) (by omega) hl hl2 ft) ?_
   rintro _ rfl
   exact W.ret (by unfold rbits; rw [if_pos (hb.1 h1)])
  have h1' : ¬ (l = h ∧ l2 = h2) := fun z => h1 (hb.2 z)
  unfold rbits
  rw [if_neg h1']
  refine W.ite (fun g2 => ?_) (fun g2 => ?_)
  ·rw [if_pos g2]
   have t : ∀ c : Bool, (c = true ↔ (l ≥ 0 ∧ l2 ≥ 0)) → W (fun k => impl_rangeBits.j1 k c l h l2 h2) (· = (if l ≥ 0 ∧ l2 ≥ 0 then (0, mn h h2) else if l ≥ 0 then (0, h) else if l2 ≥ 0 then (0, h2) else (-2147483648, 2147483647))) := by
    intro c hc
    refine W.step (fun k => by simp only [impl_rangeBits.j1]; rfl) ?_
    refine W.ite (fun h3 => W.ret (by rw [if_pos (hc.1 h3)])) (fun h3 => ?_)
    rw [if_neg (fun z => h3 (hc.2 z))]
    refine W.ite (fun h4 => W.ret (by rw [if_pos h4])) (fun h4 => ?_)
    rw [if_neg h4]
    exact W.ite (fun h5 => W.ret (by rw [if_pos h5])) (fun h5 => W.ret (by rw [if_neg h5]))
   refine W.ite (fun h3 => t _ ?_) (fun h3 => t _ ?_)
   ·simp [h3]
   ·simp [h3]
  ·rw [if_neg g2]
   have fin : ∀ z : Int, W (fun k => impl_rangeBits.j3 k l h l2 h2 z 0) (· = (z, msk (mx h h2))) := by
    intro z
    refine W.step (fun k => by simp only [impl_rangeBits.j3]; rfl) ?_
    exact msk_loop (g := fun _ _ _ => True) _ hm l h l2 h2 z rfl 32 0 (by omega) (by decide) (by omega)
   have t : ∀ c : Bool, (c = true ↔ (l < 0 ∨ l2 < 0)) → W (fun k => impl_rangeBits.j2 k op c l h l2 h2) (· = (if l < 0 ∨ l2 < 0 then (-2147483648, 2147483647) else (if op = 7 then mx l l2 else 0, msk (mx h h2)))) := by
    intro c hc
    refine W.step (fun k => by simp only [impl_rangeBits.j2]; rfl) ?_
    refine W.ite (fun h3 => W.ret (by rw [if_pos (hc.1 h3)])) (fun h3 => ?_)
    rw [if_neg (fun z => h3 (hc.2 z))]
    refine W.ite (fun h4 => ?_) (fun h4 => ?_)
    ·rw [if_pos h4]; exact fin _
    ·rw [if_neg h4]; exact fin _
   refine W.ite (fun h3 => t _ ?_) (fun h3 => t _ ?_)
   ·simp [h3]
   ·simp [h3]
 unfold impl_rangeBits.f
 simp only [impl_Range_single.f, Option.bind_some]
 refine W.ite (fun h1 => key _ ?_) (fun h1 => key _ ?_)
 ·simp only [beq_iff_eq] at h1
  simp [h1]
 ·simp only [beq_iff_eq] at h1
  simp [h1]
/-! ### all of them -/
def badDo (op l h l2 h2 : Int) : Prop := ¬ (1 ≤ op ∧ op ≤ 13) ∨ ¬ okR l h ∨ ¬ okR l2 h2 ∨ l > h ∨ l2 > h2
instance (op l h l2 h2 : Int) : Decidable (badDo op l h l2 h2) := by unfold badDo; exact inferInstance
def rangeDo (op l h l2 h2 : Int) : Int × Int × List Int :=
 if badDo op l h l2 h2 then (1, 0, []) else
 if op ≤ 3 then ((cut (crn op l h l2 h2).1 (crn op l h l2 h2).2).1, (cut (crn op l h l2 h2).1 (crn op l h l2 h2).2).2, if (crn op l h l2 h2).1 < -2147483648 ∨ (crn op l h l2 h2).2 > 2147483647 then [1] else [])
 else if op ≥ 11 then ((rwrap op l h l2 h2).1, (rwrap op l h l2 h2).2, [])
 else if op ≥ 9 then rshift op l h l2 h2
 else if op = 4 then rdiv l h l2 h2
 else if op = 5 then rrem l h l2 h2
 else ((rbits op l h l2 h2).1, (rbits op l h l2 h2).2, [])
theorem okR_N32 {l h : Int} (o : okR l h) : N32 l ∧ N32 h := by unfold okR at o; unfold N32; omega
theorem iRangeDo (op l h l2 h2 : Int) : W (fun k => impl_RangeDo.f k op l h l2 h2) (· = rangeDo op l h l2 h2) := by
 have bad : badDo op l h l2 h2 → W (fun k => impl_RangeDo.j0 k op true l h l2 h2) (· = rangeDo op l h l2 h2) := by
  intro hb
  refine W.step (fun k => by simp only [impl_RangeDo.j0, impl_rangeNone.f, Option.bind_some]; rfl) ?_
  refine W.pos (by trivial) (W.ret ?_)
  unfold rangeDo; rw [if_pos hb]
 have good : ¬ badDo op l h l2 h2 → W (fun k => impl_RangeDo.j0 k op false l h l2 h2) (· = rangeDo op l h l2 h2) := by
  intro hb
  have hb0 := hb
  unfold badDo at hb
  have ho : 1 ≤ op ∧ op ≤ 13 := by omega
  have o1 : okR l h := Decidable.byContradiction fun z => hb (.inr (.inl z))
  have o2 : okR l2 h2 := Decidable.byContradiction fun z => hb (.inr (.inr (.inl z)))
  obtain ⟨hl, hh⟩ := okR_N32 o1
  obtain ⟨hl2, hh2⟩ := okR_N32 o2
  unfold rangeDo
  rw [if_neg hb0]
  refine W.step (fun k => by simp only [impl_RangeDo.j0]; rfl) ?_
  refine W.neg (by decide) ?_
  have t4 : ∀ c : Bool, (c = true ↔ (op = 9 ∨ op = 10)) → ¬ op ≤ 3 → ¬ op ≥ 11 → W (fun k => impl_RangeDo.j4 k op op c l h l2 h2) (· = if op ≥ 9 then rshift op l h l2 h2 else if op = 4 then rdiv l h l2 h2 else if op = 5 then rrem l h l2 h2 else ((rbits op l h l2 h2).1, (rbits op l h l2 h2).2, [])) := by
   intro c hc n1 n2
   refine W.step (fun k => by simp only [impl_RangeDo.j4]; rfl) ?_
   refine W.ite (fun h1 => ?_) (fun h1 => ?_)
   ·have := hc.1 h1
    rw [if_pos (by omega)]
    refine W.bind (iShift this hl hh) ?_
    rintro _ rfl
    exact W.ret rfl
   ·have : ¬ (op = 9 ∨ op = 10) := fun z => h1 (hc.2 z)
    rw [if_neg (by omega)]
    refine W.ite (fun h2 => ?_) (fun h2 => ?_)
    ·rw [if_pos h2]
     refine W.bind (iDiv hl hh) ?_
     rintro _ rfl
     exact W.ret rfl
    rw [if_neg h2]
    refine W.ite (fun h3 => ?_) (fun h3 => ?_)
    ·rw [if_pos h3]
     refine W.bind iRem ?_
     rintro _ rfl
     exact W.ret rfl
    rw [if_neg h3]
    refine W.bind (iBits (by omega) hl hh hl2 hh2) ?_
    rintro _ rfl
    exact W.ret rfl
  have t3 : ∀ c : Bool, (c = true ↔ (op ≥ 11)) → ¬ op ≤ 3 → W (fun k => impl_RangeDo.j3 k op op c l h l2 h2) (· = if op ≥ 11 then ((rwrap op l h l2 h2).1, (rwrap op l h l2 h2).2, []) else if op ≥ 9 then rshift op l h l2 h2 else if op = 4 then rdiv l h l2 h2 else if op = 5 then rrem l h l2 h2 else ((rbits op l h l2 h2).1, (rbits op l h l2 h2).2, [])) := by
   intro c hc n1
   refine W.step (fun k => by simp only [impl_RangeDo.j3]; rfl) ?_
   refine W.ite (fun h1 => ?_) (fun h1 => ?_)
   ·have := hc.1 h1
    rw [if_pos this]
    refine W.bind (iWrap (by omega) (by omega) hl hh hl2 hh2) ?_
    rintro _ rfl
    exact W.ret rfl
   ·have : ¬ (op ≥ 11) := fun z => h1 (hc.2 z)
    rw [if_neg this]
    refine W.ite (fun h2 => t4 _ ?_ n1 this) (fun h2 => t4 _ ?_ n1 this)
    ·simp [h2]
    ·simp only [beq_iff_eq]; omega
  have t1 : ∀ c : Bool, (c = true ↔ (op ≤ 3)) → W (fun k => impl_RangeDo.j1 k op op c l h l2 h2) (· = if op ≤ 3 then ((cut (crn op l h l2 h2).1 (crn op l h l2 h2).2).1, (cut (crn op l h l2 h2).1 (crn op l h l2 h2).2).2, if (crn op l h l2 h2).1 < -2147483648 ∨ (crn op l h l2 h2).2 > 2147483647 then [1] else [])
    else if op ≥ 11 then ((rwrap op l h l2 h2).1, (rwrap op l h l2 h2).2, []) else if op ≥ 9 then rshift op l h l2 h2 else if op = 4 then rdiv l h l2 h2 else if op = 5 then rrem l h l2 h2 else ((rbits op l h l2 h2).1, (rbits op l h l2 h2).2, [])) := by
   intro c hc
   refine W.step (fun k => by simp only [impl_RangeDo.j1]; rfl) ?_
   refine W.ite (fun h1 => ?_) (fun h1 => ?_)
   ·have h3 := hc.1 h1
    rw [if_pos h3]
    have ft : ∀ b, Fit op b := fun b => ⟨fun h => absurd h (by omega), fun h => absurd h (by omega)⟩
    refine W.bind (iCorners (by omega) (by omega) hl hh hl2 hh2 (ft _) (ft _)) ?_
    rintro _ rfl
    have t2 : ∀ b : Bool, (b = true ↔ ((crn op l h l2 h2).1 < -2147483648 ∨ (crn op l h l2 h2).2 > 2147483647)) → W (fun k => impl_RangeDo.j2 k (crn op l h l2 h2).1 (crn op l h l2 h2).2 b) (· = ((cut (crn op l h l2 h2).1 (crn op l h l2 h2).2).1, (cut (crn op l h l2 h2).1 (crn op l h l2 h2).2).2, if (crn op l h l2 h2).1 < -2147483648 ∨ (crn op l h l2 h2).2 > 2147483647 then [1] else [])) := by
     intro b hb
     refine W.step (fun k => by simp only [impl_RangeDo.j2, iFrom, Option.bind_some]; rfl) ?_
     refine W.ite (fun h4 => W.ret ?_) (fun h4 => W.ret ?_)
     ·rw [if_pos (hb.1 h4)]
     ·rw [if_neg (fun z => h4 (hb.2 z))]
    refine W.ite (fun h4 => t2 _ ?_) (fun h4 => t2 _ ?_)
    ·simp [h4]
    ·simp only [decide_eq_true_iff]; omega
   ·have h3 : ¬ op ≤ 3 := fun z => h1 (hc.2 z)
    rw [if_neg h3]
    refine W.ite (fun h4 => t3 _ ?_ h3) (fun h4 => W.ite (fun h5 => t3 _ ?_ h3) (fun h5 => t3 _ ?_ h3))
    ·simp [h4]
    ·simp [h5]
    ·simp only [beq_iff_eq]; omega
  refine W.ite (fun h4 => t1 _ ?_) (fun h4 => W.ite (fun h5 => t1 _ ?_) (fun h5 => t1 _ ?_))
  ·simp [h4]
  ·simp [h5]
  ·simp only [beq_iff_eq]; omega
 unfold impl_RangeDo.f
 simp only [iNumOp, iRangeOk, impl_Range_empty.f, Option.bind_some]
 refine W.dec (fun h1 => W.dec (fun h3 => W.dec (fun h4 => W.dec (fun h5 => bad ?_) (fun h5 => ?_)) (fun h4 => bad ?_)) (fun h3 => bad ?_)) (fun h1 => bad ?_)
 ·exact .inr (.inr (.inr (.inl h5)))
 ·by_cases h6 : l2 > h2
  ·rw [decide_eq_true h6]; exact bad (.inr (.inr (.inr (.inr h6))))
  ·rw [decide_eq_false h6]
   refine good ?_
   unfold badDo
   simp only [h3, h4, not_true, false_or]
   omega
 ·exact .inr (.inr (.inl h4))
 ·exact .inr (.inl h3)
 ·exact .inl h1

/-! ### what an operator makes of two ranges: the reference's -/
theorem mn_min (a b : Int) : mn a b = min a b := by unfold mn; split <;> omega
theorem mx_max (a b : Int) : mx a b = max a b := by unfold mx; split <;> omega
def addR (r : Bool × Int × Int) (v : Int) : Bool × Int × Int := (true, if r.1 = true then mn r.2.1 v else v, if r.1 = true then mx r.2.2 v else v)
theorem sAdd (b : Bool) (x y v : Int) : W (fun k => spec_l8R_add.f k b x y v) (· = addR (b, x, y) v) := by
 unfold spec_l8R_add.f
 cases b
 ·refine W.neg (by decide) ?_
  refine W.step (fun k => by simp only [spec_l8R_add.j0]; rfl) ?_
  exact W.pos (by trivial) (W.neg (by decide) (W.ret rfl))
 ·refine W.pos (by trivial) ?_
  refine W.step (fun k => by simp only [spec_l8R_add.j0]; rfl) ?_
  refine W.dec (fun h1 => W.pos (by trivial) (W.ite (fun h2 => W.ret ?_) (fun h2 => W.ret ?_))) (fun h1 => W.pos (by trivial) (W.ite (fun h2 => W.ret ?_) (fun h2 => W.ret ?_))) <;> (simp only [addR, if_true, mn_min, mx_max, Prod.mk.injEq, true_and]; omega)
theorem sCorners {op l h l2 h2 : Int} (ho : 1 ≤ op) (ho1 : op ≤ 13) (hl : N32 l) (hh : N32 h) (hl2 : N32 l2) (hh2 : N32 h2) (f1 : Fit op l2) (f2 : Fit op h2) (b : Bool) (x y : Int) :
  W (fun k => spec_l8R_corners.f k b x y op l h l2 h2) (· = (true, if b = true then mn (crn op l h l2 h2).1 x else (crn op l h l2 h2).1, if b = true then mx (crn op l h l2 h2).2 y else (crn op l h l2 h2).2)) := by
 unfold spec_l8R_corners.f
 refine W.bind (sExact ho ho1 hl hl2 f1) ?_
 rintro _ rfl
 refine W.bind (sAdd _ _ _ _) ?_
 rintro _ rfl
 refine W.bind (sExact ho ho1 hl hh2 f2) ?_
 rintro _ rfl
 refine W.bind (sAdd _ _ _ _) ?_
 rintro _ rfl
 refine W.bind (sExact ho ho1 hh hl2 f1) ?_
 rintro _ rfl
 refine W.bind (sAdd _ _ _ _) ?_
 rintro _ rfl
 refine W.bind (sExact ho ho1 hh hh2 f2) ?_
 rintro _ rfl
 refine W.bind (sAdd _ _ _ _) ?_
 rintro _ rfl
 refine W.ret ?_
 simp only [addR, crn, if_true, mn_min, mx_max]
 cases b <;> simp only [if_true, if_false, Bool.false_eq_true, Prod.mk.injEq, true_and] <;> omega
theorem sCorners0 {op l h l2 h2 : Int} (ho : 1 ≤ op) (ho1 : op ≤ 13) (hl : N32 l) (hh : N32 h) (hl2 : N32 l2) (hh2 : N32 h2) (f1 : Fit op l2) (f2 : Fit op h2) (x y : Int) : W (fun k => spec_l8R_corners.f k false x y op l h l2 h2) (· = (true, (crn op l h l2 h2).1, (crn op l h l2 h2).2)) := by
 refine W.mono (sCorners ho ho1 hl hh hl2 hh2 f1 f2 false x y) ?_
 rintro _ rfl
 simp
theorem sCorners1 {op l h l2 h2 : Int} (ho : 1 ≤ op) (ho1 : op ≤ 13) (hl : N32 l) (hh : N32 h) (hl2 : N32 l2) (hh2 : N32 h2) (f1 : Fit op l2) (f2 : Fit op h2) (x y : Int) : W (fun k => spec_l8R_corners.f k true x y op l h l2 h2) (· = (true, mn (crn op l h l2 h2).1 x, mx (crn op l h l2 h2).2 y)) := by
 refine W.mono (sCorners ho ho1 hl hh hl2 hh2 f1 f2 true x y) ?_
 rintro _ rfl
 simp
theorem sWrapped {x y : Int} (hx : -4611686016279904256 ≤ x ∧ x ≤ 4611686018427387904) (hy : -4611686016279904256 ≤ y ∧ y ≤ 4611686018427387904) :
  W (fun k => spec_l8Wrapped.f k x y) (· = if y - x > 4294967295 ∨ wrap32 x > wrap32 y then (-2147483648, 2147483647) else (wrap32 x, wrap32 y)) := by
 have ex := sNumWrap x (by omega) (by omega)
 have ey := sNumWrap y (by omega) (by omega)
 unfold spec_l8Wrapped.f
 rw [wrap64_id (n := y - x) (by omega) (by omega)]
 simp only [ex, ey, Option.bind_some]
 refine W.ite (fun h1 => ?_) (fun h1 => ?_)
 ·refine W.step (fun k => by simp only [spec_l8Wrapped.j0]; rfl) ?_
  exact W.pos (by trivial) (W.ret (by rw [if_pos (.inl h1)]))
 ·refine W.step (fun k => by simp only [spec_l8Wrapped.j0, ex, ey, Option.bind_some]; rfl) ?_
  exact W.dec (fun h2 => W.ret (by rw [if_pos (.inr h2)])) (fun h2 => W.ret (by rw [if_neg (fun z => z.elim h1 h2)]))
theorem sRem {l h x y : Int} (hx : 0 ≤ x ∧ x ≤ 2147483648) (hy : 0 ≤ y ∧ y ≤ 2147483648) : W (fun k => spec_l8Rem.f k l h x y) (· = remBy l h x y) := by
 have e1 : wrap64 (-x) = -x := wrap64_id (by omega) (by omega)
 have e2 : wrap64 (1 - y) = 1 - y := wrap64_id (by omega) (by omega)
 have e3 : wrap64 (y - 1) = y - 1 := wrap64_id (by omega) (by omega)
 have key : ∀ b : Bool, (b = true ↔ (l > -x ∧ h < x)) → W (fun k => spec_l8Rem.j0 k y b l h) (· = remBy l h x y) := by
  intro b hb
  refine W.step (fun k => by simp only [spec_l8Rem.j0, e2, e3, sMin, sMax, Option.bind_some]; rfl) ?_
  refine W.ite (fun h1 => W.ret ?_) (fun h1 => ?_)
  ·unfold remBy; rw [if_pos (hb.1 h1)]
  ·have h1' : ¬ (l > -x ∧ h < x) := fun z => h1 (hb.2 z)
   unfold remBy
   rw [if_neg h1']
   refine W.ite (fun h2 => W.ite (fun h3 => W.ret ?_) (fun h3 => W.ret ?_)) (fun h2 => W.ite (fun h3 => W.ret ?_) (fun h3 => W.ret ?_))
   ·rw [if_pos h2, if_pos h3]
   ·rw [if_pos h2, if_neg h3]
   ·rw [if_neg h2, if_pos h3]
   ·rw [if_neg h2, if_neg h3]
 unfold spec_l8Rem.f
 rw [e1]
 refine W.ite (fun h1 => key _ ?_) (fun h1 => key _ ?_)
 ·simp [h1]
 ·simp only [Bool.false_eq_true, false_iff]; omega
theorem ngt {a b : Int} (o : okR a b) : (!(a == 1) || !(b == 0)) = decide (¬ a > b) := by
 rw [Bool.eq_iff_iff, decide_eq_true_iff, okR_gt o]; unfold isNone; by_cases h1 : a = 1 <;> by_cases h2 : b = 0 <;> simp [h1, h2]
theorem sHas' (l h v : Int) : spec_RangeHas.f l h v = some (hasR l h v) := sRangeHas l h v
theorem sDiv {op l h l2 h2 : Int} (ho : op = 4 ∨ op = 5) (o1 : okR l h) (n1 : ¬ l > h) (o2 : okR l2 h2) (n2 : ¬ l2 > h2) : W (fun k => spec_l8Div.f k op l h l2 h2) (· = if op = 4 then rdiv l h l2 h2 else rrem l h l2 h2) := by
 obtain ⟨hl, hh⟩ := okR_N32 o1
 obtain ⟨hl2, hh2⟩ := okR_N32 o2
 have hn := rmeet_in l2 h2 (x := -2147483648) (y := -1) (by unfold okR; omega) (by unfold isNone; omega)
 have hp := rmeet_in l2 h2 (x := 1) (y := 2147483647) (by unfold okR; omega) (by unfold isNone; omega)
 have on := rmeet_ok l2 h2 (-2147483648) (-1)
 have op_ := rmeet_ok l2 h2 1 2147483647
 unfold spec_l8Div.f rdiv rrem
 simp only [Option.bind_some]
 refine W.bind (sRangeMeet l2 h2 (-2147483648) (-1)) ?_
 rintro _ rfl
 refine W.bind (sRangeMeet l2 h2 1 2147483647) ?_
 rintro _ rfl
 generalize rmeet l2 h2 (-2147483648) (-1) = n at hn on ⊢
 generalize rmeet l2 h2 1 2147483647 = p at hp op_ ⊢
 simp only [sHas', Option.bind_some]
 rcases ho with rfl | rfl
 ·refine W.pos rfl ?_
  rw [if_pos rfl]
  have ft : ∀ b : Int, b ≠ 0 → Fit 4 b := fun b h0 => ⟨fun _ => h0, fun h => absurd h (by omega)⟩
  have t5t : ∀ (F : List Int) (x y : Int), W (fun k => spec_l8Div.j5 k F true x y) (· = ((cut x y).1, (cut x y).2, F)) := by
   intro F x y
   refine W.step (fun k => by simp only [spec_l8Div.j5, sCut, spec_l8None.f, Option.bind_some]; rfl) ?_
   (try refine W.pos (by trivial) ?_)
   exact W.ret rfl
  have t5f : ∀ (F : List Int) (x y : Int), W (fun k => spec_l8Div.j5 k F false x y) (· = (1, 0, F)) := by
   intro F x y
   refine W.step (fun k => by simp only [spec_l8Div.j5, sCut, spec_l8None.f, Option.bind_some]; rfl) ?_
   (try refine W.neg (by decide) ?_)
   exact W.ret rfl
  have t4t : ∀ (F : List Int) (x y : Int), W (fun k => spec_l8Div.j4 k 4 F l h p.1 p.2 true x y) (· = (if p.1 > p.2 then ((cut x y).1, (cut x y).2, F) else ((cut (mn (crn 4 l h p.1 p.2).1 x) (mx (crn 4 l h p.1 p.2).2 y)).1, (cut (mn (crn 4 l h p.1 p.2).1 x) (mx (crn 4 l h p.1 p.2).2 y)).2, F))) := by
   intro F x y
   refine W.step (fun k => by simp only [spec_l8Div.j4, spec_l8None.f, Option.bind_some]; rfl) ?_
   rw [ngt op_]
   refine W.dec (fun h1 => ?_) (fun h1 => ?_)
   ·rw [if_neg h1]
    have hp' := hp.resolve_left h1
    refine W.bind (sCorners1 (l := l) (h := h) (l2 := p.1) (h2 := p.2) (by omega) (by omega) hl hh (by unfold N32; omega) (by unfold N32; omega) (ft _ (by omega)) (ft _ (by omega)) x y) ?_
    rintro _ rfl
    exact t5t F _ _
   ·rw [if_pos (Decidable.not_not.1 h1)]
    exact t5t F x y
  have t4f : ∀ (F : List Int) (x y : Int), W (fun k => spec_l8Div.j4 k 4 F l h p.1 p.2 false x y) (· = (if p.1 > p.2 then (1, 0, F) else ((cut (crn 4 l h p.1 p.2).1 (crn 4 l h p.1 p.2).2).1, (cut (crn 4 l h p.1 p.2).1 (crn 4 l h p.1 p.2).2).2, F))) := by
   intro F x y
   refine W.step (fun k => by simp only [spec_l8Div.j4, spec_l8None.f, Option.bind_some]; rfl) ?_
   rw [ngt op_]
   refine W.dec (fun h1 => ?_) (fun h1 => ?_)
   ·rw [if_neg h1]
    have hp' := hp.resolve_left h1
    refine W.bind (sCorners0 (l := l) (h := h) (l2 := p.1) (h2 := p.2) (by omega) (by omega) hl hh (by unfold N32; omega) (by unfold N32; omega) (ft _ (by omega)) (ft _ (by omega)) x y) ?_
    rintro _ rfl
    exact t5t F _ _
   ·rw [if_pos (Decidable.not_not.1 h1)]
    exact t5f F x y
  have t2 : ∀ F : List Int, W (fun k => spec_l8Div.j2 k 4 F l h l2 h2 n.1 n.2 p.1 p.2) (· = (let c := if n.1 > n.2 then (if p.1 > p.2 then (1, 0) else cut (crn 4 l h p.1 p.2).1 (crn 4 l h p.1 p.2).2) else if p.1 > p.2 then cut (crn 4 l h n.1 n.2).1 (crn 4 l h n.1 n.2).2 else cut (mn (crn 4 l h p.1 p.2).1 (crn 4 l h n.1 n.2).1) (mx (crn 4 l h p.1 p.2).2 (crn 4 l h n.1 n.2).2)
    (c.1, c.2, F))) := by
   intro F
   refine W.step (fun k => by simp only [spec_l8Div.j2, spec_l8None.f, Option.bind_some]; rfl) ?_
   refine W.neg (by decide) ?_
   rw [ngt on]
   refine W.dec (fun h1 => ?_) (fun h1 => ?_)
   ·rw [if_neg h1]
    have hn' := hn.resolve_left h1
    refine W.bind (sCorners0 (l := l) (h := h) (l2 := n.1) (h2 := n.2) (by omega) (by omega) hl hh (by unfold N32; omega) (by unfold N32; omega) (ft _ (by omega)) (ft _ (by omega)) 0 0) ?_
    rintro _ rfl
    refine W.mono (t4t F _ _) ?_
    rintro _ rfl
    by_cases h3 : p.1 > p.2
    ·rw [if_pos h3, if_pos h3]
    ·rw [if_neg h3, if_neg h3]
   ·rw [if_pos (Decidable.not_not.1 h1)]
    refine W.mono (t4f F 0 0) ?_
    rintro _ rfl
    by_cases h3 : p.1 > p.2
    ·rw [if_pos h3, if_pos h3]
    ·rw [if_neg h3, if_neg h3]
  have t1 : ∀ F : List Int, F.length ≤ 1 → W (fun k => spec_l8Div.j1 k 4 F l h l2 h2 n.1 n.2 p.1 p.2) (· = (let c := if n.1 > n.2 then (if p.1 > p.2 then (1, 0) else cut (crn 4 l h p.1 p.2).1 (crn 4 l h p.1 p.2).2) else if p.1 > p.2 then cut (crn 4 l h n.1 n.2).1 (crn 4 l h n.1 n.2).2 else cut (mn (crn 4 l h p.1 p.2).1 (crn 4 l h n.1 n.2).1) (mx (crn 4 l h p.1 p.2).2 (crn 4 l h n.1 n.2).2)
    (c.1, c.2, F ++ (if hasR l2 h2 0 then [2] else [])))) := by
   intro F hF
   refine W.step (fun k => by simp only [spec_l8Div.j1, sHas', Option.bind_some]; rfl) ?_
   refine W.ite (fun h1 => W.pos (by omega) ?_) (fun h1 => ?_)
   ·rw [if_pos h1]; exact t2 _
   ·rw [if_neg h1, List.append_nil]; exact t2 _
  have t0 : ∀ b : Bool, b = (hasR l h (-2147483648) && hasR l2 h2 (-1)) → W (fun k => spec_l8Div.j0 k 4 [] b l h l2 h2 n.1 n.2 p.1 p.2) (· = (let c := if n.1 > n.2 then (if p.1 > p.2 then (1, 0) else cut (crn 4 l h p.1 p.2).1 (crn 4 l h p.1 p.2).2) else if p.1 > p.2 then cut (crn 4 l h n.1 n.2).1 (crn 4 l h n.1 n.2).2 else cut (mn (crn 4 l h p.1 p.2).1 (crn 4 l h n.1 n.2).1) (mx (crn 4 l h p.1 p.2).2 (crn 4 l h n.1 n.2).2)
    (c.1, c.2, (if hasR l h (-2147483648) && hasR l2 h2 (-1) then [1] else []) ++ (if hasR l2 h2 0 then [2] else [])))) := by
   rintro b hb
   rw [← hb]
   refine W.step (fun k => by simp only [spec_l8Div.j0, List.nil_append]; rfl) ?_
   refine W.ite (fun h1 => W.pos (by decide) ?_) (fun h1 => ?_)
   ·rw [if_pos h1]; exact t1 [1] (by decide)
   ·rw [if_neg h1]; exact t1 [] (by decide)
  refine W.ite (fun h1 => t0 _ ?_) (fun h1 => t0 _ ?_)
  ·have e : hasR l h (-2147483648) = true := decide_eq_true ⟨o1, by omega, by omega⟩
   rw [e, Bool.true_and]
  ·have e : hasR l h (-2147483648) = false := decide_eq_false (fun z => h1 (by unfold N32 at hl; omega))
   rw [e, Bool.false_and]
 ·refine W.neg (by decide) ?_
  rw [if_neg (by decide)]
  have fin : ∀ (F : List Int) (q : Int × Int), (l2 ≠ 0 ∧ l2 = h2 → F = []) → W (fun k => if l = h then (if l2 = h2 then (if l2 = 0 then some (q.1, q.2, F) else (spec_l1Exact.f k 5 l l2).bind fun t => some (t, t, F)) else some (q.1, q.2, F)) else some (q.1, q.2, F)) (· = if l = h ∧ l2 = h2 ∧ l2 ≠ 0 then (l.tmod l2, l.tmod l2, []) else (q.1, q.2, F)) := by
   intro F q hF
   refine W.ite (fun h1 => W.ite (fun h3 => W.ite (fun h4 => W.ret ?_) (fun h4 => ?_)) (fun h3 => W.ret ?_)) (fun h1 => W.ret ?_)
   ·rw [if_neg (fun z => z.2.2 h4)]
   ·rw [if_pos ⟨h1, h3, h4⟩, hF ⟨h4, h3⟩]
    refine W.bind (sExact (by omega) (by omega) hl hl2 ⟨fun _ => h4, fun h => absurd h (by omega)⟩) ?_
    rintro _ rfl
    exact W.ret rfl
   ·rw [if_neg (fun z => h3 z.2.1)]
   ·rw [if_neg (fun z => h1 z.1)]
  have t3 : ∀ (F : List Int) (o : Int × Int), (l2 ≠ 0 ∧ l2 = h2 → F = []) → W (fun k => spec_l8Div.j3 k 5 F l h l2 h2 p.1 p.2 o.1 o.2) (· = (let q := if p.1 > p.2 then o else rjoin o.1 o.2 (remBy l h p.1 p.2).1 (remBy l h p.1 p.2).2
    if l = h ∧ l2 = h2 ∧ l2 ≠ 0 then (l.tmod l2, l.tmod l2, []) else (q.1, q.2, F))) := by
   intro F o hF
   refine W.step (fun k => by simp only [spec_l8Div.j3, spec_l8None.f, Option.bind_some]; rfl) ?_
   rw [ngt op_]
   refine W.dec (fun h1 => ?_) (fun h1 => ?_)
   ·rw [if_neg h1]
    have hp' := hp.resolve_left h1
    refine W.bind (sRem (by omega) (by omega)) ?_
    rintro _ rfl
    refine W.bind (sRangeJoin _ _ _ _) ?_
    rintro _ rfl
    exact fin F _ hF
   ·rw [if_pos (Decidable.not_not.1 h1)]
    exact fin F _ hF
  have t2 : ∀ (F : List Int), (l2 ≠ 0 ∧ l2 = h2 → F = []) → W (fun k => spec_l8Div.j2 k 5 F l h l2 h2 n.1 n.2 p.1 p.2) (· = (let o := if n.1 > n.2 then (1, 0) else rjoin 1 0 (remBy l h (-n.2) (-n.1)).1 (remBy l h (-n.2) (-n.1)).2
    let q := if p.1 > p.2 then o else rjoin o.1 o.2 (remBy l h p.1 p.2).1 (remBy l h p.1 p.2).2
    if l = h ∧ l2 = h2 ∧ l2 ≠ 0 then (l.tmod l2, l.tmod l2, []) else (q.1, q.2, F))) := by
   intro F hF
   refine W.step (fun k => by simp only [spec_l8Div.j2, spec_l8None.f, Option.bind_some]; rfl) ?_
   refine W.pos (by trivial) ?_
   rw [ngt on]
   refine W.dec (fun h1 => ?_) (fun h1 => ?_)
   ·rw [if_neg h1]
    have hn' := hn.resolve_left h1
    rw [wrap64_id (n := -n.2) (by omega) (by omega), wrap64_id (n := -n.1) (by omega) (by omega)]
    refine W.bind (sRem (by omega) (by omega)) ?_
    rintro _ rfl
    refine W.bind (sRangeJoin _ _ _ _) ?_
    rintro _ rfl
    exact t3 F _ hF
   ·rw [if_pos (Decidable.not_not.1 h1)]
    exact t3 F (1, 0) hF
  refine W.step (fun k => by simp only [spec_l8Div.j0]; rfl) ?_
  (try refine W.neg (by decide) ?_)
  refine W.step (fun k => by simp only [spec_l8Div.j1, sHas', Option.bind_some, List.nil_append]; rfl) ?_
  refine W.ite (fun h1 => W.pos (by decide) ?_) (fun h1 => ?_)
  ·rw [if_pos h1]
   exact t2 [2] (fun z => absurd (of_decide_eq_true h1) (by omega))
  ·rw [if_neg h1]
   exact t2 [] (fun _ => rfl)

theorem sMask {m : Int} (hm : m ≤ 2147483647) : W (fun k => spec_l8Mask.f k m) (· = msk m) := by
 have h : ∀ (n : Nat) (x : Int), 0 ≤ x → x + 1 = 2 ^ (32 - n) → n ≤ 32 → W (fun k => spec_l8Mask.l0 k m x) (· = mskL n x m) := by
  intro n
  induction n with
  | zero =>
   intro x h0 hx _
   refine W.step (fun k => by simp only [spec_l8Mask.l0]; rfl) ?_
   refine W.neg (by simp at hx; omega) (W.ret rfl)
  | succ n ih =>
   intro x h0 hx hn
   refine W.step (fun k => by simp only [spec_l8Mask.l0]; rfl) ?_
   unfold mskL
   refine W.ite (fun h1 => ?_) (fun h1 => W.ret (by rw [if_neg h1]))
   rw [if_pos h1, wrap64_id (n := 2 * x) (by omega) (by omega), wrap64_id (n := 2 * x + 1) (by omega) (by omega)]
   refine ih (2 * x + 1) (by omega) ?_ (by omega)
   rw [show 32 - n = (32 - (n + 1)) + 1 by omega, Int.pow_succ]
   omega
 exact h 32 0 (by omega) (by decide) (by omega)
theorem sBitsR {op l h l2 h2 : Int} (ho : op = 6 ∨ op = 7 ∨ op = 8) (hl : N32 l) (hh : N32 h) (hl2 : N32 l2) (hh2 : N32 h2) : W (fun k => spec_l8Bits.f k op l h l2 h2) (· = rbits op l h l2 h2) := by
 have hm : mx h h2 ≤ 2147483647 := by unfold N32 at hh hh2; unfold mx; split <;> omega
 have t5 : op ≠ 6 → op ≠ 7 → ∀ c : Bool, (c = true ↔ ¬ (l < 0 ∨ l2 < 0)) → W (fun k => spec_l8Bits.j5 k c l h l2 h2) (· = if l < 0 ∨ l2 < 0 then (-2147483648, 2147483647) else (if op = 7 then mx l l2 else 0, msk (mx h h2))) := by
  intro g6 g7 c hc
  refine W.step (fun k => by simp only [spec_l8Bits.j5, sMax, Option.bind_some]; rfl) ?_
  refine W.ite (fun h1 => ?_) (fun h1 => W.ret ?_)
  ·rw [if_neg (hc.1 h1), if_neg g7]
   refine W.bind (sMask hm) ?_
   rintro _ rfl
   exact W.ret rfl
  ·rw [if_pos (Decidable.byContradiction fun z => h1 (hc.2 z))]
 have t4 : op ≠ 6 → ∀ c : Bool, (c = true ↔ (¬ (l < 0 ∨ l2 < 0) ∧ op = 7)) → W (fun k => spec_l8Bits.j4 k op c l h l2 h2) (· = if l < 0 ∨ l2 < 0 then (-2147483648, 2147483647) else (if op = 7 then mx l l2 else 0, msk (mx h h2))) := by
  intro g6 c hc
  refine W.step (fun k => by simp only [spec_l8Bits.j4, sMax, Option.bind_some]; rfl) ?_
  refine W.ite (fun h1 => ?_) (fun h1 => ?_)
  ·rw [if_neg (hc.1 h1).1, if_pos (hc.1 h1).2]
   refine W.bind (sMask hm) ?_
   rintro _ rfl
   exact W.ret rfl
  ·by_cases g7 : op = 7
   ·have hb : l < 0 ∨ l2 < 0 := Decidable.byContradiction fun z => h1 (hc.2 ⟨z, g7⟩)
    rw [if_pos hb]
    have bad : ∀ c : Bool, c = false → W (fun k => spec_l8Bits.j5 k c l h l2 h2) (· = (-2147483648, 2147483647)) := by
     rintro _ rfl
     refine W.step (fun k => by simp only [spec_l8Bits.j5]; rfl) ?_
     exact W.neg (by decide) (W.ret rfl)
    refine W.ite (fun h2 => W.ite (fun h3 => bad _ ?_) (fun h3 => bad _ rfl)) (fun h2 => bad _ rfl)
    omega
   ·refine W.ite (fun h2 => W.ite (fun h3 => t5 g6 g7 _ ?_) (fun h3 => t5 g6 g7 _ ?_)) (fun h2 => t5 g6 g7 _ ?_)
    ·simp only [beq_iff_eq]; omega
    ·simp only [Bool.false_eq_true, false_iff]; omega
    ·simp only [Bool.false_eq_true, false_iff]; omega
 have t3 : ∀ c : Bool, (c = true ↔ (op = 6 ∧ l2 ≥ 0)) → op ≠ 6 ∨ ¬ l ≥ 0 → W (fun k => spec_l8Bits.j3 k op c l h l2 h2) (· = if op = 6 then (if l2 ≥ 0 then (0, h2) else (-2147483648, 2147483647))
   else if l < 0 ∨ l2 < 0 then (-2147483648, 2147483647) else (if op = 7 then mx l l2 else 0, msk (mx h h2))) := by
  intro c hc hs
  refine W.step (fun k => by simp only [spec_l8Bits.j3]; rfl) ?_
  refine W.ite (fun h1 => W.ret ?_) (fun h1 => ?_)
  ·rw [if_pos (hc.1 h1).1, if_pos (hc.1 h1).2]
  ·by_cases g6 : op = 6
   ·have hb : ¬ l2 ≥ 0 := fun z => h1 (hc.2 ⟨g6, z⟩)
    rw [if_pos g6, if_neg hb]
    have bad : ∀ c : Bool, c = false → W (fun k => spec_l8Bits.j5 k c l h l2 h2) (· = (-2147483648, 2147483647)) := by
     rintro _ rfl
     refine W.step (fun k => by simp only [spec_l8Bits.j5]; rfl) ?_
     exact W.neg (by decide) (W.ret rfl)
    refine W.ite (fun h2 => absurd h2 (by omega)) (fun h2 => ?_)
    refine W.step (fun k => by simp only [spec_l8Bits.j4]; rfl) ?_
    (try refine W.neg (by decide) ?_)
    exact W.ite (fun h3 => absurd h3 (by omega)) (fun h3 => bad _ rfl)
   ·rw [if_neg g6]
    refine W.ite (fun h2 => W.ite (fun h3 => t4 g6 _ ?_) (fun h3 => t4 g6 _ ?_)) (fun h2 => t4 g6 _ ?_)
    ·simp only [beq_iff_eq]; omega
    ·simp only [Bool.false_eq_true, false_iff]; omega
    ·simp only [Bool.false_eq_true, false_iff]; omega
 have t2 : ∀ c : Bool, (c = true ↔ (op = 6 ∧ l ≥ 0)) → op ≠ 6 ∨ ¬ (l ≥ 0 ∧ l2 ≥ 0) → W (fun k => spec_l8Bits.j2 k op c l h l2 h2) (· = if op = 6 then (if l ≥ 0 then (0, h) else if l2 ≥ 0 then (0, h2) else (-2147483648, 2147483647))
   else if l < 0 ∨ l2 < 0 then (-2147483648, 2147483647) else (if op = 7 then mx l l2 else 0, msk (mx h h2))) := by
  intro c hc hs
  refine W.step (fun k => by simp only [spec_l8Bits.j2]; rfl) ?_
  refine W.ite (fun h1 => W.ret ?_) (fun h1 => ?_)
  ·rw [if_pos (hc.1 h1).1, if_pos (hc.1 h1).2]
  ·by_cases g6 : op = 6
   ·have hb : ¬ l ≥ 0 := fun z => h1 (hc.2 ⟨g6, z⟩)
    have := t3 (decide (l2 ≥ 0)) (by simp [g6]) (.inr hb)
    rw [if_pos g6] at this
    rw [if_pos g6, if_neg hb]
    exact W.pos g6 this
   ·have := t3 false (by simp [g6]) (.inl g6)
    rw [if_neg g6] at this
    rw [if_neg g6]
    exact W.neg g6 this
 have t1 : ∀ c : Bool, (c = true ↔ (op = 6 ∧ l ≥ 0 ∧ l2 ≥ 0)) → W (fun k => spec_l8Bits.j1 k op c l h l2 h2) (· = if op = 6 then (if l ≥ 0 ∧ l2 ≥ 0 then (0, mn h h2) else if l ≥ 0 then (0, h) else if l2 ≥ 0 then (0, h2) else (-2147483648, 2147483647))
   else if l < 0 ∨ l2 < 0 then (-2147483648, 2147483647) else (if op = 7 then mx l l2 else 0, msk (mx h h2))) := by
  intro c hc
  refine W.step (fun k => by simp only [spec_l8Bits.j1, sMin, Option.bind_some]; rfl) ?_
  refine W.ite (fun h1 => W.ret ?_) (fun h1 => ?_)
  ·rw [if_pos (hc.1 h1).1, if_pos (hc.1 h1).2]
  ·by_cases g6 : op = 6
   ·have hb : ¬ (l ≥ 0 ∧ l2 ≥ 0) := fun z => h1 (hc.2 ⟨g6, z⟩)
    have := t2 (decide (l ≥ 0)) (by simp [g6]) (.inr hb)
    rw [if_pos g6] at this
    rw [if_pos g6, if_neg hb]
    exact W.pos g6 this
   ·have := t2 false (by simp [g6]) (.inl g6)
    rw [if_neg g6] at this
    rw [if_neg g6]
    exact W.neg g6 this
 have t0 : ∀ c : Bool, (c = true ↔ (l = h ∧ l2 = h2)) → W (fun k => spec_l8Bits.j0 k op c l h l2 h2) (· = rbits op l h l2 h2) := by
  intro c hc
  refine W.step (fun k => by simp only [spec_l8Bits.j0]; rfl) ?_
  unfold rbits
  refine W.ite (fun h1 => ?_) (fun h1 => ?_)
  ·rw [if_pos (hc.1 h1)]
   refine W.bind (sBits ho) ?_
   rintro _ rfl
   exact W.ret rfl
  rw [if_neg (fun z => h1 (hc.2 z))]
  refine W.ite (fun h2 => W.ite (fun h3 => t1 _ ?_) (fun h3 => t1 _ ?_)) (fun h2 => t1 _ ?_)
  ·simp only [decide_eq_true_iff]; omega
  ·simp only [Bool.false_eq_true, false_iff]; omega
  ·simp only [Bool.false_eq_true, false_iff]; omega
 unfold spec_l8Bits.f
 refine W.ite (fun h1 => t0 _ ?_) (fun h1 => t0 _ ?_)
 ·simp only [beq_iff_eq]; omega
 ·simp only [Bool.false_eq_true, false_iff]; omega
/-! ### all of them -/
theorem sRangeDo (op l h l2 h2 : Int) : W (fun k => spec_RangeDo.f k op l h l2 h2) (· = rangeDo op l h l2 h2) := by
 have bad : badDo op l h l2 h2 → W (fun k => spec_RangeDo.j0 k op [] true l h l2 h2) (· = rangeDo op l h l2 h2) := by
  intro hb
  refine W.step (fun k => by simp only [spec_RangeDo.j0, spec_l8None.f, Option.bind_some]; rfl) ?_
  refine W.pos (by trivial) (W.ret ?_)
  unfold rangeDo; rw [if_pos hb]
 have t8 : ∀ (F : List Int) (b : Bool) (x y : Int), W (fun k => spec_RangeDo.j8 k F b x y) (· = ((if b then cut x y else (1, 0)).1, (if b then cut x y else (1, 0)).2, F)) := by
  intro F b x y
  refine W.step (fun k => by simp only [spec_RangeDo.j8, sCut, spec_l8None.f, Option.bind_some]; rfl) ?_
  exact W.ite (fun h1 => W.ret (by rw [if_pos h1])) (fun h1 => W.ret (by rw [if_neg h1]))
 have t7 : ∀ (F : List Int) (c b : Bool) (x y : Int), F.length ≤ 1 → W (fun k => spec_RangeDo.j7 k F c b x y) (· = ((if b then cut x y else (1, 0)).1, (if b then cut x y else (1, 0)).2, F ++ (if c then [3] else []))) := by
  intro F c b x y hF
  refine W.step (fun k => by simp only [spec_RangeDo.j7]; rfl) ?_
  refine W.ite (fun h1 => W.pos (by omega) ?_) (fun h1 => ?_)
  ·rw [if_pos h1]; exact t8 _ b x y
  ·rw [if_neg h1, List.append_nil]; exact t8 _ b x y
 have t6 : ∀ (F : List Int) (c b : Bool) (x y u v : Int), F.length ≤ 1 → W (fun k => spec_RangeDo.j6 k F c l2 h2 u v b x y) (· = ((if b then cut x y else (1, 0)).1, (if b then cut x y else (1, 0)).2, F ++ (if c && offB u v l2 h2 then [3] else []))) := by
  intro F c b x y u v hF
  refine W.step (fun k => by simp only [spec_RangeDo.j6]; rfl) ?_
  refine W.ite (fun h1 => ?_) (fun h1 => ?_)
  ·rw [h1, Bool.true_and]; exact t7 F _ b x y hF
  ·rw [Bool.eq_false_iff.mpr h1, Bool.false_and]; exact t7 F false b x y hF
 have t5 : ∀ (c o b : Bool) (x y u v : Int), W (fun k => spec_RangeDo.j5 k [] c o l2 h2 u v b x y) (· = ((if b then cut x y else (1, 0)).1, (if b then cut x y else (1, 0)).2, (if o then [1] else []) ++ (if c && offB u v l2 h2 then [3] else []))) := by
  intro c o b x y u v
  refine W.step (fun k => by simp only [spec_RangeDo.j5, List.nil_append]; rfl) ?_
  refine W.ite (fun h1 => W.pos (by decide) ?_) (fun h1 => ?_)
  ·rw [if_pos h1]; exact t6 [1] c b x y u v (by decide)
  ·rw [if_neg h1]; exact t6 [] c b x y u v (by decide)
 have t4 : ∀ (c b : Bool) (x y u v : Int), ¬ op ≥ 11 → W (fun k => spec_RangeDo.j4 k op [] c l2 h2 u v b x y) (· = ((if b then cut x y else (1, 0)).1, (if b then cut x y else (1, 0)).2, (if b = true ∧ (x < -2147483648 ∨ y > 2147483647) then [1] else []) ++ (if c && offB u v l2 h2 then [3] else []))) := by
  intro c b x y u v g
  refine W.step (fun k => by simp only [spec_RangeDo.j4]; rfl) ?_
  refine W.neg g ?_
  have key : ∀ o : Bool, (o = true ↔ (b = true ∧ (x < -2147483648 ∨ y > 2147483647))) → W (fun k => spec_RangeDo.j5 k [] c o l2 h2 u v b x y) (· = ((if b then cut x y else (1, 0)).1, (if b then cut x y else (1, 0)).2, (if b = true ∧ (x < -2147483648 ∨ y > 2147483647) then [1] else []) ++ (if c && offB u v l2 h2 then [3] else []))) := by
   intro o ho
   refine W.mono (t5 c o b x y u v) ?_
   rintro _ rfl
   by_cases h1 : o = true
   ·rw [if_pos h1, if_pos (ho.1 h1)]
   ·rw [if_neg h1, if_neg (fun z => h1 (ho.2 z))]
  refine W.ite (fun h1 => W.ite (fun h2 => key _ ?_) (fun h2 => key _ ?_)) (fun h1 => key _ ?_)
  ·simp [h1, h2]
  ·simp only [h1, decide_eq_true_iff, true_and]; omega
  ·simp [h1]
 have good : ¬ badDo op l h l2 h2 → W (fun k => spec_RangeDo.j0 k op [] false l h l2 h2) (· = rangeDo op l h l2 h2) := by
  intro hb
  have hb0 := hb
  unfold badDo at hb
  have ho : 1 ≤ op ∧ op ≤ 13 := by omega
  have o1 : okR l h := Decidable.byContradiction fun z => hb (.inr (.inl z))
  have o2 : okR l2 h2 := Decidable.byContradiction fun z => hb (.inr (.inr (.inl z)))
  have n1 : ¬ l > h := fun z => hb (.inr (.inr (.inr (.inl z))))
  have n2 : ¬ l2 > h2 := fun z => hb (.inr (.inr (.inr (.inr z))))
  obtain ⟨hl, hh⟩ := okR_N32 o1
  obtain ⟨hl2, hh2⟩ := okR_N32 o2
  unfold rangeDo
  rw [if_neg hb0]
  refine W.step (fun k => by simp only [spec_RangeDo.j0]; rfl) ?_
  refine W.neg (by decide) ?_
  have plain : ∀ c : Bool, c = false → ¬ (op = 9 ∨ op = 10) → ¬ (4 ≤ op ∧ op ≤ 8) → W (fun k => spec_RangeDo.j2 k op [] c l h l2 h2 l2 h2) (· = if op ≤ 3 then ((cut (crn op l h l2 h2).1 (crn op l h l2 h2).2).1, (cut (crn op l h l2 h2).1 (crn op l h l2 h2).2).2, if (crn op l h l2 h2).1 < -2147483648 ∨ (crn op l h l2 h2).2 > 2147483647 then [1] else [])
    else ((rwrap op l h l2 h2).1, (rwrap op l h l2 h2).2, [])) := by
   rintro _ rfl g1 g2
   refine W.step (fun k => by simp only [spec_RangeDo.j2]; rfl) ?_
   (try refine W.neg (by decide) ?_)
   refine W.step (fun k => by simp only [spec_RangeDo.j3, spec_l8None.f, Option.bind_some]; rfl) ?_
   rw [ngt o2]
   refine W.dpos n2 ?_
   have ft : ∀ b, Fit op b := fun b => ⟨fun h => absurd h (by omega), fun h => absurd h (by omega)⟩
   refine W.bind (sCorners ho.1 ho.2 hl hh hl2 hh2 (ft _) (ft _) false 0 0) ?_
   rintro _ rfl
   by_cases g : op ≤ 3
   ·rw [if_pos g]
    refine W.mono (t4 false true _ _ l2 h2 (by omega)) ?_
    rintro _ rfl
    simp
   ·rw [if_neg g]
    refine W.step (fun k => by simp only [spec_RangeDo.j4]; rfl) ?_
    refine W.pos (by omega) ?_
    obtain ⟨x, y, x', y', hx, hy, hx', hy', e1, e2⟩ := crn_ends op l h l2 h2
    have b1 := wrapV (op := op) (a := x) (b := y) (by omega) ho.2 (by rcases hx with rfl | rfl <;> assumption) (by rcases hy with rfl | rfl <;> assumption)
    have b2 := wrapV (op := op) (a := x') (b := y') (by omega) ho.2 (by rcases hx' with rfl | rfl <;> assumption) (by rcases hy' with rfl | rfl <;> assumption)
    rw [← e1] at b1
    rw [← e2] at b2
    refine W.bind (sWrapped b1 b2) ?_
    rintro _ rfl
    exact W.ret rfl
  have shift : (op = 9 ∨ op = 10) → W (fun k => spec_RangeDo.j2 k op [] true l h l2 h2 l2 h2) (· = rshift op l h l2 h2) := by
   intro g
   refine W.step (fun k => by simp only [spec_RangeDo.j2]; rfl) ?_
   (try refine W.pos (by trivial) ?_)
   refine W.bind (sRangeMeet l2 h2 0 31) ?_
   rintro _ rfl
   have hm := rmeet_in l2 h2 (x := 0) (y := 31) (by unfold okR; omega) (by unfold isNone; omega)
   have om := rmeet_ok l2 h2 0 31
   unfold rshift
   generalize rmeet l2 h2 0 31 = c at hm om ⊢
   refine W.step (fun k => by simp only [spec_RangeDo.j3, spec_l8None.f, Option.bind_some]; rfl) ?_
   rw [ngt om]
   refine W.dec (fun h1 => ?_) (fun h1 => ?_)
   ·have hm' := hm.resolve_left h1
    rw [if_neg h1]
    have ft : ∀ b, 0 ≤ b → b ≤ 31 → Fit op b := fun b h0 h1 => ⟨fun h => absurd h (by omega), fun _ => ⟨h0, h1⟩⟩
    refine W.bind (sCorners (l := l) (h := h) (l2 := c.1) (h2 := c.2) (by omega) (by omega) hl hh (by unfold N32; omega) (by unfold N32; omega) (ft _ (by omega) (by omega)) (ft _ (by omega) (by omega)) false 0 0) ?_
    rintro _ rfl
    refine W.mono (t4 true true _ _ c.1 c.2 (by omega)) ?_
    rintro _ rfl
    simp
   ·rw [if_pos (Decidable.not_not.1 h1)]
    refine W.mono (t4 true false _ _ c.1 c.2 (by omega)) ?_
    rintro _ rfl
    simp
  have t1 : ∀ c : Bool, (c = true ↔ (op = 4 ∨ op = 5)) → W (fun k => spec_RangeDo.j1 k op [] c l h l2 h2) (· = if op ≤ 3 then ((cut (crn op l h l2 h2).1 (crn op l h l2 h2).2).1, (cut (crn op l h l2 h2).1 (crn op l h l2 h2).2).2, if (crn op l h l2 h2).1 < -2147483648 ∨ (crn op l h l2 h2).2 > 2147483647 then [1] else [])
    else if op ≥ 11 then ((rwrap op l h l2 h2).1, (rwrap op l h l2 h2).2, []) else if op ≥ 9 then rshift op l h l2 h2 else if op = 4 then rdiv l h l2 h2 else if op = 5 then rrem l h l2 h2 else ((rbits op l h l2 h2).1, (rbits op l h l2 h2).2, [])) := by
   intro c hc
   refine W.step (fun k => by simp only [spec_RangeDo.j1, nsIn, Option.bind_some]; rfl) ?_
   refine W.ite (fun h1 => ?_) (fun h1 => ?_)
   ·have g := hc.1 h1
    refine W.bind (sDiv g o1 n1 o2 n2) ?_
    rintro _ rfl
    refine W.ret ?_
    rw [if_neg (show ¬ op ≤ 3 by omega), if_neg (show ¬ op ≥ 11 by omega), if_neg (show ¬ op ≥ 9 by omega)]
    rcases g with rfl | rfl <;> rfl
   have g : ¬ (op = 4 ∨ op = 5) := fun z => h1 (hc.2 z)
   refine W.dec (fun g2 => ?_) (fun g2 => ?_)
   ·refine W.bind (sBitsR (by omega) hl hh hl2 hh2) ?_
    rintro _ rfl
    refine W.ret ?_
    rw [if_neg (show ¬ op ≤ 3 by omega), if_neg (show ¬ op ≥ 11 by omega), if_neg (show ¬ op ≥ 9 by omega), if_neg (show ¬ op = 4 by omega), if_neg (show ¬ op = 5 by omega)]
   have p2 : ∀ c : Bool, (c = true ↔ (op = 9 ∨ op = 10)) → W (fun k => spec_RangeDo.j2 k op [] c l h l2 h2 l2 h2) (· = if op ≤ 3 then ((cut (crn op l h l2 h2).1 (crn op l h l2 h2).2).1, (cut (crn op l h l2 h2).1 (crn op l h l2 h2).2).2, if (crn op l h l2 h2).1 < -2147483648 ∨ (crn op l h l2 h2).2 > 2147483647 then [1] else [])
    else if op ≥ 11 then ((rwrap op l h l2 h2).1, (rwrap op l h l2 h2).2, []) else if op ≥ 9 then rshift op l h l2 h2 else if op = 4 then rdiv l h l2 h2 else if op = 5 then rrem l h l2 h2 else ((rbits op l h l2 h2).1, (rbits op l h l2 h2).2, [])) := by
    intro c hc
    by_cases h3 : op = 9 ∨ op = 10
    ·rw [if_neg (show ¬ op ≤ 3 by omega), if_neg (show ¬ op ≥ 11 by omega), if_pos (show op ≥ 9 by omega), hc.2 h3]
     exact shift h3
    ·have := plain c (by cases c; rfl; exact absurd (hc.1 rfl) h3) h3 (by omega)
     by_cases h4 : op ≤ 3
     ·rw [if_pos h4] at this; rw [if_pos h4]; exact this
     ·rw [if_neg h4] at this; rw [if_neg h4, if_pos (show op ≥ 11 by omega)]; exact this
   refine W.ite (fun h3 => p2 _ ?_) (fun h3 => p2 _ ?_)
   ·simp [h3]
   ·simp only [beq_iff_eq]; omega
  refine W.ite (fun h3 => t1 _ ?_) (fun h3 => t1 _ ?_)
  ·simp [h3]
  ·simp only [beq_iff_eq]; omega
 unfold spec_RangeDo.f
 simp only [nsIn, sRangeOk, spec_l8None.f, Option.bind_some, bIsNone]
 refine W.dec (fun h1 => W.dec (fun h3 => W.dec (fun h4 => W.dec (fun h5 => bad ?_) (fun h5 => ?_)) (fun h4 => bad ?_)) (fun h3 => bad ?_)) (fun h1 => bad ?_)
 ·exact .inr (.inr (.inr (.inl ((okR_gt h3).2 h5))))
 ·by_cases h6 : isNone l2 h2
  ·rw [decide_eq_true h6]; exact bad (.inr (.inr (.inr (.inr ((okR_gt h4).2 h6)))))
  ·rw [decide_eq_false h6]
   refine good ?_
   unfold badDo
   rw [← okR_gt h3] at h5
   rw [← okR_gt h4] at h6
   simp only [h3, h4, not_true, false_or]
   omega
 ·exact .inr (.inr (.inl h4))
 ·exact .inr (.inl h3)
 ·exact .inl h1

def badV (l h m t l2 h2 m2 t2 : Int) : Prop := ¬ okV l h m t ∨ ¬ okV l2 h2 m2 t2 ∨ isNV l h m t ∨ isNV l2 h2 m2 t2
instance (l h m t l2 h2 m2 t2 : Int) : Decidable (badV l h m t l2 h2 m2 t2) := by unfold badV; exact inferInstance

/-! ### what an operator makes of two vals -/
def doV (op l h m t l2 h2 m2 t2 : Int) : Int × Int × Int × Int × List Int :=
 if badV l h m t l2 h2 m2 t2 then (1, 0, 0, 0, []) else
 let r := rangeDo op l h l2 h2
 let s := doS op m t m2 t2
 let x := mkV r.1 r.2.1 s.1 s.2
 (x.1, x.2.1, x.2.2.1, x.2.2.2, r.2.2)
theorem iValDo (op l h m t l2 h2 m2 t2 : Int) : W (fun k => impl_ValDo.f k op l h m t l2 h2 m2 t2) (· = doV op l h m t l2 h2 m2 t2) := by
 have bad : badV l h m t l2 h2 m2 t2 → W (fun k => impl_ValDo.j0 k op true l h m t l2 h2 m2 t2) (· = doV op l h m t l2 h2 m2 t2) := by
  intro hb
  refine W.step (fun k => by simp only [impl_ValDo.j0, impl_valNone.f, Option.bind_some]; rfl) ?_
  exact W.pos (by trivial) (W.ret (by unfold doV; rw [if_pos hb]))
 have good : ¬ badV l h m t l2 h2 m2 t2 → W (fun k => impl_ValDo.j0 k op false l h m t l2 h2 m2 t2) (· = doV op l h m t l2 h2 m2 t2) := by
  intro hb
  refine W.step (fun k => by simp only [impl_ValDo.j0, impl_Val_span.f, impl_Val_rest.f, Option.bind_some]; rfl) ?_
  refine W.neg (by decide) ?_
  unfold doV
  rw [if_neg hb]
  refine W.bind (iRangeDo op l h l2 h2) ?_
  rintro _ rfl
  refine W.bind (iRestDo op m t m2 t2) ?_
  rintro _ rfl
  refine W.bind (iValMake _ _ _ _) ?_
  rintro _ rfl
  exact W.ret rfl
 unfold impl_ValDo.f
 refine W.bind (iValOk l h m t) ?_
 rintro _ rfl
 refine W.dec (fun h1 => ?_) (fun h1 => bad (.inl h1))
 refine W.bind (iValOk l2 h2 m2 t2) ?_
 rintro _ rfl
 refine W.dec (fun h3 => ?_) (fun h3 => bad (.inr (.inl h3)))
 simp only [iVal_none, Option.bind_some]
 refine W.dec (fun h4 => bad (.inr (.inr (.inl h4)))) (fun h4 => ?_)
 by_cases h5 : isNV l2 h2 m2 t2
 ·rw [decide_eq_true h5]; exact bad (.inr (.inr (.inr h5)))
 ·rw [decide_eq_false h5]
  exact good (fun z => z.elim (fun z => z h1) (fun z => z.elim (fun z => z h3) (fun z => z.elim h4 h5)))
theorem sValDo (op l h m t l2 h2 m2 t2 : Int) : W (fun k => spec_ValDo.f k op l h m t l2 h2 m2 t2) (· = doV op l h m t l2 h2 m2 t2) := by
 have bad : badV l h m t l2 h2 m2 t2 → W (fun k => spec_ValDo.j0 k op true l h m t l2 h2 m2 t2) (· = doV op l h m t l2 h2 m2 t2) := by
  intro hb
  refine W.step (fun k => by simp only [spec_ValDo.j0, spec_l10None.f, Option.bind_some]; rfl) ?_
  exact W.pos (by trivial) (W.ret (by unfold doV; rw [if_pos hb]))
 have good : ¬ badV l h m t l2 h2 m2 t2 → W (fun k => spec_ValDo.j0 k op false l h m t l2 h2 m2 t2) (· = doV op l h m t l2 h2 m2 t2) := by
  intro hb
  refine W.step (fun k => by simp only [spec_ValDo.j0, spec_l10Range.f, spec_l10Rest.f, Option.bind_some]; rfl) ?_
  refine W.neg (by decide) ?_
  unfold doV
  rw [if_neg hb]
  refine W.bind (sRangeDo op l h l2 h2) ?_
  rintro _ rfl
  refine W.bind (sRestDo op m t m2 t2) ?_
  rintro _ rfl
  refine W.bind (sValMake _ _ _ _) ?_
  rintro _ rfl
  exact W.ret rfl
 unfold spec_ValDo.f
 refine W.bind (sValOk l h m t) ?_
 rintro _ rfl
 refine W.dec (fun h1 => ?_) (fun h1 => bad (.inl h1))
 refine W.bind (sValOk l2 h2 m2 t2) ?_
 rintro _ rfl
 refine W.dec (fun h3 => ?_) (fun h3 => bad (.inr (.inl h3)))
 simp only [spec_l10None.f, Option.bind_some, bNV]
 refine W.dec (fun h4 => bad (.inr (.inr (.inl h4)))) (fun h4 => ?_)
 by_cases h5 : isNV l2 h2 m2 t2
 ·rw [decide_eq_true h5]; exact bad (.inr (.inr (.inr h5)))
 ·rw [decide_eq_false h5]
  exact good (fun z => z.elim (fun z => z h1) (fun z => z.elim (fun z => z h3) (fun z => z.elim h4 h5)))
theorem rangeDo_len (op l h l2 h2 : Int) : (rangeDo op l h l2 h2).2.2.length ≤ 2 := by
 unfold rangeDo rshift rdiv rrem
 repeat' split
 all_goals simp
theorem doV_len (op l h m t l2 h2 m2 t2 : Int) : (doV op l h m t l2 h2 m2 t2).2.2.2.2.length ≤ 2 := by
 unfold doV
 split
 ·simp
 ·exact rangeDo_len op l h l2 h2

theorem eqInts_loop {xs : List Int} (hx : xs.length ≤ 1048576) (d : Nat) : ∀ i : Nat, i ≤ xs.length → xs.length - i = d → W (fun k => laws_eqIntS.l0 k xs xs (i : Int)) (· = true) := by
 induction d with
 | zero =>
  intro i hi hd
  refine W.step (fun k => by simp only [laws_eqIntS.l0]; rfl) ?_
  exact W.neg (by omega) (W.ret rfl)
 | succ d ih =>
  intro i hi hd
  refine W.step (fun k => by simp only [laws_eqIntS.l0]; rfl) ?_
  refine W.pos (by omega) (W.pos (by omega) (W.pos (by omega) (W.pos (by trivial) ?_)))
  rw [wrap64_id (n := (i : Int) + 1) (by omega) (by omega), show (i : Int) + 1 = ((i + 1 : Nat) : Int) by omega]
  exact ih (i + 1) (by omega) (by omega)
theorem eqInts {xs : List Int} (hx : xs.length ≤ 1048576) : W (fun k => laws_eqIntS.f k xs xs) (· = true) := by
 unfold laws_eqIntS.f
 refine W.pos (by trivial) ?_
 exact eqInts_loop hx _ 0 (by omega) rfl

/-! ### marks that are laid and held -/
def markL (k : Int) (n : Nat) : List Int := (List.range n).map fun (i : Nat) => k + (i : Int)
theorem markL_get {k : Int} {n i : Nat} (h : i < n) : rd (markL k n) (i : Int) = k + i := by
 have : i < (markL k n).length := by simpa [markL] using h
 simp [rd, List.getD_eq_getElem?_getD, markL, List.getElem?_range h]
theorem marks {xs : List Int} (hx : xs.length ≤ 9000000000000) (k0 : Int) (h0 : 0 ≤ k0) (h1 : k0 ≤ 9000000000000) : W (fun k => laws_markIntS.f k xs k0) (· = (k0 + xs.length, markL k0 xs.length)) := by
 unfold laws_markIntS.f
 have h : ∀ ys : List Int, ys.length = xs.length → ys.take 0 = (markL k0 xs.length).take 0 → W (fun k => laws_markIntS.l0 k ys (k0 + ((0 : Nat) : Int)) ((0 : Nat) : Int)) (· = (k0 + xs.length, markL k0 xs.length)) := by
  refine down_ind (Q := fun i => ∀ ys : List Int, ys.length = xs.length → ys.take i = (markL k0 xs.length).take i → W (fun k => laws_markIntS.l0 k ys (k0 + (i : Int)) (i : Int)) (· = (k0 + xs.length, markL k0 xs.length))) xs.length ?_ ?_
  ·intro ys hl ht
   refine W.step (fun k => by simp only [laws_markIntS.l0]; rfl) ?_
   refine W.neg (by omega) (W.ret ?_)
   have hm : (markL k0 xs.length).length = xs.length := by simp [markL]
   rw [← List.take_length (l := ys), hl, ht, show List.take xs.length (markL k0 xs.length) = markL k0 xs.length by rw [List.take_of_length_le (by omega)]]
  ·intro i hi ih ys hl ht
   refine W.step (fun k => by simp only [laws_markIntS.l0]; rfl) ?_
   refine W.pos (by omega) (W.pos (by omega) ?_)
   rw [wrap64_id (n := k0 + (i : Int) + 1) (by omega) (by omega), wrap64_id (n := (i : Int) + 1) (by omega) (by omega), show k0 + (i : Int) + 1 = k0 + ((i + 1 : Nat) : Int) by omega, show (i : Int) + 1 = ((i + 1 : Nat) : Int) by omega, Int.toNat_natCast]
   refine ih _ (by simp [hl]) ?_
   have h1 : i < (ys.set i (k0 + (i : Int))).length := by simp [hl, hi]
   have h2 : i < (markL k0 xs.length).length := by simpa [markL] using hi
   rw [List.take_succ_eq_append_getElem h1, List.take_succ_eq_append_getElem h2, List.getElem_set_self, List.take_set_of_le (by omega), ht]
   simp [markL]
 have := h xs rfl rfl
 simpa using this
theorem helds {n : Nat} (hx : n ≤ 9000000000000) (k0 : Int) (h0 : 0 ≤ k0) (h1 : k0 ≤ 9000000000000) : W (fun k => laws_heldIntS.f k (markL k0 n) k0) (· = k0 + n) := by
 unfold laws_heldIntS.f
 have hm : (markL k0 n).length = n := by simp [markL]
 have h : W (fun k => laws_heldIntS.l0 k (markL k0 n) (k0 + ((0 : Nat) : Int)) ((0 : Nat) : Int)) (· = k0 + n) := by
  refine down_ind (Q := fun i => W (fun k => laws_heldIntS.l0 k (markL k0 n) (k0 + (i : Int)) (i : Int)) (· = k0 + n)) n ?_ ?_
  ·refine W.step (fun k => by simp only [laws_heldIntS.l0]; rfl) ?_
   exact W.neg (by omega) (W.ret rfl)
  ·intro i hi ih
   refine W.step (fun k => by simp only [laws_heldIntS.l0]; rfl) ?_
   refine W.pos (by omega) (W.pos (by omega) (W.pos (markL_get hi) ?_))
   rw [wrap64_id (n := k0 + (i : Int) + 1) (by omega) (by omega), wrap64_id (n := (i : Int) + 1) (by omega) (by omega), show k0 + (i : Int) + 1 = k0 + ((i + 1 : Nat) : Int) by omega, show (i : Int) + 1 = ((i + 1 : Nat) : Int) by omega]
   exact ih
 simpa using h

theorem eqVal_same (a b c d : Int) : laws_eqVal.f a b c d a b c d = some true := by simp [laws_eqVal.f]
theorem FnExactValDo (n a b c d e f g h : Int) (_ : (Lit.int .i64 n).wf = true) (_ : (Lit.int .i64 a).wf = true) (_ : (Lit.int .i64 b).wf = true) (_ : (Lit.int .i64 c).wf = true) (_ : (Lit.int .i64 d).wf = true) (_ : (Lit.int .i64 e).wf = true) (_ : (Lit.int .i64 f).wf = true) (_ : (Lit.int .i64 g).wf = true) (_ : (Lit.int .i64 h).wf = true) : ∃ k, laws_FnExactValDo.f k n a b c d e f g h = some true := by
 apply W.eq
 have hF := doV_len n a b c d e f g h
 unfold laws_FnExactValDo.f
 simp only [laws_toVal.f, Option.bind_some]
 refine W.bind (sValDo n a b c d e f g h) ?_
 rintro _ rfl
 refine W.bind (iValDo n a b c d e f g h) ?_
 rintro _ rfl
 generalize hG : doV n a b c d e f g h = r at hF ⊢
 simp only [eqVal_same, Option.bind_some]
 refine W.pos (by trivial) ?_
 refine W.bind (eqInts (by omega)) ?_
 rintro _ rfl
 refine W.step (fun k => by simp only [laws_FnExactValDo.j0, laws_toVal.f, Option.bind_some]; rfl) ?_
 refine W.neg (by decide) ?_
 refine W.bind (marks (by omega) 1 (by omega) (by omega)) ?_
 rintro _ rfl
 refine W.bind (helds (by omega) 1 (by omega) (by omega)) ?_
 rintro _ rfl
 refine W.neg (by omega) (W.pos rfl ?_)
 refine W.bind (iValDo n a b c d e f g h) ?_
 rintro _ rfl
 rw [hG]
 simp only [eqVal_same, Option.bind_some]
 refine W.pos (by trivial) ?_
 refine W.bind (eqInts (by omega)) ?_
 rintro _ rfl
 refine W.step (fun k => by simp only [laws_FnExactValDo.j1]; rfl) ?_
 refine W.neg (by decide) ?_
 refine W.bind (helds (by omega) 1 (by omega) (by omega)) ?_
 rintro _ rfl
 exact W.neg (by omega) (W.pos rfl (W.ret rfl))

end Go.Proofs.Ythbkakcchgnhpaa.Pure
