/- The pure statement of the law FnRangeMore: for every input the printed function answers true. -/
import Derived.Test.YthbkakcchgnhpaaPFnRangeMorex0
import Derived.Test.YthbkakcchgnhpaaPFnRangeMorex1
import Derived.Test.YthbkakcchgnhpaaPFnRangeMorex10
import Derived.Test.YthbkakcchgnhpaaPFnRangeMorex11
import Derived.Test.YthbkakcchgnhpaaPFnRangeMorex12
import Derived.Test.YthbkakcchgnhpaaPFnRangeMorex13
import Derived.Test.YthbkakcchgnhpaaPFnRangeMorex14
import Derived.Test.YthbkakcchgnhpaaPFnRangeMorex15
import Derived.Test.YthbkakcchgnhpaaPFnRangeMorex16
import Derived.Test.YthbkakcchgnhpaaPFnRangeMorex17
import Derived.Test.YthbkakcchgnhpaaPFnRangeMorex18
import Derived.Test.YthbkakcchgnhpaaPFnRangeMorex19
import Derived.Test.YthbkakcchgnhpaaPFnRangeMorex2
import Derived.Test.YthbkakcchgnhpaaPFnRangeMorex20
import Derived.Test.YthbkakcchgnhpaaPFnRangeMorex21
import Derived.Test.YthbkakcchgnhpaaPFnRangeMorex22
import Derived.Test.YthbkakcchgnhpaaPFnRangeMorex23
import Derived.Test.YthbkakcchgnhpaaPFnRangeMorex24
import Derived.Test.YthbkakcchgnhpaaPFnRangeMorex25
import Derived.Test.YthbkakcchgnhpaaPFnRangeMorex26
import Derived.Test.YthbkakcchgnhpaaPFnRangeMorex3
import Derived.Test.YthbkakcchgnhpaaPFnRangeMorex4
import Derived.Test.YthbkakcchgnhpaaPFnRangeMorex5
import Derived.Test.YthbkakcchgnhpaaPFnRangeMorex6
import Derived.Test.YthbkakcchgnhpaaPFnRangeMorex7
import Derived.Test.YthbkakcchgnhpaaPFnRangeMorex8
import Derived.Test.YthbkakcchgnhpaaPFnRangeMorex9
import Derived.Test.YthbkakcchgnhpaaLv
namespace Go.Proofs.Ythbkakcchgnhpaa.Pure
open Go Go.RowKit Go.Proofs.Ythbkakcchgnhpaa.PFnRangeMore Go.Proofs.YthbkakcchgnhpaaV.PrintWords Go.Proofs.YthbkakcchgnhpaaV.PrintLast Go.Proofs.YthbkakcchgnhpaaV.PrintMore Go.Proofs.Ythbkakcchgnhpaa.Lib
set_option linter.unusedVariables false
set_option linter.unusedSimpArgs false

def okN (v : Int) : Prop := -2147483648 ≤ v ∧ v ≤ 2147483647
instance (v : Int) : Decidable (okN v) := by unfold okN; exact inferInstance
theorem sNumOk (v : Int) : spec_NumOk.f v = some (decide (okN v)) := by
  simp only [spec_NumOk.f, spec_l1In.f, okN]
  by_cases h : v ≥ -2147483648 <;> simp [h]
theorem iNumOk (v : Int) : impl_NumOk.f v = some (decide (okN v)) := by
  simp only [impl_NumOk.f, okN]
  by_cases h : v ≥ -2147483648 <;> simp [h]

theorem tmod_pos {a n : Int} (h : 0 ≤ a) (hn : 1 ≤ n) : 0 ≤ a.tmod n ∧ a.tmod n < n := by
  rw [Int.tmod_eq_emod_of_nonneg h]
  exact ⟨Int.emod_nonneg _ (by omega), Int.emod_lt_of_pos _ (by omega)⟩

theorem power_loop (n : Int) (hn : n ≤ 61) (d : Nat) : ∀ i : Int, 0 ≤ i → i ≤ n → n - i = d → W (fun k => spec_l1Power.l0 k n (2 ^ i.toNat) i) (· = 2 ^ n.toNat) := by
  induction d with
  | zero =>
    intro i h0 h1 hd
    refine W.step (fun k => by simp only [spec_l1Power.l0]; rfl) ?_
    exact W.neg (by omega) (W.ret (by rw [show i = n by omega]))
  | succ d ih =>
    intro i h0 h1 hd
    refine W.step (fun k => by simp only [spec_l1Power.l0]; rfl) ?_
    refine W.pos (by omega) ?_
    have hp : (2 : Int) ^ i.toNat ≤ 2 ^ 61 := pow_mono (by omega)
    have hq := pow_pos' i.toNat
    have h := ih (i + 1) (by omega) (by omega) (by omega)
    rw [show (i + 1).toNat = i.toNat + 1 by omega, Int.pow_succ, Int.mul_comm] at h
    rw [wrap64_id (n := i + 1) (by omega) (by omega), wrap64_id (n := 2 * 2 ^ i.toNat) (by omega) (by omega)]
    exact h
theorem power_ok (n : Int) (h0 : 0 ≤ n) (hn : n ≤ 61) : W (fun k => spec_l1Power.f k n) (· = 2 ^ n.toNat) := by
  unfold spec_l1Power.f
  exact power_loop n hn n.toNat 0 (by omega) h0 (by omega)

theorem sNumWrap (a : Int) (h0 : -9223372036854775808 ≤ a) (h1 : a ≤ 9223372036854775807) : spec_NumWrap.f a = some (wrap32 a) := by
  simp only [spec_NumWrap.f, spec_l1Mod.f]
  have e := tmod_up (n := a) (m := 4294967296) (by omega)
  have b := tmod_bounds (n := a) (m := 4294967296) (by omega)
  rw [if_neg (by omega)]
  by_cases hn : a.tmod 4294967296 < 0
  · rw [if_pos hn] at e ⊢
    rw [wrap64_id (by omega) (by omega), e]
    simp only [Option.bind_some]
    by_cases hm : a % 4294967296 > 2147483647
    · rw [if_pos hm]
      congr 1; unfold wrap64 wrap32; omega
    · rw [if_neg hm]
      congr 1; unfold wrap32; omega
  · rw [if_neg hn] at e ⊢
    rw [e]
    simp only [Option.bind_some]
    by_cases hm : a % 4294967296 > 2147483647
    · rw [if_pos hm]
      congr 1; unfold wrap64 wrap32; omega
    · rw [if_neg hm]
      congr 1; unfold wrap32; omega
theorem wrap32_ok (a : Int) : -2147483648 ≤ wrap32 a ∧ wrap32 a ≤ 2147483647 := by unfold wrap32; omega
theorem wrap64_ok (a : Int) : -9223372036854775808 ≤ wrap64 a ∧ wrap64 a ≤ 9223372036854775807 := by unfold wrap64; omega


/-! ### the reader of codes -/
theorem rd_byte {b : List Int} (hb : ∀ x ∈ b, 0 ≤ x ∧ x ≤ 255) (i : Int) : 0 ≤ rd b i ∧ rd b i ≤ 255 := by
  unfold rd
  rw [List.getD_eq_getElem?_getD]
  by_cases h : i.toNat < b.length
  · rw [List.getElem?_eq_getElem h]; exact hb _ (List.getElem_mem h)
  · rw [List.getElem?_eq_none (by omega)]; simp
theorem xor64 {a b : Int} (h0 : 0 ≤ a) (h1 : a ≤ 9223372036854775807) (h2 : 0 ≤ b) (h3 : b ≤ 9223372036854775807) : 0 ≤ Go.bits .xor .i64 a b := by
  show 0 ≤ IntKind.i64.wrap ((BitVec.ofInt 64 a ^^^ BitVec.ofInt 64 b).toNat : Int)
  rw [wrap64_bv]
  have e : ∀ x : Int, 0 ≤ x → x ≤ 9223372036854775807 → (BitVec.ofInt 64 x).toNat = x.toNat := by
    intro x g0 g1
    rw [BitVec.toNat_ofInt]; congr 1; exact Int.emod_eq_of_lt g0 (by omega)
  rw [BitVec.toInt_eq_toNat_cond, BitVec.toNat_xor, e a h0 h1, e b h2 h3]
  have := Nat.xor_lt_two_pow (n := 63) (x := a.toNat) (y := b.toNat) (by omega) (by omega)
  rw [if_pos (by omega)]
  omega
def Pick (p n : Int) (r : Int × Int) : Prop := r.2 = p + 1 ∧ (1 ≤ n → 0 ≤ r.1 ∧ r.1 < n)
theorem pick_ok {b : List Int} (hb : ∀ x ∈ b, 0 ≤ x ∧ x ≤ 255) (hl : b.length ≤ 2000) (p n : Int) (hp : 0 ≤ p) (hq : p ≤ 1000000) : W (fun k => spec_l1Rd_pick.f k b p n) (Pick p n) := by
  unfold spec_l1Rd_pick.f
  rw [wrap64_id (n := p + 1) (by omega) (by omega)]
  refine W.ite (fun h => ?_) (fun h => ?_)
  · exact W.step (f := fun _ => some (0, p + 1)) (fun k => by simp only [spec_l1Rd_pick.j0, if_true]) (W.ret ⟨rfl, fun h1 => by omega⟩)
  · by_cases hz : b.length = 0
    · exact W.step (f := fun _ => some (0, p + 1)) (fun k => by simp only [spec_l1Rd_pick.j0, hz]; rfl) (W.ret ⟨rfl, fun h1 => by simp only; omega⟩)
    · have e : ((b.length : Int) == 0) = false := by simpa using hz
      rw [e]
      refine W.step (fun k => by simp only [spec_l1Rd_pick.j0]; rfl) ?_
      rw [show p + 1 - 1 = p by omega, wrap64_id (n := p) (by omega) (by omega)]
      refine W.neg (by decide) ?_
      have hn0 : ¬ n = 0 := by omega
      have ht : ∀ x : Int, 0 ≤ x → Pick p n (x.tmod n, p + 1) := fun x hx => ⟨rfl, fun h1 => tmod_pos hx h1⟩
      refine W.ite (fun h1 => ?_) (fun h1 => ?_)
      · refine W.pos hp (W.neg hn0 (W.ret ?_))
        have := rd_byte hb p
        rw [wrap64_id (by omega) (by omega)]
        exact ht _ this.1
      · have hL : (1 : Int) ≤ b.length := by omega
        refine W.neg (by omega) ?_
        have t1 := tmod_pos (a := p) hp hL
        have t2 := tmod_pos (a := p * 7 + 3) (by omega) hL
        rw [wrap64_id (n := p * 7) (by omega) (by omega), wrap64_id (n := p * 7 + 3) (by omega) (by omega)]
        refine W.pos t1.1 (W.pos t1.2 (W.pos t2.1 (W.pos t2.2 (W.neg hn0 (W.ret ?_)))))
        have r1 := rd_byte hb (Int.tmod p b.length)
        have r2 := rd_byte hb (Int.tmod (p * 7 + 3) b.length)
        have d1 : 0 ≤ Int.tdiv p b.length ∧ Int.tdiv p b.length ≤ p := by
          rw [Int.tdiv_eq_ediv_of_nonneg hp]
          exact ⟨Int.ediv_nonneg hp (by omega), Int.ediv_le_self _ hp⟩
        generalize rd b (Int.tmod p b.length) = c1 at *
        generalize rd b (Int.tmod (p * 7 + 3) b.length) = c2 at *
        generalize Int.tdiv p b.length = c3 at *
        rw [wrap64_id (n := c1) (by omega) (by omega), wrap64_id (n := c2) (by omega) (by omega), wrap64_id (n := c3) (by omega) (by omega), wrap64_id (n := c1 * 131) (by omega) (by omega), wrap64_id (n := c2 * 1117) (by omega) (by omega),
          wrap64_id (n := c1 * 131 + c2 * 1117) (by omega) (by omega), wrap64_id (n := p * 29) (by omega) (by omega), wrap64_id (n := c1 * 131 + c2 * 1117 + p * 29) (by omega) (by omega), wrap64_id (n := c3 * 53) (by omega) (by omega),
          wrap64_id (n := c1 * 131 + c2 * 1117 + p * 29 + c3 * 53) (by omega) (by omega)]
        refine ht _ (xor64 (by omega) (by omega) ?_ ?_)
        · rw [Int.tdiv_eq_ediv_of_nonneg (by omega), wrap64_id (by omega) (by omega)]; omega
        · rw [Int.tdiv_eq_ediv_of_nonneg (by omega), wrap64_id (by omega) (by omega)]; omega

def Num (p m : Int) (r : Int × Int) : Prop := (-2147483648 ≤ r.1 ∧ r.1 ≤ 2147483647) ∧ p ≤ r.2 ∧ r.2 ≤ p + m
theorem num_loop {b : List Int} (hb : ∀ x ∈ b, 0 ≤ x ∧ x ≤ 255) (hl : b.length ≤ 2000) (d : Nat) : ∀ (v i p : Int), 0 ≤ i → i ≤ 4 → 4 - i = d → 0 ≤ p → p + d ≤ 999000 → W (fun k => spec_l1Rd_num.l0 k v i b p) (Num p d) := by
  induction d with
  | zero =>
    intro v i p h0 h1 hd hp hq
    refine W.step (fun k => by simp only [spec_l1Rd_num.l0]; rfl) ?_
    refine W.neg (by omega) ?_
    by_cases hv : -9223372036854775808 ≤ v ∧ v ≤ 9223372036854775807
    · refine W.bind (W.const (sNumWrap v hv.1 hv.2) rfl) ?_
      rintro _ rfl
      exact W.ret ⟨wrap32_ok v, by simp only; omega, by simp only; omega⟩
    · have he : spec_NumWrap.f v = spec_NumWrap.f v := rfl
      obtain ⟨r, hr, ho⟩ : ∃ r, spec_NumWrap.f v = some r ∧ (-2147483648 ≤ r ∧ r ≤ 2147483647) := by
        simp only [spec_NumWrap.f, spec_l1Mod.f]
        have e := tmod_up (n := v) (m := 4294967296) (by omega)
        have b := tmod_bounds (n := v) (m := 4294967296) (by omega)
        rw [if_neg (by omega)]
        by_cases hn : v.tmod 4294967296 < 0
        · rw [if_pos hn] at e ⊢
          rw [wrap64_id (by omega) (by omega), e]
          simp only [Option.bind_some]
          by_cases hm : v % 4294967296 > 2147483647
          · rw [if_pos hm]; exact ⟨_, rfl, by rw [wrap64_id (by omega) (by omega)]; omega⟩
          · rw [if_neg hm]; exact ⟨_, rfl, by omega⟩
        · rw [if_neg hn] at e ⊢
          rw [e]
          simp only [Option.bind_some]
          by_cases hm : v % 4294967296 > 2147483647
          · rw [if_pos hm]; exact ⟨_, rfl, by rw [wrap64_id (by omega) (by omega)]; omega⟩
          · rw [if_neg hm]; exact ⟨_, rfl, by omega⟩
      refine W.bind (W.const hr rfl) ?_
      rintro _ rfl
      exact W.ret ⟨ho, by simp only; omega, by simp only; omega⟩
  | succ d ih =>
    intro v i p h0 h1 hd hp hq
    refine W.step (fun k => by simp only [spec_l1Rd_num.l0]; rfl) ?_
    refine W.pos (by omega) ?_
    refine W.bind (pick_ok hb hl p 256 hp (by omega)) ?_
    rintro ⟨c, q⟩ ⟨rfl, _⟩
    rw [wrap64_id (n := i + 1) (by omega) (by omega)]
    refine (ih _ (i + 1) (p + 1) (by omega) (by omega) (by omega) (by omega) (by omega)).mono ?_
    rintro r ⟨h1, h2, h3⟩
    exact ⟨h1, by omega, by omega⟩
theorem num_ok {b : List Int} (hb : ∀ x ∈ b, 0 ≤ x ∧ x ≤ 255) (hl : b.length ≤ 2000) (p : Int) (hp : 0 ≤ p) (hq : p ≤ 900000) : W (fun k => spec_l1Rd_num.f k b p) (Num p 6) := by
  unfold spec_l1Rd_num.f
  refine W.bind (pick_ok hb hl p 10 hp (by omega)) ?_
  rintro ⟨c, q⟩ ⟨rfl, _⟩
  simp only
  refine W.ite (fun _ => ?_) (fun _ => W.ite (fun _ => ?_) (fun _ => W.ite (fun _ => ?_) (fun _ => W.ite (fun _ => ?_) (fun _ => W.ite (fun _ => ?_) (fun _ => ?_)))))
  · refine W.bind (pick_ok hb hl (p + 1) 21 (by omega) (by omega)) ?_
    rintro ⟨c, q⟩ ⟨rfl, h⟩
    have h := h (by omega)
    simp only at h
    exact W.ret ⟨by simp only; rw [wrap64_id (by omega) (by omega)]; omega, by simp only; omega, by simp only; omega⟩
  · refine W.bind (pick_ok hb hl (p + 1) 3 (by omega) (by omega)) ?_
    rintro ⟨c, q⟩ ⟨rfl, h⟩
    have h := h (by omega)
    simp only at h
    exact W.ret ⟨by simp only; rw [wrap64_id (by omega) (by omega)]; omega, by simp only; omega, by simp only; omega⟩
  · refine W.bind (pick_ok hb hl (p + 1) 3 (by omega) (by omega)) ?_
    rintro ⟨c, q⟩ ⟨rfl, h⟩
    have h := h (by omega)
    simp only at h
    exact W.ret ⟨by simp only; rw [wrap64_id (by omega) (by omega)]; omega, by simp only; omega, by simp only; omega⟩
  · refine W.bind (pick_ok hb hl (p + 1) 31 (by omega) (by omega)) ?_
    rintro ⟨c, q⟩ ⟨rfl, h⟩
    have h := h (by omega)
    simp only at h
    refine W.bind (power_ok c (by omega) (by omega)) ?_
    rintro _ rfl
    have hp1 : (2 : Int) ^ c.toNat ≤ 2 ^ 30 := pow_mono (by omega)
    have hp2 := pow_pos' c.toNat
    refine W.bind (pick_ok hb hl (p + 1 + 1) 3 (by omega) (by omega)) ?_
    rintro ⟨c2, q⟩ ⟨rfl, h⟩
    have h := h (by omega)
    simp only at h
    refine W.ret ⟨?_, by simp only; omega, by simp only; omega⟩
    simp only
    rw [wrap64_id (n := 2 ^ c.toNat + c2) (by omega) (by omega), wrap64_id (by omega) (by omega)]; omega
  · refine W.bind (pick_ok hb hl (p + 1) 31 (by omega) (by omega)) ?_
    rintro ⟨c, q⟩ ⟨rfl, h⟩
    have h := h (by omega)
    simp only at h
    refine W.bind (power_ok c (by omega) (by omega)) ?_
    rintro _ rfl
    have hp1 : (2 : Int) ^ c.toNat ≤ 2 ^ 30 := pow_mono (by omega)
    have hp2 := pow_pos' c.toNat
    refine W.bind (pick_ok hb hl (p + 1 + 1) 3 (by omega) (by omega)) ?_
    rintro ⟨c2, q⟩ ⟨rfl, h⟩
    have h := h (by omega)
    simp only at h
    refine W.ret ⟨?_, by simp only; omega, by simp only; omega⟩
    simp only
    rw [wrap64_id (n := -2 ^ c.toNat) (by omega) (by omega), wrap64_id (n := -2 ^ c.toNat + c2) (by omega) (by omega), wrap64_id (by omega) (by omega)]; omega
  · refine (num_loop hb hl 4 0 0 (p + 1) (by omega) (by omega) (by omega) (by omega) (by omega)).mono ?_
    rintro r ⟨h1, h2, h3⟩
    exact ⟨h1, by omega, by omega⟩
theorem open_ok (code : List Int) (hb : ∀ x ∈ code, (Lit.int .u8 x).wf = true) : ∃ b, spec_l1Open.f code = some (b, 0) ∧ b.length ≤ 2000 ∧ ∀ x ∈ b, 0 ≤ x ∧ x ≤ 255 := by
  unfold spec_l1Open.f
  by_cases h : (code.length : Int) > 2000
  · rw [if_pos h, if_pos (by omega)]
    exact ⟨_, rfl, by simp; omega, fun x hx => u8_wf (hb x (List.mem_of_mem_take hx))⟩
  · rw [if_neg h]
    exact ⟨_, rfl, by omega, fun x hx => u8_wf (hb x hx)⟩

/-! ### what an operator makes of two numbers -/
def exactV (op a b : Int) : Int :=
  if op = 1 ∨ op = 11 then a + b else if op = 2 ∨ op = 12 then a - b else if op = 3 ∨ op = 13 then a * b else if op = 4 then a.tdiv b else if op = 5 then a.tmod b
  else if op = 6 then s32 (u32 a &&& u32 b) else if op = 7 then s32 (u32 a ||| u32 b) else if op = 8 then s32 (u32 a ^^^ u32 b) else if op = 9 then a * 2 ^ b.toNat else if op = 10 then a / 2 ^ b.toNat else 0
theorem mul_bound {a b : Int} (ha : -2147483648 ≤ a ∧ a ≤ 2147483647) (hb : -2147483648 ≤ b ∧ b ≤ 2147483647) : -4611686018427387904 ≤ a * b ∧ a * b ≤ 4611686018427387904 := by
  have h : (a * b).natAbs ≤ 2147483648 * 2147483648 := by
    rw [Int.natAbs_mul]; exact Nat.mul_le_mul (by omega) (by omega)
  omega
theorem mul_bound2 {a b : Int} (ha : -2147483648 ≤ a ∧ a ≤ 2147483647) (hb : 0 ≤ b ∧ b ≤ 2147483648) : -4611686018427387904 ≤ a * b ∧ a * b ≤ 4611686018427387904 := by
  have h : (a * b).natAbs ≤ 2147483648 * 2147483648 := by
    rw [Int.natAbs_mul]; exact Nat.mul_le_mul (by omega) (by omega)
  omega
theorem pow31 {b : Int} (h : b ≤ 31) : (2 : Int) ^ b.toNat ≤ 2147483648 := pow_mono (b := 31) (by omega)
theorem tdiv_bound {a b : Int} (ha : -2147483648 ≤ a ∧ a ≤ 2147483647) : -2147483648 ≤ a.tdiv b ∧ a.tdiv b ≤ 2147483648 := by
  have h : (a.tdiv b).natAbs ≤ a.natAbs := by rw [Int.natAbs_tdiv]; exact Nat.div_le_self _ _
  omega
theorem u64_small {i : Int} (h0 : 0 ≤ i) (h1 : i ≤ 1000) : IntKind.u64.wrap i = i := by
  simp [IntKind.wrap, IntKind.bits, IntKind.signed]; omega
theorem i64wrap {n : Int} (h0 : -9223372036854775808 ≤ n) (h1 : n ≤ 9223372036854775807) : IntKind.i64.wrap n = n := by
  simp [IntKind.wrap, IntKind.bits, IntKind.signed]; omega
theorem shl_id {x i : Int} (h0 : 0 ≤ i) (h1 : i ≤ 63) (hx : -9223372036854775808 ≤ x * 2 ^ i.toNat) (hy : x * 2 ^ i.toNat ≤ 9223372036854775807) : shl .i64 x i = x * 2 ^ i.toNat := by
  unfold shl
  rw [show min i.toNat IntKind.i64.bits = i.toNat by simp [IntKind.bits]; omega]
  exact i64wrap hx hy
theorem shr_id {x i : Int} (h0 : 0 ≤ i) (h1 : i ≤ 63) : shr .i64 x i = x / 2 ^ i.toNat := by
  unfold shr
  rw [show min i.toNat IntKind.i64.bits = i.toNat by simp [IntKind.bits]; omega]
/-- What the quotients, rests and shifts ask ahead. -/
def Fit (op b : Int) : Prop := (op = 4 ∨ op = 5 → b ≠ 0) ∧ (op = 9 ∨ op = 10 → 0 ≤ b ∧ b ≤ 31)
theorem ops {op : Int} (h : 1 ≤ op) (h1 : op ≤ 13) : op = 1 ∨ op = 2 ∨ op = 3 ∨ op = 4 ∨ op = 5 ∨ op = 6 ∨ op = 7 ∨ op = 8 ∨ op = 9 ∨ op = 10 ∨ op = 11 ∨ op = 12 ∨ op = 13 := by omega
theorem iExact {op a b : Int} (h : 1 ≤ op) (h1 : op ≤ 13) (ha : -2147483648 ≤ a ∧ a ≤ 2147483647) (hb : -2147483648 ≤ b ∧ b ≤ 2147483647) (hf : Fit op b) : W (fun k => impl_numExact.f k op a b) (· = exactV op a b) := by
  refine ⟨_, rfl, 3, fun k hk => ?_⟩
  obtain ⟨m, rfl⟩ : ∃ m, k = m + 3 := ⟨k - 3, by omega⟩
  obtain ⟨f1, f2⟩ := hf
  rcases ops h h1 with rfl | rfl | rfl | rfl | rfl | rfl | rfl | rfl | rfl | rfl | rfl | rfl | rfl
  · simp [impl_numExact.f, impl_numExact.j0, exactV]; exact wrap64_id (by omega) (by omega)
  · simp [impl_numExact.f, impl_numExact.j0, impl_numExact.j1, exactV]; exact wrap64_id (by omega) (by omega)
  · have := mul_bound ha hb; simp [impl_numExact.f, impl_numExact.j0, impl_numExact.j1, impl_numExact.j2, exactV]; exact wrap64_id (by omega) (by omega)
  · have := tdiv_bound (b := b) ha; have := f1 (by omega); simp [impl_numExact.f, impl_numExact.j0, impl_numExact.j1, impl_numExact.j2, exactV, this]; exact wrap64_id (by omega) (by omega)
  · have := f1 (by omega); simp [impl_numExact.f, impl_numExact.j0, impl_numExact.j1, impl_numExact.j2, exactV, this]
  · simp [impl_numExact.f, impl_numExact.j0, impl_numExact.j1, impl_numExact.j2, exactV]; exact bits_and ha.1 ha.2 hb.1 hb.2
  · simp [impl_numExact.f, impl_numExact.j0, impl_numExact.j1, impl_numExact.j2, exactV]; exact bits_or ha.1 ha.2 hb.1 hb.2
  · simp [impl_numExact.f, impl_numExact.j0, impl_numExact.j1, impl_numExact.j2, exactV]; exact bits_xor ha.1 ha.2 hb.1 hb.2
  · have hb' := f2 (by omega)
    have hw := u64_small hb'.1 (by omega)
    have hp := mul_bound2 ha ⟨Int.le_of_lt (pow_pos' b.toNat), pow31 hb'.2⟩
    simp [impl_numExact.f, impl_numExact.j0, impl_numExact.j1, impl_numExact.j2, exactV, hw, hb'.1]; exact shl_id hb'.1 (by omega) (by omega) (by omega)
  · have hb' := f2 (by omega)
    have hw := u64_small hb'.1 (by omega)
    simp [impl_numExact.f, impl_numExact.j0, impl_numExact.j1, impl_numExact.j2, exactV, hw, hb'.1]; exact shr_id hb'.1 (by omega)
  · simp [impl_numExact.f, impl_numExact.j0, exactV]; exact wrap64_id (by omega) (by omega)
  · simp [impl_numExact.f, impl_numExact.j0, impl_numExact.j1, exactV]; exact wrap64_id (by omega) (by omega)
  · have := mul_bound ha hb; simp [impl_numExact.f, impl_numExact.j0, impl_numExact.j1, impl_numExact.j2, exactV]; exact wrap64_id (by omega) (by omega)

theorem nsMod {a : Int} (m : Int) (h0 : 0 < m) (h1 : m ≤ 4294967296) : spec_l1Mod.f a m = some (a % m) := by
  simp only [spec_l1Mod.f]
  have e := tmod_up (n := a) (m := m) h0
  have b := tmod_bounds (n := a) (m := m) h0
  rw [if_neg (by omega)]
  by_cases hn : a.tmod m < 0
  · rw [if_pos hn] at e ⊢
    rw [wrap64_id (by omega) (by omega), e]
  · rw [if_neg hn] at e ⊢
    rw [e]
theorem u32_cast (a : Int) : a % 4294967296 = (u32 a : Int) := by unfold u32; omega
theorem bit_cast (A n : Nat) : Int.tmod ((A : Int) / 2 ^ n) 2 = ((A / 2 ^ n % 2 : Nat) : Int) := by
  have : (A : Int) / 2 ^ n = ((A / 2 ^ n : Nat) : Int) := by norm_cast
  rw [this, Int.tmod_eq_emod_of_nonneg (Int.natCast_nonneg _)]; norm_cast
theorem bits_step {X n z : Nat} (hX : X < 4294967296) (hn : n < 32) (hz : X / 2 ^ n % 2 = z) : wrap64 (((X % 2 ^ n : Nat) : Int) + shl .i64 (z : Int) (n : Int)) = ((X % 2 ^ (n + 1) : Nat) : Int) := by
  have hz2 : z < 2 := by omega
  have h1 : X % 2 ^ (n + 1) ≤ X := Nat.mod_le _ _
  have e := mod_succ X n
  rw [hz] at e
  have hp : (2 : Nat) ^ n ≤ 2 ^ 31 := Nat.pow_le_pow_right (by omega) (by omega)
  have hs : (z : Int) * 2 ^ ((n : Int)).toNat = ((2 ^ n * z : Nat) : Int) := by
    rw [Int.toNat_natCast, Nat.mul_comm]; norm_cast
  have hb : 2 ^ n * z ≤ 2 ^ 31 * 1 := Nat.mul_le_mul hp (by omega)
  rw [shl_id (by omega) (by omega) (by rw [hs]; omega) (by rw [hs]; omega), hs, wrap64_id (by omega) (by omega)]
  omega
theorem sNumWrap_s32 {X : Nat} (h : X < 4294967296) : spec_NumWrap.f (X : Int) = some (s32 X) := by
  rw [sNumWrap _ (by omega) (by omega)]
  congr 1; unfold wrap32 s32; split <;> omega
theorem bits_loop {op a b : Int} {X : Nat} (hop : op = 6 ∨ op = 7 ∨ op = 8)
    (hX : X = if op = 6 then u32 a &&& u32 b else if op = 7 then u32 a ||| u32 b else u32 a ^^^ u32 b) (d : Nat) : ∀ n : Nat, n ≤ 32 → 32 - n = d → W (fun k => spec_l1Bits.l0 k op a b ((X % 2 ^ n : Nat) : Int) (n : Int)) (· = s32 X) := by
  have hA := u32_lt a
  have hB := u32_lt b
  have hXl : X < 4294967296 := by
    rw [hX]; split
    · exact and_lt hA
    · split
      · exact or_lt hA hB
      · exact xor_lt hA hB
  induction d with
  | zero =>
    intro n hn hd
    obtain rfl : n = 32 := by omega
    refine W.step (fun k => by simp only [spec_l1Bits.l0]; rfl) ?_
    refine W.neg (by omega) ?_
    rw [Nat.mod_eq_of_lt (show X < 2 ^ 32 from hXl)]
    refine W.bind (W.const (sNumWrap_s32 hXl) rfl) ?_
    rintro _ rfl
    exact W.ret rfl
  | succ d ih =>
    intro n hn hd
    have ih' := ih (n + 1) (by omega) (by omega)
    have ei : wrap64 ((n : Int) + 1) = ((n + 1 : Nat) : Int) := by rw [wrap64_id (by omega) (by omega)]; omega
    have hu : IntKind.u64.wrap (n : Int) = (n : Int) := u64_small (by omega) (by omega)
    have hsr : ∀ A : Nat, Int.tmod (shr .i64 (A : Int) (n : Int)) 2 = ((A / 2 ^ n % 2 : Nat) : Int) := fun A => by rw [shr_id (by omega) (by omega), Int.toNat_natCast]; exact bit_cast A n
    refine W.step (fun k => by simp only [spec_l1Bits.l0]; rfl) ?_
    refine W.pos (by omega) ?_
    refine W.bind (W.const (nsMod (a := a) 4294967296 (by omega) (by omega)) rfl) ?_
    rintro _ rfl
    rw [hu, u32_cast a]
    refine W.pos (by omega) ?_
    refine W.bind (W.const (nsMod (a := b) 4294967296 (by omega) (by omega)) rfl) ?_
    rintro _ rfl
    rw [u32_cast b, hsr, hsr, ei]
    have za := Nat.mod_two_eq_zero_or_one (u32 a / 2 ^ n); have zb := Nat.mod_two_eq_zero_or_one (u32 b / 2 ^ n)
    rcases hop with rfl | rfl | rfl
    · refine W.neg (by decide) (W.neg (by decide) ?_)
      have hz := bit_and (u32 a) (u32 b) n
      simp only [if_true] at hX
      rw [← hX] at hz
      rw [show wrap64 (((u32 a / 2 ^ n % 2 : Nat) : Int) * ((u32 b / 2 ^ n % 2 : Nat) : Int)) = (((u32 a / 2 ^ n % 2) * (u32 b / 2 ^ n % 2) : Nat) : Int) by
        rcases za with h | h <;> rcases zb with g | g <;> rw [h, g] <;> simp [wrap64], bits_step hXl (by omega) hz]
      exact ih'
    · refine W.pos rfl ?_
      have hz := bit_or (u32 a) (u32 b) n
      simp only [if_true, show ¬ (7 : Int) = 6 by decide, if_false] at hX
      rw [← hX] at hz
      rw [show wrap64 (wrap64 (((u32 a / 2 ^ n % 2 : Nat) : Int) + ((u32 b / 2 ^ n % 2 : Nat) : Int)) - wrap64 (((u32 a / 2 ^ n % 2 : Nat) : Int) * ((u32 b / 2 ^ n % 2 : Nat) : Int))) = (((u32 a / 2 ^ n % 2) + (u32 b / 2 ^ n % 2) - (u32 a / 2 ^ n % 2) * (u32 b / 2 ^ n % 2) : Nat) : Int) by
        rcases za with h | h <;> rcases zb with g | g <;> rw [h, g] <;> simp [wrap64], bits_step hXl (by omega) hz]
      exact ih'
    · refine W.neg (by decide) (W.pos rfl ?_)
      have hz := bit_xor (u32 a) (u32 b) n
      simp only [show ¬ (8 : Int) = 6 by decide, show ¬ (8 : Int) = 7 by decide, if_false] at hX
      rw [← hX] at hz
      rw [show Int.tmod (wrap64 (((u32 a / 2 ^ n % 2 : Nat) : Int) + ((u32 b / 2 ^ n % 2 : Nat) : Int))) 2 = ((((u32 a / 2 ^ n % 2) + (u32 b / 2 ^ n % 2)) % 2 : Nat) : Int) by
        rcases za with h | h <;> rcases zb with g | g <;> rw [h, g] <;> simp [wrap64], bits_step hXl (by omega) hz]
      exact ih'
theorem sBits {op a b : Int} (hop : op = 6 ∨ op = 7 ∨ op = 8) : W (fun k => spec_l1Bits.f k op a b) (· = exactV op a b) := by
  unfold spec_l1Bits.f
  have h := bits_loop (op := op) (a := a) (b := b) hop rfl 32 0 (by omega) (by omega)
  rw [Nat.pow_zero, Nat.mod_one] at h
  refine W.mono h ?_
  rintro _ rfl
  rcases hop with rfl | rfl | rfl <;> simp [exactV]
theorem ediv_bound {a p : Int} (ha : -2147483648 ≤ a ∧ a ≤ 2147483647) (hp : 0 < p) : -2147483648 ≤ a / p ∧ a / p ≤ 2147483647 := by
  constructor
  · rw [Int.le_ediv_iff_mul_le hp]
    have := Int.mul_le_mul_of_nonpos_left (a := -2147483648) (by omega) (show (1 : Int) ≤ p by omega)
    omega
  · rcases Int.le_total 0 a with h | h
    · have := Int.ediv_le_self p h; omega
    · have := Int.ediv_le_ediv hp h; simp at this; omega
theorem floor_eq {a p : Int} (hp : 0 < p) : (a - a % p).tdiv p = a / p := by
  have := Int.mul_ediv_add_emod a p
  rw [show a - a % p = p * (a / p) by omega, Int.mul_tdiv_cancel_left _ (by omega)]
theorem sExact {op a b : Int} (h : 1 ≤ op) (h1 : op ≤ 13) (ha : -2147483648 ≤ a ∧ a ≤ 2147483647) (hb : -2147483648 ≤ b ∧ b ≤ 2147483647) (hf : Fit op b) : W (fun k => spec_l1Exact.f k op a b) (· = exactV op a b) := by
  obtain ⟨f1, f2⟩ := hf
  have st : ∀ {g : Nat → Option Int} (r : Int) (m : Nat), (∀ k, g (k + m) = some r) → W g (· = r) := fun r m hg => ⟨r, rfl, m, fun k hk => by obtain ⟨q, rfl⟩ : ∃ q, k = q + m := ⟨k - m, by omega⟩; exact hg q⟩
  rcases ops h h1 with rfl | rfl | rfl | rfl | rfl | rfl | rfl | rfl | rfl | rfl | rfl | rfl | rfl
  · refine st _ 3 fun k => ?_; simp [spec_l1Exact.f, spec_l1Exact.j0, exactV]; exact wrap64_id (by omega) (by omega)
  · refine st _ 3 fun k => ?_; simp [spec_l1Exact.f, spec_l1Exact.j0, spec_l1Exact.j1, exactV]; exact wrap64_id (by omega) (by omega)
  · have := mul_bound ha hb; refine st _ 3 fun k => ?_; simp [spec_l1Exact.f, spec_l1Exact.j0, spec_l1Exact.j1, spec_l1Exact.j2, exactV]; exact wrap64_id (by omega) (by omega)
  · have := tdiv_bound (b := b) ha; have := f1 (by omega); refine st _ 3 fun k => ?_; simp [spec_l1Exact.f, spec_l1Exact.j0, spec_l1Exact.j1, spec_l1Exact.j2, exactV, this]; exact wrap64_id (by omega) (by omega)
  · have := f1 (by omega); refine st _ 3 fun k => ?_; simp [spec_l1Exact.f, spec_l1Exact.j0, spec_l1Exact.j1, spec_l1Exact.j2, exactV, this]
  · refine W.steps 3 (fun k => by simp only [spec_l1Exact.f, spec_l1Exact.j0, spec_l1Exact.j1, spec_l1Exact.j2]; rfl) ?_
    refine W.bind (sBits (by omega)) ?_
    rintro _ rfl
    exact W.ret rfl
  · refine W.steps 3 (fun k => by simp only [spec_l1Exact.f, spec_l1Exact.j0, spec_l1Exact.j1, spec_l1Exact.j2]; rfl) ?_
    refine W.bind (sBits (by omega)) ?_
    rintro _ rfl
    exact W.ret rfl
  · refine W.steps 3 (fun k => by simp only [spec_l1Exact.f, spec_l1Exact.j0, spec_l1Exact.j1, spec_l1Exact.j2]; rfl) ?_
    refine W.bind (sBits (by omega)) ?_
    rintro _ rfl
    exact W.ret rfl
  · have hb' := f2 (by omega)
    have hp := mul_bound2 ha ⟨Int.le_of_lt (pow_pos' b.toNat), pow31 hb'.2⟩
    refine W.steps 3 (fun k => by simp only [spec_l1Exact.f, spec_l1Exact.j0, spec_l1Exact.j1, spec_l1Exact.j2]; rfl) ?_
    refine W.bind (power_ok b hb'.1 (by omega)) ?_
    rintro _ rfl
    exact W.ret (by rw [wrap64_id (by omega) (by omega)]; simp [exactV])
  · have hb' := f2 (by omega)
    have hq := pow_pos' b.toNat
    have hp := pow31 hb'.2
    have he := ediv_bound (p := 2 ^ b.toNat) ha hq
    have hm0 := Int.emod_nonneg a (show (2 : Int) ^ b.toNat ≠ 0 by omega)
    have hm1 := Int.emod_lt_of_pos a hq
    refine W.steps 3 (fun k => by simp only [spec_l1Exact.f, spec_l1Exact.j0, spec_l1Exact.j1, spec_l1Exact.j2]; rfl) ?_
    refine W.bind (power_ok b hb'.1 (by omega)) ?_
    rintro _ rfl
    refine W.bind (W.const (r := a / 2 ^ b.toNat) (by
      simp only [spec_l1Floor.f]
      rw [nsMod _ hq (by omega)]
      simp only [Option.bind_some]
      rw [if_neg (by omega), wrap64_id (n := a - a % 2 ^ b.toNat) (by omega) (by omega), floor_eq hq, wrap64_id (by omega) (by omega)]) rfl) ?_
    rintro _ rfl
    exact W.ret (by simp [exactV])
  · refine st _ 3 fun k => ?_; simp [spec_l1Exact.f, spec_l1Exact.j0, exactV]; exact wrap64_id (by omega) (by omega)
  · refine st _ 3 fun k => ?_; simp [spec_l1Exact.f, spec_l1Exact.j0, spec_l1Exact.j1, exactV]; exact wrap64_id (by omega) (by omega)
  · have := mul_bound ha hb; refine st _ 3 fun k => ?_; simp [spec_l1Exact.f, spec_l1Exact.j0, spec_l1Exact.j1, spec_l1Exact.j2, exactV]; exact wrap64_id (by omega) (by omega)

theorem nsNumOk (v : Int) : spec_NumOk.f v = some (decide (-2147483648 ≤ v ∧ v ≤ 2147483647)) := by
  simp only [spec_NumOk.f, spec_l1In.f]
  by_cases h : v ≥ -2147483648 <;> simp [h]
theorem niNumOk (v : Int) : impl_NumOk.f v = some (decide (-2147483648 ≤ v ∧ v ≤ 2147483647)) := by
  simp only [impl_NumOk.f]
  by_cases h : v ≥ -2147483648 <;> simp [h]
theorem nsIn (v a b : Int) : spec_l1In.f v a b = some (decide (a ≤ v ∧ v ≤ b)) := by
  simp only [spec_l1In.f]
  by_cases h : v ≥ a <;> simp [h]
theorem iNumOp (v : Int) : impl_numOp.f v = some (decide (1 ≤ v ∧ v ≤ 13)) := by
  simp only [impl_numOp.f]
  by_cases h : v ≥ 1 <;> simp [h]
theorem iNumWrap (v : Int) : impl_NumWrap.f v = some (wrap32 v) := by
  simp only [impl_NumWrap.f]
  have := wrap32_ok v
  rw [wrap64_id (by omega) (by omega)]
def numDo (op a b : Int) : Int × Int :=
  if ¬ (1 ≤ op ∧ op ≤ 13) ∨ ¬ (-2147483648 ≤ a ∧ a ≤ 2147483647) ∨ ¬ (-2147483648 ≤ b ∧ b ≤ 2147483647) then (0, 0)
  else if (op = 4 ∨ op = 5) ∧ b = 0 then (0, 2)
  else if (op = 9 ∨ op = 10) ∧ ¬ (0 ≤ b ∧ b ≤ 31) then (0, 3)
  else if op ≥ 11 then (wrap32 (exactV op a b), 0)
  else if -2147483648 ≤ exactV op a b ∧ exactV op a b ≤ 2147483647 then (exactV op a b, 0) else (0, 1)
theorem exact_i64 {op a b : Int} (ha : -2147483648 ≤ a ∧ a ≤ 2147483647) (hb : -2147483648 ≤ b ∧ b ≤ 2147483647) (hf : Fit op b) : -9223372036854775808 ≤ exactV op a b ∧ exactV op a b ≤ 9223372036854775807 := by
  unfold exactV
  have h1 := mul_bound ha hb
  have h2 := tdiv_bound (b := b) ha
  have h3 : -2147483648 ≤ a.tmod b ∧ a.tmod b ≤ 2147483647 := by
    have h : (a.tmod b).natAbs ≤ a.natAbs := by rw [Int.natAbs_tmod]; exact Nat.mod_le _ _
    rcases Int.le_total 0 a with g | g
    · have := Int.tmod_nonneg b g
      omega
    · have := Int.tmod_nonneg b (show 0 ≤ -a by omega)
      rw [Int.neg_tmod] at this
      omega
  have h4 := s32_ok (and_lt (A := u32 a) (B := u32 b) (u32_lt a)); have h5 := s32_ok (or_lt (u32_lt a) (u32_lt b)); have h6 := s32_ok (xor_lt (u32_lt a) (u32_lt b))
  split
  · omega
  split
  · omega
  split
  · omega
  split
  · omega
  split
  · omega
  split
  · omega
  split
  · omega
  split
  · omega
  split
  · rename_i h
    have := hf.2 (by omega)
    have := mul_bound2 ha ⟨Int.le_of_lt (pow_pos' b.toNat), pow31 this.2⟩
    omega
  split
  · have := ediv_bound (p := 2 ^ b.toNat) ha (pow_pos' _)
    omega
  · omega
theorem numDo_main {op a b : Int} (h : 1 ≤ op ∧ op ≤ 13) (ha : -2147483648 ≤ a ∧ a ≤ 2147483647) (hb : -2147483648 ≤ b ∧ b ≤ 2147483647) (hf : Fit op b) : numDo op a b = if op ≥ 11 then (wrap32 (exactV op a b), 0) else if -2147483648 ≤ exactV op a b ∧ exactV op a b ≤ 2147483647 then (exactV op a b, 0) else (0, 1) := by
  unfold numDo
  rw [if_neg (by omega), if_neg (fun hc => hf.1 hc.1 hc.2), if_neg (fun hc => hc.2 (hf.2 hc.1))]
theorem numDo_facts (op a b : Int) : (-2147483648 ≤ (numDo op a b).1 ∧ (numDo op a b).1 ≤ 2147483647) ∧ ((numDo op a b).2 = 0 ∨ (numDo op a b).1 = 0) ∧ (0 ≤ (numDo op a b).2 ∧ (numDo op a b).2 ≤ 3) ∧ (op ≥ 11 → (numDo op a b).2 = 0) := by
  unfold numDo
  have hw := wrap32_ok (exactV op a b)
  split
  · simp
  split
  · simp; omega
  split
  · simp; omega
  split
  · simp; omega
  split
  · rename_i h; simp [h]
  · simp; omega
theorem numDo_comm {op : Int} (a b : Int) (h : op = 1 ∨ op = 3 ∨ op = 8) : numDo op b a = numDo op a b := by
  have he : exactV op b a = exactV op a b := by
    rcases h with rfl | rfl | rfl
    · simp only [exactV]; simp; omega
    · simp only [exactV]; simp; exact Int.mul_comm ..
    · simp only [exactV]; simp; rw [Nat.xor_comm]
  by_cases h1 : ¬ (1 ≤ op ∧ op ≤ 13) ∨ ¬ (-2147483648 ≤ a ∧ a ≤ 2147483647) ∨ ¬ (-2147483648 ≤ b ∧ b ≤ 2147483647)
  · unfold numDo; rw [if_pos (by omega), if_pos h1]
  · rw [numDo_main (by omega) (by omega) (by omega) ⟨fun h => by omega, fun h => by omega⟩, numDo_main (a := a) (b := b) (by omega) (by omega) (by omega) ⟨fun h => by omega, fun h => by omega⟩, he]

theorem wild_ok {b : List Int} (hb : ∀ x ∈ b, 0 ≤ x ∧ x ≤ 255) (hl : b.length ≤ 2000) (p : Int) (hp : 0 ≤ p) (hq : p ≤ 800000) : W (fun k => spec_l1Rd_wild.f k b p) (fun r => (-9223372036854775808 ≤ r.1 ∧ r.1 ≤ 9223372036854775807) ∧ p ≤ r.2 ∧ r.2 ≤ p + 7) := by
  unfold spec_l1Rd_wild.f
  refine W.bind (pick_ok hb hl p 12 hp (by omega)) ?_
  rintro ⟨c, q⟩ ⟨rfl, _⟩
  simp only
  refine W.ite (fun _ => ?_) (fun _ => W.ite (fun _ => ?_) (fun _ => W.ite (fun _ => ?_) (fun _ => W.ite (fun _ => ?_) (fun _ => ?_))))
  · refine W.bind (pick_ok hb hl (p + 1) 3 (by omega) (by omega)) ?_
    rintro ⟨c, q⟩ ⟨rfl, _⟩
    exact W.ret ⟨wrap64_ok _, by first | omega | (simp only; omega), by first | omega | (simp only; omega)⟩
  · refine W.bind (pick_ok hb hl (p + 1) 3 (by omega) (by omega)) ?_
    rintro ⟨c, q⟩ ⟨rfl, _⟩
    exact W.ret ⟨wrap64_ok _, by first | omega | (simp only; omega), by first | omega | (simp only; omega)⟩
  · refine W.bind (pick_ok hb hl (p + 1) 2 (by omega) (by omega)) ?_
    rintro ⟨c, q⟩ ⟨rfl, _⟩
    exact W.ret ⟨wrap64_ok _, by first | omega | (simp only; omega), by first | omega | (simp only; omega)⟩
  · refine W.bind (pick_ok hb hl (p + 1) 2 (by omega) (by omega)) ?_
    rintro ⟨c, q⟩ ⟨rfl, _⟩
    exact W.ret ⟨wrap64_ok _, by first | omega | (simp only; omega), by first | omega | (simp only; omega)⟩
  · refine W.bind (num_ok hb hl (p + 1) (by omega) (by omega)) ?_
    rintro ⟨c, q⟩ ⟨h1, h2, h3⟩
    simp only at h1 h2 h3
    exact W.ret ⟨by first | omega | (simp only; omega), by first | omega | (simp only; omega), by first | omega | (simp only; omega)⟩

/-! ### ranges: whether they are as they must be -/
def okR (l h : Int) : Prop := (l = 1 ∧ h = 0) ∨ (-2147483648 ≤ l ∧ l ≤ h ∧ h ≤ 2147483647)
instance (l h : Int) : Decidable (okR l h) := by unfold okR; exact inferInstance
theorem sRangeOk (l h : Int) : spec_RangeOk.f l h = some (decide (okR l h)) := by
  simp only [spec_RangeOk.f, spec_l8None.f, sNumOk, Option.bind_some]
  by_cases h1 : l = 1 ∧ h = 0
  · obtain ⟨rfl, rfl⟩ := h1; rfl
  · have : (l == 1 && h == 0) = false := by simpa using h1
    rw [this]; simp only [Bool.false_eq_true, if_false, okR, okN]
    by_cases h2 : -2147483648 ≤ l ∧ l ≤ 2147483647
    · by_cases h3 : -2147483648 ≤ h ∧ h ≤ 2147483647
      · simp only [h2, h3, and_self, true_and, and_true, decide_true, if_true]; congr 1; apply decide_eq_decide.2; omega
      · simp only [h2, h3, and_self, decide_true, decide_false, if_true, Bool.false_eq_true, if_false]; congr 1; symm; apply decide_eq_false; omega
    · simp only [h2, decide_false, Bool.false_eq_true, if_false]; congr 1; symm; apply decide_eq_false; omega
theorem iRangeOk (l h : Int) : impl_RangeOk.f l h = some (decide (okR l h)) := by
  simp only [impl_RangeOk.f, impl_rangeNone.f, iNumOk, Option.bind_some]
  by_cases h1 : l = 1 ∧ h = 0
  · obtain ⟨rfl, rfl⟩ := h1; rfl
  · have : (l == 1 && h == 0) = false := by simpa using h1
    rw [this]; simp only [Bool.false_eq_true, if_false, okR, okN]
    by_cases h2 : -2147483648 ≤ l ∧ l ≤ 2147483647
    · by_cases h3 : -2147483648 ≤ h ∧ h ≤ 2147483647
      · simp only [h2, h3, and_self, true_and, and_true, decide_true, if_true]; congr 1; apply decide_eq_decide.2; omega
      · simp only [h2, h3, and_self, decide_true, decide_false, if_true, Bool.false_eq_true, if_false]; congr 1; symm; apply decide_eq_false; omega
    · simp only [h2, decide_false, Bool.false_eq_true, if_false]; congr 1; symm; apply decide_eq_false; omega

/-! ### ranges: cut, joined, met -/
def cut (l h : Int) : Int × Int := if mx l (-2147483648) > mn h 2147483647 then (1, 0) else (mx l (-2147483648), mn h 2147483647)
def isNone (l h : Int) : Prop := l = 1 ∧ h = 0
instance (l h : Int) : Decidable (isNone l h) := by unfold isNone; exact inferInstance
theorem okR_gt {l h : Int} (o : okR l h) : l > h ↔ isNone l h := by unfold okR at o; unfold isNone; omega
theorem bIsNone (l h : Int) : (l == 1 && h == 0) = decide (isNone l h) := by
  rw [Bool.eq_iff_iff, decide_eq_true_iff]; unfold isNone; simp

theorem sMin (a b : Int) : spec_l8Min.f a b = some (mn a b) := by unfold spec_l8Min.f mn; split <;> split <;> first | rfl | (congr 1; omega)
theorem sMax (a b : Int) : spec_l8Max.f a b = some (mx a b) := by unfold spec_l8Max.f mx; split <;> split <;> first | rfl | (congr 1; omega)

theorem sCut (l h : Int) : spec_l8Cut.f l h = some (cut l h) := by
  unfold spec_l8Cut.f cut
  simp only [sMin, sMax, spec_l8None.f, Option.bind_some]
  split <;> rfl
theorem iFrom (l h : Int) : impl_rangeFrom.f l h = some (cut l h) := by
  unfold impl_rangeFrom.f cut
  simp only [impl_rangeNone.f, Option.bind_some]
  split <;> rfl
theorem cut_ok (l h : Int) : (cut l h = (1, 0)) ∨ ((cut l h).1 ≤ (cut l h).2 ∧ -2147483648 ≤ (cut l h).1 ∧ (cut l h).2 ≤ 2147483647) := by
  unfold cut mx mn
  by_cases h1 : l < -2147483648 <;> by_cases h2 : 2147483647 < h <;> simp only [h1, h2, if_true, if_false] <;> split <;> first | (left; rfl) | (right; simp only; omega)
theorem cut_okR (l h : Int) : okR (cut l h).1 (cut l h).2 := by
  rcases cut_ok l h with e | e
  · rw [e]; exact .inl ⟨rfl, rfl⟩
  · exact .inr ⟨by omega, by omega, by omega⟩

def rmeet (l h l2 h2 : Int) : Int × Int := if ¬ okR l h ∨ ¬ okR l2 h2 ∨ isNone l h ∨ isNone l2 h2 then (1, 0) else cut (mx l l2) (mn h h2)
theorem sRangeMeet (l h l2 h2 : Int) : W (fun k => spec_RangeMeet.f k l h l2 h2) (· = rmeet l h l2 h2) := by
  unfold spec_RangeMeet.f
  simp only [sRangeOk, spec_l8None.f, Option.bind_some, bIsNone]
  have bad : ¬ okR l h ∨ ¬ okR l2 h2 ∨ isNone l h ∨ isNone l2 h2 → W (fun k => spec_RangeMeet.j0 k true l h l2 h2) (· = rmeet l h l2 h2) := by
    intro hb
    refine W.step (fun k => by simp only [spec_RangeMeet.j0, spec_l8None.f, Option.bind_some]; rfl) ?_
    exact W.pos (by trivial) (W.ret (by unfold rmeet; rw [if_pos hb]))
  refine W.dec (fun h1 => W.dec (fun h3 => W.dec (fun h4 => ?_) (fun h4 => ?_)) (fun h3 => bad (.inr (.inl h3)))) (fun h1 => bad (.inl h1))
  · exact bad (.inr (.inr (.inl h4)))
  · by_cases h5 : isNone l2 h2
    · rw [decide_eq_true h5]; exact bad (.inr (.inr (.inr h5)))
    · rw [decide_eq_false h5]
      refine W.step (fun k => by simp only [spec_RangeMeet.j0, spec_l8None.f, Option.bind_some, sMin, sMax, sCut]; rfl) ?_
      exact W.neg (by decide) (W.ret (by unfold rmeet; rw [if_neg (by simp [h1, h3, h4, h5])]))
theorem iRangeMeet (l h l2 h2 : Int) : W (fun k => impl_RangeMeet.f k l h l2 h2) (· = rmeet l h l2 h2) := by
  unfold impl_RangeMeet.f
  simp only [iRangeOk, impl_Range_empty.f, Option.bind_some]
  have bad : ¬ okR l h ∨ ¬ okR l2 h2 ∨ isNone l h ∨ isNone l2 h2 → W (fun k => impl_RangeMeet.j0 k true l h l2 h2) (· = rmeet l h l2 h2) := by
    intro hb
    refine W.step (fun k => by simp only [impl_RangeMeet.j0, impl_rangeNone.f, Option.bind_some]; rfl) ?_
    exact W.pos (by trivial) (W.ret (by unfold rmeet; rw [if_pos hb]))
  refine W.dec (fun h1 => W.dec (fun h3 => W.dec (fun h4 => ?_) (fun h4 => ?_)) (fun h3 => bad (.inr (.inl h3)))) (fun h1 => bad (.inl h1))
  · exact bad (.inr (.inr (.inl ((okR_gt h1).1 h4))))
  · by_cases h5 : l2 > h2
    · rw [decide_eq_true h5]; exact bad (.inr (.inr (.inr ((okR_gt h3).1 h5))))
    · rw [decide_eq_false h5]
      refine W.step (fun k => by simp only [impl_RangeMeet.j0, impl_rangeNone.f, Option.bind_some, iFrom]; rfl) ?_
      exact W.neg (by decide) (W.ret (by unfold rmeet; rw [if_neg (by rw [← okR_gt h1, ← okR_gt h3]; simp only [h1, h3, not_true, false_or]; omega)]))
theorem rmeet_ok (l h l2 h2 : Int) : okR (rmeet l h l2 h2).1 (rmeet l h l2 h2).2 := by
  unfold rmeet
  split
  · exact .inl ⟨rfl, rfl⟩
  · exact cut_okR _ _

def rjoin (l h l2 h2 : Int) : Int × Int := if ¬ okR l h ∨ ¬ okR l2 h2 then (1, 0) else if isNone l h then (l2, h2) else if isNone l2 h2 then (l, h) else (mn l l2, mx h h2)
theorem sRangeJoin (l h l2 h2 : Int) : W (fun k => spec_RangeJoin.f k l h l2 h2) (· = rjoin l h l2 h2) := by
  unfold spec_RangeJoin.f
  simp only [sRangeOk, Option.bind_some]
  have bad : ¬ okR l h ∨ ¬ okR l2 h2 → W (fun k => spec_RangeJoin.j0 k true l h l2 h2) (· = rjoin l h l2 h2) := by
    intro hb
    refine W.step (fun k => by simp only [spec_RangeJoin.j0, spec_l8None.f, Option.bind_some]; rfl) ?_
    (try refine W.pos (by trivial) ?_)
    exact W.ret (by unfold rjoin; rw [if_pos hb])
  refine W.dec (fun h1 => ?_) (fun h1 => bad (.inl h1))
  by_cases h3 : okR l2 h2
  · rw [ndt h3]
    refine W.step (fun k => by simp only [spec_RangeJoin.j0, spec_l8None.f, Option.bind_some, sMin, sMax, bIsNone]; rfl) ?_
    unfold rjoin
    have hk : ¬ (¬ okR l h ∨ ¬ okR l2 h2) := by simp [h1, h3]
    rw [if_neg hk]
    (try refine W.neg (by decide) ?_)
    refine W.dec (fun h4 => W.ret (by rw [if_pos h4])) (fun h4 => ?_)
    rw [if_neg h4]
    exact W.dec (fun h5 => W.ret (by rw [if_pos h5])) (fun h5 => W.ret (by rw [if_neg h5]))
  · rw [ndf h3]; exact bad (.inr h3)
theorem iRangeJoin (l h l2 h2 : Int) : W (fun k => impl_RangeJoin.f k l h l2 h2) (· = rjoin l h l2 h2) := by
  unfold impl_RangeJoin.f
  simp only [iRangeOk, Option.bind_some]
  have bad : ¬ okR l h ∨ ¬ okR l2 h2 → W (fun k => impl_RangeJoin.j0 k true l h l2 h2) (· = rjoin l h l2 h2) := by
    intro hb
    refine W.step (fun k => by simp only [impl_RangeJoin.j0, impl_rangeNone.f, Option.bind_some]; rfl) ?_
    (try refine W.pos (by trivial) ?_)
    exact W.ret (by unfold rjoin; rw [if_pos hb])
  refine W.dec (fun h1 => ?_) (fun h1 => bad (.inl h1))
  by_cases h3 : okR l2 h2
  · rw [ndt h3]
    refine W.step (fun k => by simp only [impl_RangeJoin.j0, impl_rangeNone.f, impl_Range_empty.f, Option.bind_some]; rfl) ?_
    unfold rjoin
    have hk : ¬ (¬ okR l h ∨ ¬ okR l2 h2) := by simp [h1, h3]
    rw [if_neg hk]
    (try refine W.neg (by decide) ?_)
    refine W.dec (fun h4 => W.ret (by rw [if_pos ((okR_gt h1).1 h4)])) (fun h4 => ?_)
    rw [if_neg (fun hc => h4 ((okR_gt h1).2 hc))]
    exact W.dec (fun h5 => W.ret (by rw [if_pos ((okR_gt h3).1 h5)])) (fun h5 => W.ret (by rw [if_neg (fun hc => h5 ((okR_gt h3).2 hc))]))
  · rw [ndf h3]; exact bad (.inr h3)
theorem rjoin_ok (l h l2 h2 : Int) : okR (rjoin l h l2 h2).1 (rjoin l h l2 h2).2 := by
  unfold rjoin
  split
  · exact .inl ⟨rfl, rfl⟩
  rename_i hb
  have o1 : okR l h := Decidable.byContradiction fun h => hb (.inl h)
  have o2 : okR l2 h2 := Decidable.byContradiction fun h => hb (.inr h)
  split
  · exact o2
  split
  · exact o1
  · rename_i n1 n2
    unfold okR at o1 o2 ⊢; unfold isNone at n1 n2; unfold mn mx
    right; simp only
    split <;> split <;> omega

theorem sRangeHas (l h v : Int) : spec_RangeHas.f l h v = some (decide (okR l h ∧ l ≤ v ∧ v ≤ h)) := by
  simp only [spec_RangeHas.f, spec_l1In.f, sRangeOk, Option.bind_some]
  by_cases h1 : okR l h
  · by_cases h2 : l ≤ v
    · simp [h1, h2]
    · simp [h1, h2]
  · simp [h1]
theorem iRangeHas (l h v : Int) : impl_RangeHas.f l h v = some (decide (okR l h ∧ l ≤ v ∧ v ≤ h)) := by
  simp only [impl_RangeHas.f, iRangeOk, Option.bind_some]
  by_cases h1 : okR l h
  · by_cases h2 : l ≤ v
    · simp [h1, h2]
    · simp [h1, h2]
  · simp [h1]

theorem iRangeIn (l h l2 h2 : Int) : impl_RangeIn.f l h l2 h2 = some (decide (okR l h ∧ okR l2 h2 ∧ ((l = 1 ∧ h = 0) ∨ (l2 ≤ l ∧ h ≤ h2)))) := by
  simp only [impl_RangeIn.f, impl_Range_empty.f, iRangeOk, Option.bind_some]
  by_cases h1 : okR l h
  · by_cases h3 : okR l2 h2
    · by_cases h4 : l = 1 ∧ h = 0
      · obtain ⟨rfl, rfl⟩ := h4; simp [h1, h3]
      · have : ¬ l > h := by unfold okR at h1; omega
        simp only [this, h1, h3, h4, decide_true, decide_false, true_and, false_or, if_true, Bool.false_eq_true, if_false]
        by_cases h5 : l2 ≤ l <;> simp [h5]
    · simp [h1, h3]
  · simp [h1]

/-! ### what an operator makes of two ranges: the program's -/
def N32 (a : Int) : Prop := -2147483648 ≤ a ∧ a ≤ 2147483647
instance (v : Int) : Decidable (N32 v) := by unfold N32; exact inferInstance
theorem mn_self (a : Int) : mn a a = a := by unfold mn; split <;> rfl
theorem mx_self (a : Int) : mx a a = a := by unfold mx; split <;> rfl
theorem mn_cases (a b : Int) : (mn a b = a ∧ a ≤ b) ∨ (mn a b = b ∧ b ≤ a) := by unfold mn; split <;> omega
theorem mx_cases (a b : Int) : (mx a b = a ∧ b ≤ a) ∨ (mx a b = b ∧ a ≤ b) := by unfold mx; split <;> omega
def crn (op l h l2 h2 : Int) : Int × Int :=
  (mn (mn (mn (exactV op l l2) (exactV op l h2)) (exactV op h l2)) (exactV op h h2), mx (mx (mx (exactV op l l2) (exactV op l h2)) (exactV op h l2)) (exactV op h h2))
theorem corners_loop (p q r s : Int) : W (fun k => impl_rangeCorners.l0 k p p 0 p q r s) (· = (mn (mn (mn p q) r) s, mx (mx (mx p q) r) s)) := by
  refine ⟨_, rfl, 5, fun k hk => ?_⟩
  obtain ⟨m, rfl⟩ : ∃ m, k = m + 5 := ⟨k - 5, by omega⟩
  simp [impl_rangeCorners.l0, wrap64, mn_self, mx_self]
theorem iCorners {op l h l2 h2 : Int} (ho : 1 ≤ op) (ho1 : op ≤ 13) (hl : N32 l) (hh : N32 h) (hl2 : N32 l2) (hh2 : N32 h2) (f1 : Fit op l2) (f2 : Fit op h2) : W (fun k => impl_rangeCorners.f k op l h l2 h2) (· = crn op l h l2 h2) := by
  unfold impl_rangeCorners.f
  refine W.bind (iExact ho ho1 hl hl2 f1) ?_
  rintro _ rfl
  refine W.bind (iExact ho ho1 hl hh2 f2) ?_
  rintro _ rfl
  refine W.bind (iExact ho ho1 hh hl2 f1) ?_
  rintro _ rfl
  refine W.bind (iExact ho ho1 hh hh2 f2) ?_
  rintro _ rfl
  exact corners_loop _ _ _ _
theorem crn_ends (op l h l2 h2 : Int) : ∃ x y x' y', (x = l ∨ x = h) ∧ (y = l2 ∨ y = h2) ∧ (x' = l ∨ x' = h) ∧ (y' = l2 ∨ y' = h2) ∧ (crn op l h l2 h2).1 = exactV op x y ∧ (crn op l h l2 h2).2 = exactV op x' y' := by
  have e1 : ∀ p q r s : Int, (mn (mn (mn p q) r) s = p) ∨ (mn (mn (mn p q) r) s = q) ∨ (mn (mn (mn p q) r) s = r) ∨ (mn (mn (mn p q) r) s = s) := by
    intro p q r s
    rcases mn_cases p q with ⟨a, _⟩ | ⟨a, _⟩ <;> rw [a] <;> rcases mn_cases _ r with ⟨b, _⟩ | ⟨b, _⟩ <;> rw [b] <;> rcases mn_cases _ s with ⟨c, _⟩ | ⟨c, _⟩ <;> rw [c] <;> simp
  have e2 : ∀ p q r s : Int, (mx (mx (mx p q) r) s = p) ∨ (mx (mx (mx p q) r) s = q) ∨ (mx (mx (mx p q) r) s = r) ∨ (mx (mx (mx p q) r) s = s) := by
    intro p q r s
    rcases mx_cases p q with ⟨a, _⟩ | ⟨a, _⟩ <;> rw [a] <;> rcases mx_cases _ r with ⟨b, _⟩ | ⟨b, _⟩ <;> rw [b] <;> rcases mx_cases _ s with ⟨c, _⟩ | ⟨c, _⟩ <;> rw [c] <;> simp
  have a := e1 (exactV op l l2) (exactV op l h2) (exactV op h l2) (exactV op h h2)
  have b := e2 (exactV op l l2) (exactV op l h2) (exactV op h l2) (exactV op h h2)
  unfold crn
  rcases a with a | a | a | a <;> rcases b with b | b | b | b <;> rw [a, b]
  · exact ⟨l, l2, l, l2, .inl rfl, .inl rfl, .inl rfl, .inl rfl, rfl, rfl⟩
  · exact ⟨l, l2, l, h2, .inl rfl, .inl rfl, .inl rfl, .inr rfl, rfl, rfl⟩
  · exact ⟨l, l2, h, l2, .inl rfl, .inl rfl, .inr rfl, .inl rfl, rfl, rfl⟩
  · exact ⟨l, l2, h, h2, .inl rfl, .inl rfl, .inr rfl, .inr rfl, rfl, rfl⟩
  · exact ⟨l, h2, l, l2, .inl rfl, .inr rfl, .inl rfl, .inl rfl, rfl, rfl⟩
  · exact ⟨l, h2, l, h2, .inl rfl, .inr rfl, .inl rfl, .inr rfl, rfl, rfl⟩
  · exact ⟨l, h2, h, l2, .inl rfl, .inr rfl, .inr rfl, .inl rfl, rfl, rfl⟩
  · exact ⟨l, h2, h, h2, .inl rfl, .inr rfl, .inr rfl, .inr rfl, rfl, rfl⟩
  · exact ⟨h, l2, l, l2, .inr rfl, .inl rfl, .inl rfl, .inl rfl, rfl, rfl⟩
  · exact ⟨h, l2, l, h2, .inr rfl, .inl rfl, .inl rfl, .inr rfl, rfl, rfl⟩
  · exact ⟨h, l2, h, l2, .inr rfl, .inl rfl, .inr rfl, .inl rfl, rfl, rfl⟩
  · exact ⟨h, l2, h, h2, .inr rfl, .inl rfl, .inr rfl, .inr rfl, rfl, rfl⟩
  · exact ⟨h, h2, l, l2, .inr rfl, .inr rfl, .inl rfl, .inl rfl, rfl, rfl⟩
  · exact ⟨h, h2, l, h2, .inr rfl, .inr rfl, .inl rfl, .inr rfl, rfl, rfl⟩
  · exact ⟨h, h2, h, l2, .inr rfl, .inr rfl, .inr rfl, .inl rfl, rfl, rfl⟩
  · exact ⟨h, h2, h, h2, .inr rfl, .inr rfl, .inr rfl, .inr rfl, rfl, rfl⟩
theorem mul_low {a b : Int} (ha : N32 a) (hb : N32 b) : -4611686016279904256 ≤ a * b := by
  unfold N32 at ha hb
  by_cases h1 : 0 ≤ a
  · by_cases h2 : 0 ≤ b
    · have := Int.mul_nonneg h1 h2; omega
    · have h : (a * b).natAbs ≤ 2147483647 * 2147483648 := by
        rw [Int.natAbs_mul]; exact Nat.mul_le_mul (by omega) (by omega)
      omega
  · by_cases h2 : 0 ≤ b
    · have h : (a * b).natAbs ≤ 2147483648 * 2147483647 := by
        rw [Int.natAbs_mul]; exact Nat.mul_le_mul (by omega) (by omega)
      omega
    · have h : 0 ≤ a * b := Int.mul_nonneg_of_nonpos_of_nonpos (by omega) (by omega)
      omega
/-- Operators that wrap make numbers that lie no further apart than a word holds. -/
theorem wrapV {op a b : Int} (h : 11 ≤ op) (h1 : op ≤ 13) (ha : N32 a) (hb : N32 b) : -4611686016279904256 ≤ exactV op a b ∧ exactV op a b ≤ 4611686018427387904 := by
  have hm := mul_low ha hb
  have hm2 := mul_bound ha hb
  unfold N32 at ha hb
  rcases (show op = 11 ∨ op = 12 ∨ op = 13 by omega) with rfl | rfl | rfl
  · simp only [exactV]; omega
  · simp only [exactV]; omega
  · simp only [exactV]; omega
def rwrap (op l h l2 h2 : Int) : Int × Int :=
  if (crn op l h l2 h2).2 - (crn op l h l2 h2).1 > 4294967295 ∨ wrap32 (crn op l h l2 h2).1 > wrap32 (crn op l h l2 h2).2 then (-2147483648, 2147483647) else (wrap32 (crn op l h l2 h2).1, wrap32 (crn op l h l2 h2).2)
theorem cut_id {l h : Int} (hl : N32 l) (hh : N32 h) (h0 : l ≤ h) : cut l h = (l, h) := by
  unfold N32 at hl hh
  unfold cut mx mn
  split <;> split <;> (try split) <;> first | rfl | omega | (congr 1 <;> omega)
theorem iWrap {op l h l2 h2 : Int} (ho : 11 ≤ op) (ho1 : op ≤ 13) (hl : N32 l) (hh : N32 h) (hl2 : N32 l2) (hh2 : N32 h2) : W (fun k => impl_rangeWrap.f k op l h l2 h2) (· = rwrap op l h l2 h2) := by
  have ft : ∀ b, Fit op b := fun b => ⟨fun h => absurd h (by omega), fun h => absurd h (by omega)⟩
  obtain ⟨x, y, x', y', hx, hy, hx', hy', e1, e2⟩ := crn_ends op l h l2 h2
  have b1 := wrapV (a := x) (b := y) ho ho1 (by rcases hx with rfl | rfl <;> assumption) (by rcases hy with rfl | rfl <;> assumption)
  have b2 := wrapV (a := x') (b := y') ho ho1 (by rcases hx' with rfl | rfl <;> assumption) (by rcases hy' with rfl | rfl <;> assumption)
  rw [← e1] at b1
  rw [← e2] at b2
  unfold impl_rangeWrap.f
  refine W.bind (iCorners (by omega) ho1 hl hh hl2 hh2 (ft _) (ft _)) ?_
  rintro _ rfl
  have bad : ((crn op l h l2 h2).2 - (crn op l h l2 h2).1 > 4294967295 ∨ wrap32 (crn op l h l2 h2).1 > wrap32 (crn op l h l2 h2).2) → W (fun k => impl_rangeWrap.j0 k (crn op l h l2 h2).1 (crn op l h l2 h2).2 true) (· = rwrap op l h l2 h2) := by
    intro hb
    refine W.step (fun k => by simp only [impl_rangeWrap.j0, iFrom, Option.bind_some]; try rfl) ?_
    refine W.pos (by trivial) (W.ret ?_)
    unfold rwrap; rw [if_pos hb]; try rfl
  rw [wrap64_id (n := (crn op l h l2 h2).2 - (crn op l h l2 h2).1) (by omega) (by omega)]
  refine W.ite (fun h1 => bad (.inl h1)) (fun h1 => ?_)
  simp only [iNumWrap, Option.bind_some]
  by_cases h3 : wrap32 (crn op l h l2 h2).1 > wrap32 (crn op l h l2 h2).2
  · rw [decide_eq_true h3]; exact bad (.inr h3)
  · rw [decide_eq_false h3]
    refine W.step (fun k => by simp only [impl_rangeWrap.j0, iNumWrap, iFrom, Option.bind_some]; try rfl) ?_
    refine W.neg (by decide) (W.ret ?_)
    rw [cut_id (wrap32_ok _) (wrap32_ok _) (by omega)]
    unfold rwrap; rw [if_neg (by omega)]
/-! ### shifts -/
def offB (x y l h : Int) : Bool := !(x == l) || (!(y == h))
def rshift (op l h l2 h2 : Int) : Int × Int × List Int :=
  if (rmeet l2 h2 0 31).1 > (rmeet l2 h2 0 31).2 then (1, 0, if offB (rmeet l2 h2 0 31).1 (rmeet l2 h2 0 31).2 l2 h2 then [3] else [])
  else ((cut (crn op l h (rmeet l2 h2 0 31).1 (rmeet l2 h2 0 31).2).1 (crn op l h (rmeet l2 h2 0 31).1 (rmeet l2 h2 0 31).2).2).1, (cut (crn op l h (rmeet l2 h2 0 31).1 (rmeet l2 h2 0 31).2).1 (crn op l h (rmeet l2 h2 0 31).1 (rmeet l2 h2 0 31).2).2).2,
    (if (crn op l h (rmeet l2 h2 0 31).1 (rmeet l2 h2 0 31).2).1 < -2147483648 ∨ (crn op l h (rmeet l2 h2 0 31).1 (rmeet l2 h2 0 31).2).2 > 2147483647 then [1] else []) ++ (if offB (rmeet l2 h2 0 31).1 (rmeet l2 h2 0 31).2 l2 h2 then [3] else []))
theorem rmeet_in (l h : Int) {x y : Int} (o : okR x y) (n : ¬ isNone x y) : (rmeet l h x y).1 > (rmeet l h x y).2 ∨ (x ≤ (rmeet l h x y).1 ∧ (rmeet l h x y).1 ≤ (rmeet l h x y).2 ∧ (rmeet l h x y).2 ≤ y ∧ l ≤ (rmeet l h x y).1 ∧ (rmeet l h x y).2 ≤ h) := by
  unfold rmeet
  split
  · left; simp
  · unfold okR at o; unfold isNone at n
    unfold cut
    split
    · left; simp
    · right
      have h1 := mx_cases l x; have h2 := mx_cases (mx l x) (-2147483648); have h3 := mn_cases h y; have h4 := mn_cases (mn h y) 2147483647
      simp only
      omega
theorem iShift {op l h l2 h2 : Int} (ho : op = 9 ∨ op = 10) (hl : N32 l) (hh : N32 h) : W (fun k => impl_rangeShift.f k op l h l2 h2) (· = rshift op l h l2 h2) := by
  unfold impl_rangeShift.f
  refine W.bind (iRangeMeet l2 h2 0 31) ?_
  rintro _ rfl
  simp only [impl_rangeNone.f, impl_Range_empty.f, Option.bind_some]
  have hm := rmeet_in l2 h2 (x := 0) (y := 31) (by unfold okR; omega) (by unfold isNone; omega)
  generalize hc : rmeet l2 h2 0 31 = c at hm ⊢
  refine W.dec (fun h1 => ?_) (fun h1 => ?_)
  · show W (fun k => if offB c.1 c.2 l2 h2 = true then _ else _) _
    unfold rshift
    rw [hc, if_pos h1]
    refine W.ite (fun h2 => ?_) (fun h2 => ?_)
    · exact W.pos (by decide) (W.ret (by rw [if_pos h2]; try rfl))
    · exact W.ret (by rw [if_neg h2])
  · have hm' := hm.resolve_left h1
    have ft : ∀ b, 0 ≤ b → b ≤ 31 → Fit op b := fun b h0 h1 => ⟨fun h => absurd h (by omega), fun _ => ⟨h0, h1⟩⟩
    refine W.bind (iCorners (l := l) (h := h) (l2 := c.1) (h2 := c.2) (by omega) (by omega) hl hh (by unfold N32; omega) (by unfold N32; omega) (ft _ (by omega) (by omega)) (ft _ (by omega) (by omega))) ?_
    rintro _ rfl
    simp only [iFrom, Option.bind_some]
    have key : ∀ b : Bool, (b = true ↔ ((crn op l h c.1 c.2).1 < -2147483648 ∨ (crn op l h c.1 c.2).2 > 2147483647)) → W (fun k => impl_rangeShift.j0 k [] b l2 h2 c.1 c.2 (cut (crn op l h c.1 c.2).1 (crn op l h c.1 c.2).2).1 (cut (crn op l h c.1 c.2).1 (crn op l h c.1 c.2).2).2) (· = rshift op l h l2 h2) := by
      intro b hb
      refine W.step (fun k => by simp only [impl_rangeShift.j0, Option.bind_some, List.nil_append]; try rfl) ?_
      unfold rshift
      rw [hc, if_neg h1]
      refine W.ite (fun h2 => ?_) (fun h2 => ?_)
      · rw [if_pos (hb.1 h2)]
        refine W.pos (by decide) ?_
        refine W.ite (fun h3 => ?_) (fun h3 => ?_)
        · refine W.pos (by decide) (W.ret ?_)
          rw [if_pos (show offB c.1 c.2 l2 _ = true from h3)]; try rfl
        · refine W.ret ?_
          rw [if_neg (show ¬ offB c.1 c.2 l2 _ = true from h3)]; try rfl
      · rw [if_neg (fun hx => h2 (hb.2 hx))]
        refine W.ite (fun h3 => ?_) (fun h3 => ?_)
        · refine W.pos (by decide) (W.ret ?_)
          rw [if_pos (show offB c.1 c.2 l2 _ = true from h3)]; try rfl
        · refine W.ret ?_
          rw [if_neg (show ¬ offB c.1 c.2 l2 _ = true from h3)]; try rfl
    refine W.ite (fun h2 => key true ?_) (fun h2 => key _ ?_)
    · simp [h2]
    · simp only [decide_eq_true_iff]; omega
/-! ### quotients -/
def hasR (l h v : Int) : Bool := decide (okR l h ∧ l ≤ v ∧ v ≤ h)
def rdiv (l h l2 h2 : Int) : Int × Int × List Int :=
  let n := rmeet l2 h2 (-2147483648) (-1)
  let p := rmeet l2 h2 1 2147483647
  let c := if n.1 > n.2 then (if p.1 > p.2 then (1, 0) else cut (crn 4 l h p.1 p.2).1 (crn 4 l h p.1 p.2).2)
    else if p.1 > p.2 then cut (crn 4 l h n.1 n.2).1 (crn 4 l h n.1 n.2).2
    else cut (mn (crn 4 l h p.1 p.2).1 (crn 4 l h n.1 n.2).1) (mx (crn 4 l h p.1 p.2).2 (crn 4 l h n.1 n.2).2)
  (c.1, c.2, (if hasR l h (-2147483648) && hasR l2 h2 (-1) then [1] else []) ++ (if hasR l2 h2 0 then [2] else []))
theorem iDiv_tail (l h l2 h2 : Int) (c : Int × Int) : W (fun k => impl_rangeDiv.j1 k l h l2 h2 c.1 c.2) (· = (c.1, c.2, (if hasR l h (-2147483648) && hasR l2 h2 (-1) then [1] else []) ++ (if hasR l2 h2 0 then [2] else []))) := by
  have key : ∀ b : Bool, W (fun k => impl_rangeDiv.j2 k [] b l2 h2 c.1 c.2) (· = (c.1, c.2, (if b then [1] else []) ++ (if hasR l2 h2 0 then [2] else []))) := by
    intro b
    refine W.step (fun k => by simp only [impl_rangeDiv.j2, iRangeHas, Option.bind_some, List.nil_append]; try rfl) ?_
    refine W.ite (fun h1 => ?_) (fun h1 => ?_)
    · rw [if_pos h1]
      refine W.pos (by decide) ?_
      refine W.ite (fun h2 => ?_) (fun h2 => ?_)
      · exact W.pos (by decide) (W.ret (by rw [if_pos (show hasR l2 _ 0 = true from h2)]; try rfl))
      · exact W.ret (by rw [if_neg (show ¬ hasR l2 _ 0 = true from h2)]; try rfl)
    · rw [if_neg h1]
      refine W.ite (fun h2 => ?_) (fun h2 => ?_)
      · exact W.pos (by decide) (W.ret (by rw [if_pos (show hasR l2 _ 0 = true from h2)]; try rfl))
      · exact W.ret (by rw [if_neg (show ¬ hasR l2 _ 0 = true from h2)]; try rfl)
  refine W.step (fun k => by simp only [impl_rangeDiv.j1, iRangeHas, Option.bind_some]; try rfl) ?_
  refine W.ite (fun h1 => ?_) (fun h1 => ?_)
  · have e : hasR l h (-2147483648) = true := h1
    have := key (hasR l2 h2 (-1))
    rw [e, Bool.true_and]
    exact this
  · have e : hasR l h (-2147483648) = false := Bool.eq_false_iff.mpr h1
    have := key false
    rw [e, Bool.false_and]
    exact this
theorem iDiv {l h l2 h2 : Int} (hl : N32 l) (hh : N32 h) : W (fun k => impl_rangeDiv.f k l h l2 h2) (· = rdiv l h l2 h2) := by
  have hn := rmeet_in l2 h2 (x := -2147483648) (y := -1) (by unfold okR; omega) (by unfold isNone; omega)
  have hp := rmeet_in l2 h2 (x := 1) (y := 2147483647) (by unfold okR; omega) (by unfold isNone; omega)
  unfold impl_rangeDiv.f impl_rangeSides.f
  refine W.bind (Q := (· = ((rmeet l2 h2 (-2147483648) (-1)).1, (rmeet l2 h2 (-2147483648) (-1)).2, (rmeet l2 h2 1 2147483647).1, (rmeet l2 h2 1 2147483647).2))) ?_ ?_
  · refine W.bind (iRangeMeet l2 h2 (-2147483648) (-1)) ?_
    rintro _ rfl
    refine W.bind (iRangeMeet l2 h2 1 2147483647) ?_
    rintro _ rfl
    exact W.ret rfl
  rintro _ rfl
  simp only
  unfold rdiv
  generalize rmeet l2 h2 (-2147483648) (-1) = n at hn ⊢
  generalize rmeet l2 h2 1 2147483647 = p at hp ⊢
  simp only
  have ft : ∀ b : Int, b ≠ 0 → Fit 4 b := fun b h0 => ⟨fun _ => h0, fun h => absurd h (by omega)⟩
  have fin : ∀ (x y : Int) (s : Bool) (i : Int), i = 2 → W (fun k => impl_rangeDiv.l0 k x y s i l h l2 h2 n.1 n.2 p.1 p.2) (· = ((if s then cut x y else (1, 0)).1, (if s then cut x y else (1, 0)).2, (if hasR l h (-2147483648) && hasR l2 h2 (-1) then [1] else []) ++ (if hasR l2 h2 0 then [2] else []))) := by
    rintro x y s _ rfl
    refine W.step (fun k => by simp only [impl_rangeDiv.l0, impl_rangeNone.f, iFrom, Option.bind_some]; try rfl) ?_
    refine W.neg (by decide) ?_
    refine W.ite (fun h1 => ?_) (fun h1 => ?_)
    · rw [if_pos h1]; exact iDiv_tail l h l2 h2 _
    · rw [if_neg h1]; exact iDiv_tail l h l2 h2 (1, 0)
  have two : ∀ (x y : Int) (s : Bool), W (fun k => impl_rangeDiv.l0 k x y s 1 l h l2 h2 n.1 n.2 p.1 p.2) (· = (let c := if p.1 > p.2 then (if s then cut x y else (1, 0)) else if s then cut (mn (crn 4 l h p.1 p.2).1 x) (mx (crn 4 l h p.1 p.2).2 y) else cut (crn 4 l h p.1 p.2).1 (crn 4 l h p.1 p.2).2
      (c.1, c.2, (if hasR l h (-2147483648) && hasR l2 h2 (-1) then [1] else []) ++ (if hasR l2 h2 0 then [2] else [])))) := by
    intro x y s
    refine W.step (fun k => by simp only [impl_rangeDiv.l0, impl_Range_empty.f, Option.bind_some]; try rfl) ?_
    refine W.pos (by decide) (W.neg (by decide) (W.pos True.intro ?_))
    refine W.dec (fun h1 => ?_) (fun h1 => ?_)
    · rw [if_pos h1]; exact fin x y s _ (by unfold wrap64; omega)
    · rw [if_neg h1]
      have hp' := hp.resolve_left h1
      refine W.bind (iCorners (l := l) (h := h) (l2 := p.1) (h2 := p.2) (by omega) (by omega) hl hh (by unfold N32; omega) (by unfold N32; omega) (ft _ (by omega)) (ft _ (by omega))) ?_
      rintro _ rfl
      refine W.ite (fun h2 => ?_) (fun h2 => ?_)
      · have := fin (mn (crn 4 l h p.1 p.2).1 x) (mx (crn 4 l h p.1 p.2).2 y) true _ (show wrap64 (1 + 1) = 2 by unfold wrap64; omega)
        rw [if_pos h2]; exact this
      · have := fin (crn 4 l h p.1 p.2).1 (crn 4 l h p.1 p.2).2 true _ (show wrap64 (1 + 1) = 2 by unfold wrap64; omega)
        rw [if_neg h2]; exact this
  refine W.step (fun k => by simp only [impl_rangeDiv.l0, impl_Range_empty.f, Option.bind_some]; try rfl) ?_
  refine W.pos (by decide) (W.pos True.intro ?_)
  have e1 : wrap64 (0 + 1) = 1 := by unfold wrap64; omega
  rw [e1]
  refine W.dec (fun h1 => ?_) (fun h1 => ?_)
  · rw [if_pos h1]; exact two 0 0 false
  · rw [if_neg h1]
    have hn' := hn.resolve_left h1
    refine W.bind (iCorners (l := l) (h := h) (l2 := n.1) (h2 := n.2) (by omega) (by omega) hl hh (by unfold N32; omega) (by unfold N32; omega) (ft _ (by omega)) (ft _ (by omega))) ?_
    rintro _ rfl
    refine W.neg (by decide) ?_
    exact two _ _ true

/-! ### rests -/
def remBy (l h x y : Int) : Int × Int := if l > -x ∧ h < x then (l, h) else (if l < 0 then mx l (1 - y) else 0, if h > 0 then mn h (y - 1) else 0)
theorem iRemBy {l h x y : Int} (hx : 0 ≤ x ∧ x ≤ 2147483648) (hy : 0 ≤ y ∧ y ≤ 2147483648) : W (fun k => impl_rangeRemBy.f k l h x y) (· = remBy l h x y) := by
  have e1 : wrap64 (-x) = -x := wrap64_id (by omega) (by omega)
  have e2 : wrap64 (1 - y) = 1 - y := wrap64_id (by omega) (by omega)
  have e3 : wrap64 (y - 1) = y - 1 := wrap64_id (by omega) (by omega)
  have key : ∀ b : Bool, (b = true ↔ (l > -x ∧ h < x)) → W (fun k => impl_rangeRemBy.j0 k y b l h) (· = remBy l h x y) := by
    intro b hb
    refine W.step (fun k => by simp only [impl_rangeRemBy.j0, e2, e3]; rfl) ?_
    refine W.ite (fun h1 => W.ret ?_) (fun h1 => ?_)
    · unfold remBy; rw [if_pos (hb.1 h1)]
    · have h1' : ¬ (l > -x ∧ h < x) := fun z => h1 (hb.2 z)
      unfold remBy
      rw [if_neg h1']
      refine W.ite (fun h2 => W.ite (fun h3 => W.ret ?_) (fun h3 => W.ret ?_)) (fun h2 => W.ite (fun h3 => W.ret ?_) (fun h3 => W.ret ?_))
      · rw [if_pos h2, if_pos h3]
      · rw [if_pos h2, if_neg h3]
      · rw [if_neg h2, if_pos h3]
      · rw [if_neg h2, if_neg h3]
  unfold impl_rangeRemBy.f
  rw [e1]
  refine W.ite (fun h1 => key _ ?_) (fun h1 => key _ ?_)
  · simp [h1]
  · simp only [Bool.false_eq_true, false_iff]; omega
def rrem (l h l2 h2 : Int) : Int × Int × List Int :=
  if l = h ∧ l2 = h2 ∧ l2 ≠ 0 then (l.tmod l2, l.tmod l2, []) else
  let n := rmeet l2 h2 (-2147483648) (-1)
  let p := rmeet l2 h2 1 2147483647
  let o := if n.1 > n.2 then (1, 0) else rjoin 1 0 (remBy l h (-n.2) (-n.1)).1 (remBy l h (-n.2) (-n.1)).2
  let q := if p.1 > p.2 then o else rjoin o.1 o.2 (remBy l h p.1 p.2).1 (remBy l h p.1 p.2).2
  (q.1, q.2, if hasR l2 h2 0 then [2] else [])
theorem iRem {l h l2 h2 : Int} : W (fun k => impl_rangeRem.f k l h l2 h2) (· = rrem l h l2 h2) := by
  have hn := rmeet_in l2 h2 (x := -2147483648) (y := -1) (by unfold okR; omega) (by unfold isNone; omega)
  have hp := rmeet_in l2 h2 (x := 1) (y := 2147483647) (by unfold okR; omega) (by unfold isNone; omega)
  have key : ∀ b : Bool, (b = true ↔ (l = h ∧ l2 = h2 ∧ l2 ≠ 0)) → W (fun k => impl_rangeRem.j0 k b l h l2 h2) (· = rrem l h l2 h2) := by
    intro b hb
    refine W.step (fun k => by simp only [impl_rangeRem.j0]; rfl) ?_
    refine W.ite (fun h1 => ?_) (fun h1 => ?_)
    · refine W.neg (hb.1 h1).2.2 (W.ret ?_)
      unfold rrem; rw [if_pos (hb.1 h1)]
    have h1' : ¬ (l = h ∧ l2 = h2 ∧ l2 ≠ 0) := fun z => h1 (hb.2 z)
    unfold rrem impl_rangeSides.f
    rw [if_neg h1']
    refine W.bind (Q := (· = ((rmeet l2 h2 (-2147483648) (-1)).1, (rmeet l2 h2 (-2147483648) (-1)).2, (rmeet l2 h2 1 2147483647).1, (rmeet l2 h2 1 2147483647).2))) ?_ ?_
    · refine W.bind (iRangeMeet l2 h2 (-2147483648) (-1)) ?_
      rintro _ rfl
      refine W.bind (iRangeMeet l2 h2 1 2147483647) ?_
      rintro _ rfl
      exact W.ret rfl
    rintro _ rfl
    simp only [impl_rangeNone.f, impl_Range_empty.f, Option.bind_some]
    generalize rmeet l2 h2 (-2147483648) (-1) = n at hn ⊢
    generalize rmeet l2 h2 1 2147483647 = p at hp ⊢
    have fin : ∀ o : Int × Int, W (fun k => impl_rangeRem.j1 k l h l2 h2 n.1 n.2 p.1 p.2 o.1 o.2) (· = ((if p.1 > p.2 then o else rjoin o.1 o.2 (remBy l h p.1 p.2).1 (remBy l h p.1 p.2).2).1, (if p.1 > p.2 then o else rjoin o.1 o.2 (remBy l h p.1 p.2).1 (remBy l h p.1 p.2).2).2, if hasR l2 h2 0 then [2] else [])) := by
      intro o
      refine W.step (fun k => by simp only [impl_rangeRem.j1, impl_Range_empty.f, iRangeHas, Option.bind_some]; rfl) ?_
      refine W.dec (fun h2 => ?_) (fun h2 => ?_)
      · rw [if_pos h2]
        refine W.ite (fun h3 => W.ret ?_) (fun h3 => W.ret ?_)
        · rw [if_pos (show hasR l2 _ 0 = true from h3)]
        · rw [if_neg (show ¬ hasR l2 _ 0 = true from h3)]
      · rw [if_neg h2]
        have hp' := hp.resolve_left h2
        refine W.bind (iRemBy (by omega) (by omega)) ?_
        rintro _ rfl
        refine W.bind (iRangeJoin _ _ _ _) ?_
        rintro _ rfl
        refine W.ite (fun h3 => W.ret ?_) (fun h3 => W.ret ?_)
        · rw [if_pos (show hasR l2 _ 0 = true from h3)]
        · rw [if_neg (show ¬ hasR l2 _ 0 = true from h3)]
    refine W.dec (fun h2 => ?_) (fun h2 => ?_)
    · rw [if_pos h2]; exact fin (1, 0)
    · rw [if_neg h2]
      have hn' := hn.resolve_left h2
      rw [wrap64_id (n := -n.2) (by omega) (by omega), wrap64_id (n := -n.1) (by omega) (by omega)]
      refine W.bind (iRemBy (by omega) (by omega)) ?_
      rintro _ rfl
      refine W.bind (iRangeJoin _ _ _ _) ?_
      rintro _ rfl
      exact fin _
  unfold impl_rangeRem.f
  simp only [impl_Range_single.f, Option.bind_some]
  refine W.ite (fun h1 => W.ite (fun h2 => key _ ?_) (fun h2 => key _ ?_)) (fun h1 => key _ ?_)
  · simp only [beq_iff_eq] at h1 h2
    simp [h1, h2]
  · simp only [beq_iff_eq] at h1 h2
    simp [h2]
  · simp only [beq_iff_eq] at h1
    simp [h1]
/-! ### bits -/
def mskL : Nat → Int → Int → Int
  | 0, x, _ => x
  | n + 1, x, m => if x < m then mskL n (2 * x + 1) m else x
/-- The least number of ones, in bits, that is at least m. -/
def msk (m : Int) : Int := mskL 32 0 m
theorem msk_loop {g : Nat → Int → Int × Int → Prop} (m : Int) (hm : m ≤ 2147483647) (l h l2 h2 z : Int) (e : mx h h2 = m) : ∀ (n : Nat) (x : Int), 0 ≤ x → x + 1 = 2 ^ (32 - n) → n ≤ 32 → W (fun k => impl_rangeBits.l0 k l h l2 h2 z x) (· = (z, mskL n x m)) := by
  intro n
  induction n with
  | zero =>
    intro x h0 hx _
    refine W.step (fun k => by simp only [impl_rangeBits.l0]; rfl) ?_
    refine W.neg (by rw [e]; simp at hx; omega) (W.ret rfl)
  | succ n ih =>
    intro x h0 hx hn
    refine W.step (fun k => by simp only [impl_rangeBits.l0]; rfl) ?_
    rw [e]
    unfold mskL
    refine W.ite (fun h1 => ?_) (fun h1 => W.ret (by rw [if_neg h1]))
    rw [if_pos h1, wrap64_id (n := 2 * x) (by omega) (by omega), wrap64_id (n := 2 * x + 1) (by omega) (by omega)]
    refine ih (2 * x + 1) (by omega) ?_ (by omega)
    rw [show 32 - n = (32 - (n + 1)) + 1 by omega, Int.pow_succ]
    omega
def rbits (op l h l2 h2 : Int) : Int × Int :=
  if l = h ∧ l2 = h2 then (exactV op l l2, exactV op l l2) else
  if op = 6 then (if l ≥ 0 ∧ l2 ≥ 0 then (0, mn h h2) else if l ≥ 0 then (0, h) else if l2 ≥ 0 then (0, h2) else (-2147483648, 2147483647))
  else if l < 0 ∨ l2 < 0 then (-2147483648, 2147483647) else (if op = 7 then mx l l2 else 0, msk (mx h h2))
theorem iBits {op l h l2 h2 : Int} (ho : op = 6 ∨ op = 7 ∨ op = 8) (hl : N32 l) (hh : N32 h) (hl2 : N32 l2) (hh2 : N32 h2) : W (fun k => impl_rangeBits.f k op l h l2 h2) (· = rbits op l h l2 h2) := by
  have ft : Fit op l2 := ⟨fun h => absurd h (by omega), fun h => absurd h (by omega)⟩
  have hm : mx h h2 ≤ 2147483647 := by unfold N32 at hh hh2; unfold mx; split <;> omega
  have key : ∀ b : Bool, (b = true ↔ (l = h ∧ l2 = h2)) → W (fun k => impl_rangeBits.j0 k op b l h l2 h2) (· = rbits op l h l2 h2) := by
    intro b hb
    refine W.step (fun k => by simp only [impl_rangeBits.j0]; rfl) ?_
    refine W.ite (fun h1 => ?_) (fun h1 => ?_)
    · refine W.bind (iExact (by omega) (by omega) hl hl2 ft) ?_
      rintro _ rfl
      exact W.ret (by unfold rbits; rw [if_pos (hb.1 h1)])
    have h1' : ¬ (l = h ∧ l2 = h2) := fun z => h1 (hb.2 z)
    unfold rbits
    rw [if_neg h1']
    refine W.ite (fun g2 => ?_) (fun g2 => ?_)
    · rw [if_pos g2]
      have t : ∀ c : Bool, (c = true ↔ (l ≥ 0 ∧ l2 ≥ 0)) → W (fun k => impl_rangeBits.j1 k c l h l2 h2) (· = (if l ≥ 0 ∧ l2 ≥ 0 then (0, mn h h2) else if l ≥ 0 then (0, h) else if l2 ≥ 0 then (0, h2) else (-2147483648, 2147483647))) := by
        intro c hc
        refine W.step (fun k => by simp only [impl_rangeBits.j1]; rfl) ?_
        refine W.ite (fun h3 => W.ret (by rw [if_pos (hc.1 h3)])) (fun h3 => ?_)
        rw [if_neg (fun z => h3 (hc.2 z))]
        refine W.ite (fun h4 => W.ret (by rw [if_pos h4])) (fun h4 => ?_)
        rw [if_neg h4]
        exact W.ite (fun h5 => W.ret (by rw [if_pos h5])) (fun h5 => W.ret (by rw [if_neg h5]))
      refine W.ite (fun h3 => t _ ?_) (fun h3 => t _ ?_)
      · simp [h3]
      · simp [h3]
    · rw [if_neg g2]
      have fin : ∀ z : Int, W (fun k => impl_rangeBits.j3 k l h l2 h2 z 0) (· = (z, msk (mx h h2))) := by
        intro z
        refine W.step (fun k => by simp only [impl_rangeBits.j3]; rfl) ?_
        exact msk_loop (g := fun _ _ _ => True) _ hm l h l2 h2 z rfl 32 0 (by omega) (by decide) (by omega)
      have t : ∀ c : Bool, (c = true ↔ (l < 0 ∨ l2 < 0)) → W (fun k => impl_rangeBits.j2 k op c l h l2 h2) (· = (if l < 0 ∨ l2 < 0 then (-2147483648, 2147483647) else (if op = 7 then mx l l2 else 0, msk (mx h h2)))) := by
        intro c hc
        refine W.step (fun k => by simp only [impl_rangeBits.j2]; rfl) ?_
        refine W.ite (fun h3 => W.ret (by rw [if_pos (hc.1 h3)])) (fun h3 => ?_)
        rw [if_neg (fun z => h3 (hc.2 z))]
        refine W.ite (fun h4 => ?_) (fun h4 => ?_)
        · rw [if_pos h4]; exact fin _
        · rw [if_neg h4]; exact fin _
      refine W.ite (fun h3 => t _ ?_) (fun h3 => t _ ?_)
      · simp [h3]
      · simp [h3]
  unfold impl_rangeBits.f
  simp only [impl_Range_single.f, Option.bind_some]
  refine W.ite (fun h1 => key _ ?_) (fun h1 => key _ ?_)
  · simp only [beq_iff_eq] at h1
    simp [h1]
  · simp only [beq_iff_eq] at h1
    simp [h1]
/-! ### all of them -/
def badDo (op l h l2 h2 : Int) : Prop := ¬ (1 ≤ op ∧ op ≤ 13) ∨ ¬ okR l h ∨ ¬ okR l2 h2 ∨ l > h ∨ l2 > h2
instance (op l h l2 h2 : Int) : Decidable (badDo op l h l2 h2) := by unfold badDo; exact inferInstance
def rangeDo (op l h l2 h2 : Int) : Int × Int × List Int :=
  if badDo op l h l2 h2 then (1, 0, []) else
  if op ≤ 3 then ((cut (crn op l h l2 h2).1 (crn op l h l2 h2).2).1, (cut (crn op l h l2 h2).1 (crn op l h l2 h2).2).2, if (crn op l h l2 h2).1 < -2147483648 ∨ (crn op l h l2 h2).2 > 2147483647 then [1] else [])
  else if op ≥ 11 then ((rwrap op l h l2 h2).1, (rwrap op l h l2 h2).2, [])
  else if op ≥ 9 then rshift op l h l2 h2
  else if op = 4 then rdiv l h l2 h2
  else if op = 5 then rrem l h l2 h2
  else ((rbits op l h l2 h2).1, (rbits op l h l2 h2).2, [])
theorem okR_N32 {l h : Int} (o : okR l h) : N32 l ∧ N32 h := by unfold okR at o; unfold N32; omega
theorem iRangeDo (op l h l2 h2 : Int) : W (fun k => impl_RangeDo.f k op l h l2 h2) (· = rangeDo op l h l2 h2) := by
  have bad : badDo op l h l2 h2 → W (fun k => impl_RangeDo.j0 k op true l h l2 h2) (· = rangeDo op l h l2 h2) := by
    intro hb
    refine W.step (fun k => by simp only [impl_RangeDo.j0, impl_rangeNone.f, Option.bind_some]; rfl) ?_
    refine W.pos (by trivial) (W.ret ?_)
    unfold rangeDo; rw [if_pos hb]
  have good : ¬ badDo op l h l2 h2 → W (fun k => impl_RangeDo.j0 k op false l h l2 h2) (· = rangeDo op l h l2 h2) := by
    intro hb
    have hb0 := hb
    unfold badDo at hb
    have ho : 1 ≤ op ∧ op ≤ 13 := by omega
    have o1 : okR l h := Decidable.byContradiction fun z => hb (.inr (.inl z))
    have o2 : okR l2 h2 := Decidable.byContradiction fun z => hb (.inr (.inr (.inl z)))
    obtain ⟨hl, hh⟩ := okR_N32 o1
    obtain ⟨hl2, hh2⟩ := okR_N32 o2
    unfold rangeDo
    rw [if_neg hb0]
    refine W.step (fun k => by simp only [impl_RangeDo.j0]; rfl) ?_
    refine W.neg (by decide) ?_
    have t4 : ∀ c : Bool, (c = true ↔ (op = 9 ∨ op = 10)) → ¬ op ≤ 3 → ¬ op ≥ 11 → W (fun k => impl_RangeDo.j4 k op op c l h l2 h2) (· = if op ≥ 9 then rshift op l h l2 h2 else if op = 4 then rdiv l h l2 h2 else if op = 5 then rrem l h l2 h2 else ((rbits op l h l2 h2).1, (rbits op l h l2 h2).2, [])) := by
      intro c hc n1 n2
      refine W.step (fun k => by simp only [impl_RangeDo.j4]; rfl) ?_
      refine W.ite (fun h1 => ?_) (fun h1 => ?_)
      · have := hc.1 h1
        rw [if_pos (by omega)]
        refine W.bind (iShift this hl hh) ?_
        rintro _ rfl
        exact W.ret rfl
      · have : ¬ (op = 9 ∨ op = 10) := fun z => h1 (hc.2 z)
        rw [if_neg (by omega)]
        refine W.ite (fun h2 => ?_) (fun h2 => ?_)
        · rw [if_pos h2]
          refine W.bind (iDiv hl hh) ?_
          rintro _ rfl
          exact W.ret rfl
        rw [if_neg h2]
        refine W.ite (fun h3 => ?_) (fun h3 => ?_)
        · rw [if_pos h3]
          refine W.bind iRem ?_
          rintro _ rfl
          exact W.ret rfl
        rw [if_neg h3]
        refine W.bind (iBits (by omega) hl hh hl2 hh2) ?_
        rintro _ rfl
        exact W.ret rfl
    have t3 : ∀ c : Bool, (c = true ↔ (op ≥ 11)) → ¬ op ≤ 3 → W (fun k => impl_RangeDo.j3 k op op c l h l2 h2) (· = if op ≥ 11 then ((rwrap op l h l2 h2).1, (rwrap op l h l2 h2).2, []) else if op ≥ 9 then rshift op l h l2 h2 else if op = 4 then rdiv l h l2 h2 else if op = 5 then rrem l h l2 h2 else ((rbits op l h l2 h2).1, (rbits op l h l2 h2).2, [])) := by
      intro c hc n1
      refine W.step (fun k => by simp only [impl_RangeDo.j3]; rfl) ?_
      refine W.ite (fun h1 => ?_) (fun h1 => ?_)
      · have := hc.1 h1
        rw [if_pos this]
        refine W.bind (iWrap (by omega) (by omega) hl hh hl2 hh2) ?_
        rintro _ rfl
        exact W.ret rfl
      · have : ¬ (op ≥ 11) := fun z => h1 (hc.2 z)
        rw [if_neg this]
        refine W.ite (fun h2 => t4 _ ?_ n1 this) (fun h2 => t4 _ ?_ n1 this)
        · simp [h2]
        · simp only [beq_iff_eq]; omega
    have t1 : ∀ c : Bool, (c = true ↔ (op ≤ 3)) → W (fun k => impl_RangeDo.j1 k op op c l h l2 h2) (· = if op ≤ 3 then ((cut (crn op l h l2 h2).1 (crn op l h l2 h2).2).1, (cut (crn op l h l2 h2).1 (crn op l h l2 h2).2).2, if (crn op l h l2 h2).1 < -2147483648 ∨ (crn op l h l2 h2).2 > 2147483647 then [1] else [])
        else if op ≥ 11 then ((rwrap op l h l2 h2).1, (rwrap op l h l2 h2).2, []) else if op ≥ 9 then rshift op l h l2 h2 else if op = 4 then rdiv l h l2 h2 else if op = 5 then rrem l h l2 h2 else ((rbits op l h l2 h2).1, (rbits op l h l2 h2).2, [])) := by
      intro c hc
      refine W.step (fun k => by simp only [impl_RangeDo.j1]; rfl) ?_
      refine W.ite (fun h1 => ?_) (fun h1 => ?_)
      · have h3 := hc.1 h1
        rw [if_pos h3]
        have ft : ∀ b, Fit op b := fun b => ⟨fun h => absurd h (by omega), fun h => absurd h (by omega)⟩
        refine W.bind (iCorners (by omega) (by omega) hl hh hl2 hh2 (ft _) (ft _)) ?_
        rintro _ rfl
        have t2 : ∀ b : Bool, (b = true ↔ ((crn op l h l2 h2).1 < -2147483648 ∨ (crn op l h l2 h2).2 > 2147483647)) → W (fun k => impl_RangeDo.j2 k (crn op l h l2 h2).1 (crn op l h l2 h2).2 b) (· = ((cut (crn op l h l2 h2).1 (crn op l h l2 h2).2).1, (cut (crn op l h l2 h2).1 (crn op l h l2 h2).2).2, if (crn op l h l2 h2).1 < -2147483648 ∨ (crn op l h l2 h2).2 > 2147483647 then [1] else [])) := by
          intro b hb
          refine W.step (fun k => by simp only [impl_RangeDo.j2, iFrom, Option.bind_some]; rfl) ?_
          refine W.ite (fun h4 => W.ret ?_) (fun h4 => W.ret ?_)
          · rw [if_pos (hb.1 h4)]
          · rw [if_neg (fun z => h4 (hb.2 z))]
        refine W.ite (fun h4 => t2 _ ?_) (fun h4 => t2 _ ?_)
        · simp [h4]
        · simp only [decide_eq_true_iff]; omega
      · have h3 : ¬ op ≤ 3 := fun z => h1 (hc.2 z)
        rw [if_neg h3]
        refine W.ite (fun h4 => t3 _ ?_ h3) (fun h4 => W.ite (fun h5 => t3 _ ?_ h3) (fun h5 => t3 _ ?_ h3))
        · simp [h4]
        · simp [h5]
        · simp only [beq_iff_eq]; omega
    refine W.ite (fun h4 => t1 _ ?_) (fun h4 => W.ite (fun h5 => t1 _ ?_) (fun h5 => t1 _ ?_))
    · simp [h4]
    · simp [h5]
    · simp only [beq_iff_eq]; omega
  unfold impl_RangeDo.f
  simp only [iNumOp, iRangeOk, impl_Range_empty.f, Option.bind_some]
  refine W.dec (fun h1 => W.dec (fun h3 => W.dec (fun h4 => W.dec (fun h5 => bad ?_) (fun h5 => ?_)) (fun h4 => bad ?_)) (fun h3 => bad ?_)) (fun h1 => bad ?_)
  · exact .inr (.inr (.inr (.inl h5)))
  · by_cases h6 : l2 > h2
    · rw [decide_eq_true h6]; exact bad (.inr (.inr (.inr (.inr h6))))
    · rw [decide_eq_false h6]
      refine good ?_
      unfold badDo
      simp only [h3, h4, not_true, false_or]
      omega
  · exact .inr (.inr (.inl h4))
  · exact .inr (.inl h3)
  · exact .inl h1

/-! ### what an operator makes of two ranges: the reference's -/
theorem mn_min (a b : Int) : mn a b = min a b := by unfold mn; split <;> omega
theorem mx_max (a b : Int) : mx a b = max a b := by unfold mx; split <;> omega
def addR (r : Bool × Int × Int) (v : Int) : Bool × Int × Int := (true, if r.1 = true then mn r.2.1 v else v, if r.1 = true then mx r.2.2 v else v)
theorem sAdd (b : Bool) (x y v : Int) : W (fun k => spec_l8R_add.f k b x y v) (· = addR (b, x, y) v) := by
  unfold spec_l8R_add.f
  cases b
  · refine W.neg (by decide) ?_
    refine W.step (fun k => by simp only [spec_l8R_add.j0]; rfl) ?_
    exact W.pos (by trivial) (W.neg (by decide) (W.ret rfl))
  · refine W.pos (by trivial) ?_
    refine W.step (fun k => by simp only [spec_l8R_add.j0]; rfl) ?_
    refine W.dec (fun h1 => W.pos (by trivial) (W.ite (fun h2 => W.ret ?_) (fun h2 => W.ret ?_))) (fun h1 => W.pos (by trivial) (W.ite (fun h2 => W.ret ?_) (fun h2 => W.ret ?_))) <;> (simp only [addR, if_true, mn_min, mx_max, Prod.mk.injEq, true_and]; omega)
theorem sCorners {op l h l2 h2 : Int} (ho : 1 ≤ op) (ho1 : op ≤ 13) (hl : N32 l) (hh : N32 h) (hl2 : N32 l2) (hh2 : N32 h2) (f1 : Fit op l2) (f2 : Fit op h2) (b : Bool) (x y : Int) :
    W (fun k => spec_l8R_corners.f k b x y op l h l2 h2) (· = (true, if b = true then mn (crn op l h l2 h2).1 x else (crn op l h l2 h2).1, if b = true then mx (crn op l h l2 h2).2 y else (crn op l h l2 h2).2)) := by
  unfold spec_l8R_corners.f
  refine W.bind (sExact ho ho1 hl hl2 f1) ?_
  rintro _ rfl
  refine W.bind (sAdd _ _ _ _) ?_
  rintro _ rfl
  refine W.bind (sExact ho ho1 hl hh2 f2) ?_
  rintro _ rfl
  refine W.bind (sAdd _ _ _ _) ?_
  rintro _ rfl
  refine W.bind (sExact ho ho1 hh hl2 f1) ?_
  rintro _ rfl
  refine W.bind (sAdd _ _ _ _) ?_
  rintro _ rfl
  refine W.bind (sExact ho ho1 hh hh2 f2) ?_
  rintro _ rfl
  refine W.bind (sAdd _ _ _ _) ?_
  rintro _ rfl
  refine W.ret ?_
  simp only [addR, crn, if_true, mn_min, mx_max]
  cases b <;> simp only [if_true, if_false, Bool.false_eq_true, Prod.mk.injEq, true_and] <;> omega
theorem sCorners0 {op l h l2 h2 : Int} (ho : 1 ≤ op) (ho1 : op ≤ 13) (hl : N32 l) (hh : N32 h) (hl2 : N32 l2) (hh2 : N32 h2) (f1 : Fit op l2) (f2 : Fit op h2) (x y : Int) : W (fun k => spec_l8R_corners.f k false x y op l h l2 h2) (· = (true, (crn op l h l2 h2).1, (crn op l h l2 h2).2)) := by
  refine W.mono (sCorners ho ho1 hl hh hl2 hh2 f1 f2 false x y) ?_
  rintro _ rfl
  simp
theorem sCorners1 {op l h l2 h2 : Int} (ho : 1 ≤ op) (ho1 : op ≤ 13) (hl : N32 l) (hh : N32 h) (hl2 : N32 l2) (hh2 : N32 h2) (f1 : Fit op l2) (f2 : Fit op h2) (x y : Int) : W (fun k => spec_l8R_corners.f k true x y op l h l2 h2) (· = (true, mn (crn op l h l2 h2).1 x, mx (crn op l h l2 h2).2 y)) := by
  refine W.mono (sCorners ho ho1 hl hh hl2 hh2 f1 f2 true x y) ?_
  rintro _ rfl
  simp
theorem sWrapped {x y : Int} (hx : -4611686016279904256 ≤ x ∧ x ≤ 4611686018427387904) (hy : -4611686016279904256 ≤ y ∧ y ≤ 4611686018427387904) :
    W (fun k => spec_l8Wrapped.f k x y) (· = if y - x > 4294967295 ∨ wrap32 x > wrap32 y then (-2147483648, 2147483647) else (wrap32 x, wrap32 y)) := by
  have ex := sNumWrap x (by omega) (by omega)
  have ey := sNumWrap y (by omega) (by omega)
  unfold spec_l8Wrapped.f
  rw [wrap64_id (n := y - x) (by omega) (by omega)]
  simp only [ex, ey, Option.bind_some]
  refine W.ite (fun h1 => ?_) (fun h1 => ?_)
  · refine W.step (fun k => by simp only [spec_l8Wrapped.j0]; rfl) ?_
    exact W.pos (by trivial) (W.ret (by rw [if_pos (.inl h1)]))
  · refine W.step (fun k => by simp only [spec_l8Wrapped.j0, ex, ey, Option.bind_some]; rfl) ?_
    exact W.dec (fun h2 => W.ret (by rw [if_pos (.inr h2)])) (fun h2 => W.ret (by rw [if_neg (fun z => z.elim h1 h2)]))
theorem sRem {l h x y : Int} (hx : 0 ≤ x ∧ x ≤ 2147483648) (hy : 0 ≤ y ∧ y ≤ 2147483648) : W (fun k => spec_l8Rem.f k l h x y) (· = remBy l h x y) := by
  have e1 : wrap64 (-x) = -x := wrap64_id (by omega) (by omega)
  have e2 : wrap64 (1 - y) = 1 - y := wrap64_id (by omega) (by omega)
  have e3 : wrap64 (y - 1) = y - 1 := wrap64_id (by omega) (by omega)
  have key : ∀ b : Bool, (b = true ↔ (l > -x ∧ h < x)) → W (fun k => spec_l8Rem.j0 k y b l h) (· = remBy l h x y) := by
    intro b hb
    refine W.step (fun k => by simp only [spec_l8Rem.j0, e2, e3, sMin, sMax, Option.bind_some]; rfl) ?_
    refine W.ite (fun h1 => W.ret ?_) (fun h1 => ?_)
    · unfold remBy; rw [if_pos (hb.1 h1)]
    · have h1' : ¬ (l > -x ∧ h < x) := fun z => h1 (hb.2 z)
      unfold remBy
      rw [if_neg h1']
      refine W.ite (fun h2 => W.ite (fun h3 => W.ret ?_) (fun h3 => W.ret ?_)) (fun h2 => W.ite (fun h3 => W.ret ?_) (fun h3 => W.ret ?_))
      · rw [if_pos h2, if_pos h3]
      · rw [if_pos h2, if_neg h3]
      · rw [if_neg h2, if_pos h3]
      · rw [if_neg h2, if_neg h3]
  unfold spec_l8Rem.f
  rw [e1]
  refine W.ite (fun h1 => key _ ?_) (fun h1 => key _ ?_)
  · simp [h1]
  · simp only [Bool.false_eq_true, false_iff]; omega
theorem ngt {a b : Int} (o : okR a b) : (!(a == 1) || !(b == 0)) = decide (¬ a > b) := by
  rw [Bool.eq_iff_iff, decide_eq_true_iff, okR_gt o]; unfold isNone; by_cases h1 : a = 1 <;> by_cases h2 : b = 0 <;> simp [h1, h2]
theorem sHas' (l h v : Int) : spec_RangeHas.f l h v = some (hasR l h v) := sRangeHas l h v
theorem sDiv {op l h l2 h2 : Int} (ho : op = 4 ∨ op = 5) (o1 : okR l h) (n1 : ¬ l > h) (o2 : okR l2 h2) (n2 : ¬ l2 > h2) : W (fun k => spec_l8Div.f k op l h l2 h2) (· = if op = 4 then rdiv l h l2 h2 else rrem l h l2 h2) := by
  obtain ⟨hl, hh⟩ := okR_N32 o1
  obtain ⟨hl2, hh2⟩ := okR_N32 o2
  have hn := rmeet_in l2 h2 (x := -2147483648) (y := -1) (by unfold okR; omega) (by unfold isNone; omega)
  have hp := rmeet_in l2 h2 (x := 1) (y := 2147483647) (by unfold okR; omega) (by unfold isNone; omega)
  have on := rmeet_ok l2 h2 (-2147483648) (-1)
  have op_ := rmeet_ok l2 h2 1 2147483647
  unfold spec_l8Div.f rdiv rrem
  simp only [Option.bind_some]
  refine W.bind (sRangeMeet l2 h2 (-2147483648) (-1)) ?_
  rintro _ rfl
  refine W.bind (sRangeMeet l2 h2 1 2147483647) ?_
  rintro _ rfl
  generalize rmeet l2 h2 (-2147483648) (-1) = n at hn on ⊢
  generalize rmeet l2 h2 1 2147483647 = p at hp op_ ⊢
  simp only [sHas', Option.bind_some]
  rcases ho with rfl | rfl
  · refine W.pos rfl ?_
    rw [if_pos rfl]
    have ft : ∀ b : Int, b ≠ 0 → Fit 4 b := fun b h0 => ⟨fun _ => h0, fun h => absurd h (by omega)⟩
    have t5t : ∀ (F : List Int) (x y : Int), W (fun k => spec_l8Div.j5 k F true x y) (· = ((cut x y).1, (cut x y).2, F)) := by
      intro F x y
      refine W.step (fun k => by simp only [spec_l8Div.j5, sCut, spec_l8None.f, Option.bind_some]; rfl) ?_
      (try refine W.pos (by trivial) ?_)
      exact W.ret rfl
    have t5f : ∀ (F : List Int) (x y : Int), W (fun k => spec_l8Div.j5 k F false x y) (· = (1, 0, F)) := by
      intro F x y
      refine W.step (fun k => by simp only [spec_l8Div.j5, sCut, spec_l8None.f, Option.bind_some]; rfl) ?_
      (try refine W.neg (by decide) ?_)
      exact W.ret rfl
    have t4t : ∀ (F : List Int) (x y : Int), W (fun k => spec_l8Div.j4 k 4 F l h p.1 p.2 true x y) (· = (if p.1 > p.2 then ((cut x y).1, (cut x y).2, F) else ((cut (mn (crn 4 l h p.1 p.2).1 x) (mx (crn 4 l h p.1 p.2).2 y)).1, (cut (mn (crn 4 l h p.1 p.2).1 x) (mx (crn 4 l h p.1 p.2).2 y)).2, F))) := by
      intro F x y
      refine W.step (fun k => by simp only [spec_l8Div.j4, spec_l8None.f, Option.bind_some]; rfl) ?_
      rw [ngt op_]
      refine W.dec (fun h1 => ?_) (fun h1 => ?_)
      · rw [if_neg h1]
        have hp' := hp.resolve_left h1
        refine W.bind (sCorners1 (l := l) (h := h) (l2 := p.1) (h2 := p.2) (by omega) (by omega) hl hh (by unfold N32; omega) (by unfold N32; omega) (ft _ (by omega)) (ft _ (by omega)) x y) ?_
        rintro _ rfl
        exact t5t F _ _
      · rw [if_pos (Decidable.not_not.1 h1)]
        exact t5t F x y
    have t4f : ∀ (F : List Int) (x y : Int), W (fun k => spec_l8Div.j4 k 4 F l h p.1 p.2 false x y) (· = (if p.1 > p.2 then (1, 0, F) else ((cut (crn 4 l h p.1 p.2).1 (crn 4 l h p.1 p.2).2).1, (cut (crn 4 l h p.1 p.2).1 (crn 4 l h p.1 p.2).2).2, F))) := by
      intro F x y
      refine W.step (fun k => by simp only [spec_l8Div.j4, spec_l8None.f, Option.bind_some]; rfl) ?_
      rw [ngt op_]
      refine W.dec (fun h1 => ?_) (fun h1 => ?_)
      · rw [if_neg h1]
        have hp' := hp.resolve_left h1
        refine W.bind (sCorners0 (l := l) (h := h) (l2 := p.1) (h2 := p.2) (by omega) (by omega) hl hh (by unfold N32; omega) (by unfold N32; omega) (ft _ (by omega)) (ft _ (by omega)) x y) ?_
        rintro _ rfl
        exact t5t F _ _
      · rw [if_pos (Decidable.not_not.1 h1)]
        exact t5f F x y
    have t2 : ∀ F : List Int, W (fun k => spec_l8Div.j2 k 4 F l h l2 h2 n.1 n.2 p.1 p.2) (· = (let c := if n.1 > n.2 then (if p.1 > p.2 then (1, 0) else cut (crn 4 l h p.1 p.2).1 (crn 4 l h p.1 p.2).2) else if p.1 > p.2 then cut (crn 4 l h n.1 n.2).1 (crn 4 l h n.1 n.2).2 else cut (mn (crn 4 l h p.1 p.2).1 (crn 4 l h n.1 n.2).1) (mx (crn 4 l h p.1 p.2).2 (crn 4 l h n.1 n.2).2)
        (c.1, c.2, F))) := by
      intro F
      refine W.step (fun k => by simp only [spec_l8Div.j2, spec_l8None.f, Option.bind_some]; rfl) ?_
      refine W.neg (by decide) ?_
      rw [ngt on]
      refine W.dec (fun h1 => ?_) (fun h1 => ?_)
      · rw [if_neg h1]
        have hn' := hn.resolve_left h1
        refine W.bind (sCorners0 (l := l) (h := h) (l2 := n.1) (h2 := n.2) (by omega) (by omega) hl hh (by unfold N32; omega) (by unfold N32; omega) (ft _ (by omega)) (ft _ (by omega)) 0 0) ?_
        rintro _ rfl
        refine W.mono (t4t F _ _) ?_
        rintro _ rfl
        by_cases h3 : p.1 > p.2
        · rw [if_pos h3, if_pos h3]
        · rw [if_neg h3, if_neg h3]
      · rw [if_pos (Decidable.not_not.1 h1)]
        refine W.mono (t4f F 0 0) ?_
        rintro _ rfl
        by_cases h3 : p.1 > p.2
        · rw [if_pos h3, if_pos h3]
        · rw [if_neg h3, if_neg h3]
    have t1 : ∀ F : List Int, F.length ≤ 1 → W (fun k => spec_l8Div.j1 k 4 F l h l2 h2 n.1 n.2 p.1 p.2) (· = (let c := if n.1 > n.2 then (if p.1 > p.2 then (1, 0) else cut (crn 4 l h p.1 p.2).1 (crn 4 l h p.1 p.2).2) else if p.1 > p.2 then cut (crn 4 l h n.1 n.2).1 (crn 4 l h n.1 n.2).2 else cut (mn (crn 4 l h p.1 p.2).1 (crn 4 l h n.1 n.2).1) (mx (crn 4 l h p.1 p.2).2 (crn 4 l h n.1 n.2).2)
        (c.1, c.2, F ++ (if hasR l2 h2 0 then [2] else [])))) := by
      intro F hF
      refine W.step (fun k => by simp only [spec_l8Div.j1, sHas', Option.bind_some]; rfl) ?_
      refine W.ite (fun h1 => W.pos (by omega) ?_) (fun h1 => ?_)
      · rw [if_pos h1]; exact t2 _
      · rw [if_neg h1, List.append_nil]; exact t2 _
    have t0 : ∀ b : Bool, b = (hasR l h (-2147483648) && hasR l2 h2 (-1)) → W (fun k => spec_l8Div.j0 k 4 [] b l h l2 h2 n.1 n.2 p.1 p.2) (· = (let c := if n.1 > n.2 then (if p.1 > p.2 then (1, 0) else cut (crn 4 l h p.1 p.2).1 (crn 4 l h p.1 p.2).2) else if p.1 > p.2 then cut (crn 4 l h n.1 n.2).1 (crn 4 l h n.1 n.2).2 else cut (mn (crn 4 l h p.1 p.2).1 (crn 4 l h n.1 n.2).1) (mx (crn 4 l h p.1 p.2).2 (crn 4 l h n.1 n.2).2)
        (c.1, c.2, (if hasR l h (-2147483648) && hasR l2 h2 (-1) then [1] else []) ++ (if hasR l2 h2 0 then [2] else [])))) := by
      rintro b hb
      rw [← hb]
      refine W.step (fun k => by simp only [spec_l8Div.j0, List.nil_append]; rfl) ?_
      refine W.ite (fun h1 => W.pos (by decide) ?_) (fun h1 => ?_)
      · rw [if_pos h1]; exact t1 [1] (by decide)
      · rw [if_neg h1]; exact t1 [] (by decide)
    refine W.ite (fun h1 => t0 _ ?_) (fun h1 => t0 _ ?_)
    · have e : hasR l h (-2147483648) = true := decide_eq_true ⟨o1, by omega, by omega⟩
      rw [e, Bool.true_and]
    · have e : hasR l h (-2147483648) = false := decide_eq_false (fun z => h1 (by unfold N32 at hl; omega))
      rw [e, Bool.false_and]
  · refine W.neg (by decide) ?_
    rw [if_neg (by decide)]
    have fin : ∀ (F : List Int) (q : Int × Int), (l2 ≠ 0 ∧ l2 = h2 → F = []) → W (fun k => if l = h then (if l2 = h2 then (if l2 = 0 then some (q.1, q.2, F) else (spec_l1Exact.f k 5 l l2).bind fun t => some (t, t, F)) else some (q.1, q.2, F)) else some (q.1, q.2, F)) (· = if l = h ∧ l2 = h2 ∧ l2 ≠ 0 then (l.tmod l2, l.tmod l2, []) else (q.1, q.2, F)) := by
      intro F q hF
      refine W.ite (fun h1 => W.ite (fun h3 => W.ite (fun h4 => W.ret ?_) (fun h4 => ?_)) (fun h3 => W.ret ?_)) (fun h1 => W.ret ?_)
      · rw [if_neg (fun z => z.2.2 h4)]
      · rw [if_pos ⟨h1, h3, h4⟩, hF ⟨h4, h3⟩]
        refine W.bind (sExact (by omega) (by omega) hl hl2 ⟨fun _ => h4, fun h => absurd h (by omega)⟩) ?_
        rintro _ rfl
        exact W.ret rfl
      · rw [if_neg (fun z => h3 z.2.1)]
      · rw [if_neg (fun z => h1 z.1)]
    have t3 : ∀ (F : List Int) (o : Int × Int), (l2 ≠ 0 ∧ l2 = h2 → F = []) → W (fun k => spec_l8Div.j3 k 5 F l h l2 h2 p.1 p.2 o.1 o.2) (· = (let q := if p.1 > p.2 then o else rjoin o.1 o.2 (remBy l h p.1 p.2).1 (remBy l h p.1 p.2).2
        if l = h ∧ l2 = h2 ∧ l2 ≠ 0 then (l.tmod l2, l.tmod l2, []) else (q.1, q.2, F))) := by
      intro F o hF
      refine W.step (fun k => by simp only [spec_l8Div.j3, spec_l8None.f, Option.bind_some]; rfl) ?_
      rw [ngt op_]
      refine W.dec (fun h1 => ?_) (fun h1 => ?_)
      · rw [if_neg h1]
        have hp' := hp.resolve_left h1
        refine W.bind (sRem (by omega) (by omega)) ?_
        rintro _ rfl
        refine W.bind (sRangeJoin _ _ _ _) ?_
        rintro _ rfl
        exact fin F _ hF
      · rw [if_pos (Decidable.not_not.1 h1)]
        exact fin F _ hF
    have t2 : ∀ (F : List Int), (l2 ≠ 0 ∧ l2 = h2 → F = []) → W (fun k => spec_l8Div.j2 k 5 F l h l2 h2 n.1 n.2 p.1 p.2) (· = (let o := if n.1 > n.2 then (1, 0) else rjoin 1 0 (remBy l h (-n.2) (-n.1)).1 (remBy l h (-n.2) (-n.1)).2
        let q := if p.1 > p.2 then o else rjoin o.1 o.2 (remBy l h p.1 p.2).1 (remBy l h p.1 p.2).2
        if l = h ∧ l2 = h2 ∧ l2 ≠ 0 then (l.tmod l2, l.tmod l2, []) else (q.1, q.2, F))) := by
      intro F hF
      refine W.step (fun k => by simp only [spec_l8Div.j2, spec_l8None.f, Option.bind_some]; rfl) ?_
      refine W.pos (by trivial) ?_
      rw [ngt on]
      refine W.dec (fun h1 => ?_) (fun h1 => ?_)
      · rw [if_neg h1]
        have hn' := hn.resolve_left h1
        rw [wrap64_id (n := -n.2) (by omega) (by omega), wrap64_id (n := -n.1) (by omega) (by omega)]
        refine W.bind (sRem (by omega) (by omega)) ?_
        rintro _ rfl
        refine W.bind (sRangeJoin _ _ _ _) ?_
        rintro _ rfl
        exact t3 F _ hF
      · rw [if_pos (Decidable.not_not.1 h1)]
        exact t3 F (1, 0) hF
    refine W.step (fun k => by simp only [spec_l8Div.j0]; rfl) ?_
    (try refine W.neg (by decide) ?_)
    refine W.step (fun k => by simp only [spec_l8Div.j1, sHas', Option.bind_some, List.nil_append]; rfl) ?_
    refine W.ite (fun h1 => W.pos (by decide) ?_) (fun h1 => ?_)
    · rw [if_pos h1]
      exact t2 [2] (fun z => absurd (of_decide_eq_true h1) (by omega))
    · rw [if_neg h1]
      exact t2 [] (fun _ => rfl)

theorem sMask {m : Int} (hm : m ≤ 2147483647) : W (fun k => spec_l8Mask.f k m) (· = msk m) := by
  have h : ∀ (n : Nat) (x : Int), 0 ≤ x → x + 1 = 2 ^ (32 - n) → n ≤ 32 → W (fun k => spec_l8Mask.l0 k m x) (· = mskL n x m) := by
    intro n
    induction n with
    | zero =>
      intro x h0 hx _
      refine W.step (fun k => by simp only [spec_l8Mask.l0]; rfl) ?_
      refine W.neg (by simp at hx; omega) (W.ret rfl)
    | succ n ih =>
      intro x h0 hx hn
      refine W.step (fun k => by simp only [spec_l8Mask.l0]; rfl) ?_
      unfold mskL
      refine W.ite (fun h1 => ?_) (fun h1 => W.ret (by rw [if_neg h1]))
      rw [if_pos h1, wrap64_id (n := 2 * x) (by omega) (by omega), wrap64_id (n := 2 * x + 1) (by omega) (by omega)]
      refine ih (2 * x + 1) (by omega) ?_ (by omega)
      rw [show 32 - n = (32 - (n + 1)) + 1 by omega, Int.pow_succ]
      omega
  exact h 32 0 (by omega) (by decide) (by omega)
theorem sBitsR {op l h l2 h2 : Int} (ho : op = 6 ∨ op = 7 ∨ op = 8) (hl : N32 l) (hh : N32 h) (hl2 : N32 l2) (hh2 : N32 h2) : W (fun k => spec_l8Bits.f k op l h l2 h2) (· = rbits op l h l2 h2) := by
  have hm : mx h h2 ≤ 2147483647 := by unfold N32 at hh hh2; unfold mx; split <;> omega
  have t5 : op ≠ 6 → op ≠ 7 → ∀ c : Bool, (c = true ↔ ¬ (l < 0 ∨ l2 < 0)) → W (fun k => spec_l8Bits.j5 k c l h l2 h2) (· = if l < 0 ∨ l2 < 0 then (-2147483648, 2147483647) else (if op = 7 then mx l l2 else 0, msk (mx h h2))) := by
    intro g6 g7 c hc
    refine W.step (fun k => by simp only [spec_l8Bits.j5, sMax, Option.bind_some]; rfl) ?_
    refine W.ite (fun h1 => ?_) (fun h1 => W.ret ?_)
    · rw [if_neg (hc.1 h1), if_neg g7]
      refine W.bind (sMask hm) ?_
      rintro _ rfl
      exact W.ret rfl
    · rw [if_pos (Decidable.byContradiction fun z => h1 (hc.2 z))]
  have t4 : op ≠ 6 → ∀ c : Bool, (c = true ↔ (¬ (l < 0 ∨ l2 < 0) ∧ op = 7)) → W (fun k => spec_l8Bits.j4 k op c l h l2 h2) (· = if l < 0 ∨ l2 < 0 then (-2147483648, 2147483647) else (if op = 7 then mx l l2 else 0, msk (mx h h2))) := by
    intro g6 c hc
    refine W.step (fun k => by simp only [spec_l8Bits.j4, sMax, Option.bind_some]; rfl) ?_
    refine W.ite (fun h1 => ?_) (fun h1 => ?_)
    · rw [if_neg (hc.1 h1).1, if_pos (hc.1 h1).2]
      refine W.bind (sMask hm) ?_
      rintro _ rfl
      exact W.ret rfl
    · by_cases g7 : op = 7
      · have hb : l < 0 ∨ l2 < 0 := Decidable.byContradiction fun z => h1 (hc.2 ⟨z, g7⟩)
        rw [if_pos hb]
        have bad : ∀ c : Bool, c = false → W (fun k => spec_l8Bits.j5 k c l h l2 h2) (· = (-2147483648, 2147483647)) := by
          rintro _ rfl
          refine W.step (fun k => by simp only [spec_l8Bits.j5]; rfl) ?_
          exact W.neg (by decide) (W.ret rfl)
        refine W.ite (fun h2 => W.ite (fun h3 => bad _ ?_) (fun h3 => bad _ rfl)) (fun h2 => bad _ rfl)
        omega
      · refine W.ite (fun h2 => W.ite (fun h3 => t5 g6 g7 _ ?_) (fun h3 => t5 g6 g7 _ ?_)) (fun h2 => t5 g6 g7 _ ?_)
        · simp only [beq_iff_eq]; omega
        · simp only [Bool.false_eq_true, false_iff]; omega
        · simp only [Bool.false_eq_true, false_iff]; omega
  have t3 : ∀ c : Bool, (c = true ↔ (op = 6 ∧ l2 ≥ 0)) → op ≠ 6 ∨ ¬ l ≥ 0 → W (fun k => spec_l8Bits.j3 k op c l h l2 h2) (· = if op = 6 then (if l2 ≥ 0 then (0, h2) else (-2147483648, 2147483647))
      else if l < 0 ∨ l2 < 0 then (-2147483648, 2147483647) else (if op = 7 then mx l l2 else 0, msk (mx h h2))) := by
    intro c hc hs
    refine W.step (fun k => by simp only [spec_l8Bits.j3]; rfl) ?_
    refine W.ite (fun h1 => W.ret ?_) (fun h1 => ?_)
    · rw [if_pos (hc.1 h1).1, if_pos (hc.1 h1).2]
    · by_cases g6 : op = 6
      · have hb : ¬ l2 ≥ 0 := fun z => h1 (hc.2 ⟨g6, z⟩)
        rw [if_pos g6, if_neg hb]
        have bad : ∀ c : Bool, c = false → W (fun k => spec_l8Bits.j5 k c l h l2 h2) (· = (-2147483648, 2147483647)) := by
          rintro _ rfl
          refine W.step (fun k => by simp only [spec_l8Bits.j5]; rfl) ?_
          exact W.neg (by decide) (W.ret rfl)
        refine W.ite (fun h2 => absurd h2 (by omega)) (fun h2 => ?_)
        refine W.step (fun k => by simp only [spec_l8Bits.j4]; rfl) ?_
        (try refine W.neg (by decide) ?_)
        exact W.ite (fun h3 => absurd h3 (by omega)) (fun h3 => bad _ rfl)
      · rw [if_neg g6]
        refine W.ite (fun h2 => W.ite (fun h3 => t4 g6 _ ?_) (fun h3 => t4 g6 _ ?_)) (fun h2 => t4 g6 _ ?_)
        · simp only [beq_iff_eq]; omega
        · simp only [Bool.false_eq_true, false_iff]; omega
        · simp only [Bool.false_eq_true, false_iff]; omega
  have t2 : ∀ c : Bool, (c = true ↔ (op = 6 ∧ l ≥ 0)) → op ≠ 6 ∨ ¬ (l ≥ 0 ∧ l2 ≥ 0) → W (fun k => spec_l8Bits.j2 k op c l h l2 h2) (· = if op = 6 then (if l ≥ 0 then (0, h) else if l2 ≥ 0 then (0, h2) else (-2147483648, 2147483647))
      else if l < 0 ∨ l2 < 0 then (-2147483648, 2147483647) else (if op = 7 then mx l l2 else 0, msk (mx h h2))) := by
    intro c hc hs
    refine W.step (fun k => by simp only [spec_l8Bits.j2]; rfl) ?_
    refine W.ite (fun h1 => W.ret ?_) (fun h1 => ?_)
    · rw [if_pos (hc.1 h1).1, if_pos (hc.1 h1).2]
    · by_cases g6 : op = 6
      · have hb : ¬ l ≥ 0 := fun z => h1 (hc.2 ⟨g6, z⟩)
        have := t3 (decide (l2 ≥ 0)) (by simp [g6]) (.inr hb)
        rw [if_pos g6] at this
        rw [if_pos g6, if_neg hb]
        exact W.pos g6 this
      · have := t3 false (by simp [g6]) (.inl g6)
        rw [if_neg g6] at this
        rw [if_neg g6]
        exact W.neg g6 this
  have t1 : ∀ c : Bool, (c = true ↔ (op = 6 ∧ l ≥ 0 ∧ l2 ≥ 0)) → W (fun k => spec_l8Bits.j1 k op c l h l2 h2) (· = if op = 6 then (if l ≥ 0 ∧ l2 ≥ 0 then (0, mn h h2) else if l ≥ 0 then (0, h) else if l2 ≥ 0 then (0, h2) else (-2147483648, 2147483647))
      else if l < 0 ∨ l2 < 0 then (-2147483648, 2147483647) else (if op = 7 then mx l l2 else 0, msk (mx h h2))) := by
    intro c hc
    refine W.step (fun k => by simp only [spec_l8Bits.j1, sMin, Option.bind_some]; rfl) ?_
    refine W.ite (fun h1 => W.ret ?_) (fun h1 => ?_)
    · rw [if_pos (hc.1 h1).1, if_pos (hc.1 h1).2]
    · by_cases g6 : op = 6
      · have hb : ¬ (l ≥ 0 ∧ l2 ≥ 0) := fun z => h1 (hc.2 ⟨g6, z⟩)
        have := t2 (decide (l ≥ 0)) (by simp [g6]) (.inr hb)
        rw [if_pos g6] at this
        rw [if_pos g6, if_neg hb]
        exact W.pos g6 this
      · have := t2 false (by simp [g6]) (.inl g6)
        rw [if_neg g6] at this
        rw [if_neg g6]
        exact W.neg g6 this
  have t0 : ∀ c : Bool, (c = true ↔ (l = h ∧ l2 = h2)) → W (fun k => spec_l8Bits.j0 k op c l h l2 h2) (· = rbits op l h l2 h2) := by
    intro c hc
    refine W.step (fun k => by simp only [spec_l8Bits.j0]; rfl) ?_
    unfold rbits
    refine W.ite (fun h1 => ?_) (fun h1 => ?_)
    · rw [if_pos (hc.1 h1)]
      refine W.bind (sBits ho) ?_
      rintro _ rfl
      exact W.ret rfl
    rw [if_neg (fun z => h1 (hc.2 z))]
    refine W.ite (fun h2 => W.ite (fun h3 => t1 _ ?_) (fun h3 => t1 _ ?_)) (fun h2 => t1 _ ?_)
    · simp only [decide_eq_true_iff]; omega
    · simp only [Bool.false_eq_true, false_iff]; omega
    · simp only [Bool.false_eq_true, false_iff]; omega
  unfold spec_l8Bits.f
  refine W.ite (fun h1 => t0 _ ?_) (fun h1 => t0 _ ?_)
  · simp only [beq_iff_eq]; omega
  · simp only [Bool.false_eq_true, false_iff]; omega
/-! ### all of them -/
theorem sRangeDo (op l h l2 h2 : Int) : W (fun k => spec_RangeDo.f k op l h l2 h2) (· = rangeDo op l h l2 h2) := by
  have bad : badDo op l h l2 h2 → W (fun k => spec_RangeDo.j0 k op [] true l h l2 h2) (· = rangeDo op l h l2 h2) := by
    intro hb
    refine W.step (fun k => by simp only [spec_RangeDo.j0, spec_l8None.f, Option.bind_some]; rfl) ?_
    refine W.pos (by trivial) (W.ret ?_)
    unfold rangeDo; rw [if_pos hb]
  have t8 : ∀ (F : List Int) (b : Bool) (x y : Int), W (fun k => spec_RangeDo.j8 k F b x y) (· = ((if b then cut x y else (1, 0)).1, (if b then cut x y else (1, 0)).2, F)) := by
    intro F b x y
    refine W.step (fun k => by simp only [spec_RangeDo.j8, sCut, spec_l8None.f, Option.bind_some]; rfl) ?_
    exact W.ite (fun h1 => W.ret (by rw [if_pos h1])) (fun h1 => W.ret (by rw [if_neg h1]))
  have t7 : ∀ (F : List Int) (c b : Bool) (x y : Int), F.length ≤ 1 → W (fun k => spec_RangeDo.j7 k F c b x y) (· = ((if b then cut x y else (1, 0)).1, (if b then cut x y else (1, 0)).2, F ++ (if c then [3] else []))) := by
    intro F c b x y hF
    refine W.step (fun k => by simp only [spec_RangeDo.j7]; rfl) ?_
    refine W.ite (fun h1 => W.pos (by omega) ?_) (fun h1 => ?_)
    · rw [if_pos h1]; exact t8 _ b x y
    · rw [if_neg h1, List.append_nil]; exact t8 _ b x y
  have t6 : ∀ (F : List Int) (c b : Bool) (x y u v : Int), F.length ≤ 1 → W (fun k => spec_RangeDo.j6 k F c l2 h2 u v b x y) (· = ((if b then cut x y else (1, 0)).1, (if b then cut x y else (1, 0)).2, F ++ (if c && offB u v l2 h2 then [3] else []))) := by
    intro F c b x y u v hF
    refine W.step (fun k => by simp only [spec_RangeDo.j6]; rfl) ?_
    refine W.ite (fun h1 => ?_) (fun h1 => ?_)
    · rw [h1, Bool.true_and]; exact t7 F _ b x y hF
    · rw [Bool.eq_false_iff.mpr h1, Bool.false_and]; exact t7 F false b x y hF
  have t5 : ∀ (c o b : Bool) (x y u v : Int), W (fun k => spec_RangeDo.j5 k [] c o l2 h2 u v b x y) (· = ((if b then cut x y else (1, 0)).1, (if b then cut x y else (1, 0)).2, (if o then [1] else []) ++ (if c && offB u v l2 h2 then [3] else []))) := by
    intro c o b x y u v
    refine W.step (fun k => by simp only [spec_RangeDo.j5, List.nil_append]; rfl) ?_
    refine W.ite (fun h1 => W.pos (by decide) ?_) (fun h1 => ?_)
    · rw [if_pos h1]; exact t6 [1] c b x y u v (by decide)
    · rw [if_neg h1]; exact t6 [] c b x y u v (by decide)
  have t4 : ∀ (c b : Bool) (x y u v : Int), ¬ op ≥ 11 → W (fun k => spec_RangeDo.j4 k op [] c l2 h2 u v b x y) (· = ((if b then cut x y else (1, 0)).1, (if b then cut x y else (1, 0)).2, (if b = true ∧ (x < -2147483648 ∨ y > 2147483647) then [1] else []) ++ (if c && offB u v l2 h2 then [3] else []))) := by
    intro c b x y u v g
    refine W.step (fun k => by simp only [spec_RangeDo.j4]; rfl) ?_
    refine W.neg g ?_
    have key : ∀ o : Bool, (o = true ↔ (b = true ∧ (x < -2147483648 ∨ y > 2147483647))) → W (fun k => spec_RangeDo.j5 k [] c o l2 h2 u v b x y) (· = ((if b then cut x y else (1, 0)).1, (if b then cut x y else (1, 0)).2, (if b = true ∧ (x < -2147483648 ∨ y > 2147483647) then [1] else []) ++ (if c && offB u v l2 h2 then [3] else []))) := by
      intro o ho
      refine W.mono (t5 c o b x y u v) ?_
      rintro _ rfl
      by_cases h1 : o = true
      · rw [if_pos h1, if_pos (ho.1 h1)]
      · rw [if_neg h1, if_neg (fun z => h1 (ho.2 z))]
    refine W.ite (fun h1 => W.ite (fun h2 => key _ ?_) (fun h2 => key _ ?_)) (fun h1 => key _ ?_)
    · simp [h1, h2]
    · simp only [h1, decide_eq_true_iff, true_and]; omega
    · simp [h1]
  have good : ¬ badDo op l h l2 h2 → W (fun k => spec_RangeDo.j0 k op [] false l h l2 h2) (· = rangeDo op l h l2 h2) := by
    intro hb
    have hb0 := hb
    unfold badDo at hb
    have ho : 1 ≤ op ∧ op ≤ 13 := by omega
    have o1 : okR l h := Decidable.byContradiction fun z => hb (.inr (.inl z))
    have o2 : okR l2 h2 := Decidable.byContradiction fun z => hb (.inr (.inr (.inl z)))
    have n1 : ¬ l > h := fun z => hb (.inr (.inr (.inr (.inl z))))
    have n2 : ¬ l2 > h2 := fun z => hb (.inr (.inr (.inr (.inr z))))
    obtain ⟨hl, hh⟩ := okR_N32 o1
    obtain ⟨hl2, hh2⟩ := okR_N32 o2
    unfold rangeDo
    rw [if_neg hb0]
    refine W.step (fun k => by simp only [spec_RangeDo.j0]; rfl) ?_
    refine W.neg (by decide) ?_
    have plain : ∀ c : Bool, c = false → ¬ (op = 9 ∨ op = 10) → ¬ (4 ≤ op ∧ op ≤ 8) → W (fun k => spec_RangeDo.j2 k op [] c l h l2 h2 l2 h2) (· = if op ≤ 3 then ((cut (crn op l h l2 h2).1 (crn op l h l2 h2).2).1, (cut (crn op l h l2 h2).1 (crn op l h l2 h2).2).2, if (crn op l h l2 h2).1 < -2147483648 ∨ (crn op l h l2 h2).2 > 2147483647 then [1] else [])
        else ((rwrap op l h l2 h2).1, (rwrap op l h l2 h2).2, [])) := by
      rintro _ rfl g1 g2
      refine W.step (fun k => by simp only [spec_RangeDo.j2]; rfl) ?_
      (try refine W.neg (by decide) ?_)
      refine W.step (fun k => by simp only [spec_RangeDo.j3, spec_l8None.f, Option.bind_some]; rfl) ?_
      rw [ngt o2]
      refine W.dpos n2 ?_
      have ft : ∀ b, Fit op b := fun b => ⟨fun h => absurd h (by omega), fun h => absurd h (by omega)⟩
      refine W.bind (sCorners ho.1 ho.2 hl hh hl2 hh2 (ft _) (ft _) false 0 0) ?_
      rintro _ rfl
      by_cases g : op ≤ 3
      · rw [if_pos g]
        refine W.mono (t4 false true _ _ l2 h2 (by omega)) ?_
        rintro _ rfl
        simp
      · rw [if_neg g]
        refine W.step (fun k => by simp only [spec_RangeDo.j4]; rfl) ?_
        refine W.pos (by omega) ?_
        obtain ⟨x, y, x', y', hx, hy, hx', hy', e1, e2⟩ := crn_ends op l h l2 h2
        have b1 := wrapV (op := op) (a := x) (b := y) (by omega) ho.2 (by rcases hx with rfl | rfl <;> assumption) (by rcases hy with rfl | rfl <;> assumption)
        have b2 := wrapV (op := op) (a := x') (b := y') (by omega) ho.2 (by rcases hx' with rfl | rfl <;> assumption) (by rcases hy' with rfl | rfl <;> assumption)
        rw [← e1] at b1
        rw [← e2] at b2
        refine W.bind (sWrapped b1 b2) ?_
        rintro _ rfl
        exact W.ret rfl
    have shift : (op = 9 ∨ op = 10) → W (fun k => spec_RangeDo.j2 k op [] true l h l2 h2 l2 h2) (· = rshift op l h l2 h2) := by
      intro g
      refine W.step (fun k => by simp only [spec_RangeDo.j2]; rfl) ?_
      (try refine W.pos (by trivial) ?_)
      refine W.bind (sRangeMeet l2 h2 0 31) ?_
      rintro _ rfl
      have hm := rmeet_in l2 h2 (x := 0) (y := 31) (by unfold okR; omega) (by unfold isNone; omega)
      have om := rmeet_ok l2 h2 0 31
      unfold rshift
      generalize rmeet l2 h2 0 31 = c at hm om ⊢
      refine W.step (fun k => by simp only [spec_RangeDo.j3, spec_l8None.f, Option.bind_some]; rfl) ?_
      rw [ngt om]
      refine W.dec (fun h1 => ?_) (fun h1 => ?_)
      · have hm' := hm.resolve_left h1
        rw [if_neg h1]
        have ft : ∀ b, 0 ≤ b → b ≤ 31 → Fit op b := fun b h0 h1 => ⟨fun h => absurd h (by omega), fun _ => ⟨h0, h1⟩⟩
        refine W.bind (sCorners (l := l) (h := h) (l2 := c.1) (h2 := c.2) (by omega) (by omega) hl hh (by unfold N32; omega) (by unfold N32; omega) (ft _ (by omega) (by omega)) (ft _ (by omega) (by omega)) false 0 0) ?_
        rintro _ rfl
        refine W.mono (t4 true true _ _ c.1 c.2 (by omega)) ?_
        rintro _ rfl
        simp
      · rw [if_pos (Decidable.not_not.1 h1)]
        refine W.mono (t4 true false _ _ c.1 c.2 (by omega)) ?_
        rintro _ rfl
        simp
    have t1 : ∀ c : Bool, (c = true ↔ (op = 4 ∨ op = 5)) → W (fun k => spec_RangeDo.j1 k op [] c l h l2 h2) (· = if op ≤ 3 then ((cut (crn op l h l2 h2).1 (crn op l h l2 h2).2).1, (cut (crn op l h l2 h2).1 (crn op l h l2 h2).2).2, if (crn op l h l2 h2).1 < -2147483648 ∨ (crn op l h l2 h2).2 > 2147483647 then [1] else [])
        else if op ≥ 11 then ((rwrap op l h l2 h2).1, (rwrap op l h l2 h2).2, []) else if op ≥ 9 then rshift op l h l2 h2 else if op = 4 then rdiv l h l2 h2 else if op = 5 then rrem l h l2 h2 else ((rbits op l h l2 h2).1, (rbits op l h l2 h2).2, [])) := by
      intro c hc
      refine W.step (fun k => by simp only [spec_RangeDo.j1, nsIn, Option.bind_some]; rfl) ?_
      refine W.ite (fun h1 => ?_) (fun h1 => ?_)
      · have g := hc.1 h1
        refine W.bind (sDiv g o1 n1 o2 n2) ?_
        rintro _ rfl
        refine W.ret ?_
        rw [if_neg (show ¬ op ≤ 3 by omega), if_neg (show ¬ op ≥ 11 by omega), if_neg (show ¬ op ≥ 9 by omega)]
        rcases g with rfl | rfl <;> rfl
      have g : ¬ (op = 4 ∨ op = 5) := fun z => h1 (hc.2 z)
      refine W.dec (fun g2 => ?_) (fun g2 => ?_)
      · refine W.bind (sBitsR (by omega) hl hh hl2 hh2) ?_
        rintro _ rfl
        refine W.ret ?_
        rw [if_neg (show ¬ op ≤ 3 by omega), if_neg (show ¬ op ≥ 11 by omega), if_neg (show ¬ op ≥ 9 by omega), if_neg (show ¬ op = 4 by omega), if_neg (show ¬ op = 5 by omega)]
      have p2 : ∀ c : Bool, (c = true ↔ (op = 9 ∨ op = 10)) → W (fun k => spec_RangeDo.j2 k op [] c l h l2 h2 l2 h2) (· = if op ≤ 3 then ((cut (crn op l h l2 h2).1 (crn op l h l2 h2).2).1, (cut (crn op l h l2 h2).1 (crn op l h l2 h2).2).2, if (crn op l h l2 h2).1 < -2147483648 ∨ (crn op l h l2 h2).2 > 2147483647 then [1] else [])
        else if op ≥ 11 then ((rwrap op l h l2 h2).1, (rwrap op l h l2 h2).2, []) else if op ≥ 9 then rshift op l h l2 h2 else if op = 4 then rdiv l h l2 h2 else if op = 5 then rrem l h l2 h2 else ((rbits op l h l2 h2).1, (rbits op l h l2 h2).2, [])) := by
        intro c hc
        by_cases h3 : op = 9 ∨ op = 10
        · rw [if_neg (show ¬ op ≤ 3 by omega), if_neg (show ¬ op ≥ 11 by omega), if_pos (show op ≥ 9 by omega), hc.2 h3]
          exact shift h3
        · have := plain c (by cases c; rfl; exact absurd (hc.1 rfl) h3) h3 (by omega)
          by_cases h4 : op ≤ 3
          · rw [if_pos h4] at this; rw [if_pos h4]; exact this
          · rw [if_neg h4] at this; rw [if_neg h4, if_pos (show op ≥ 11 by omega)]; exact this
      refine W.ite (fun h3 => p2 _ ?_) (fun h3 => p2 _ ?_)
      · simp [h3]
      · simp only [beq_iff_eq]; omega
    refine W.ite (fun h3 => t1 _ ?_) (fun h3 => t1 _ ?_)
    · simp [h3]
    · simp only [beq_iff_eq]; omega
  unfold spec_RangeDo.f
  simp only [nsIn, sRangeOk, spec_l8None.f, Option.bind_some, bIsNone]
  refine W.dec (fun h1 => W.dec (fun h3 => W.dec (fun h4 => W.dec (fun h5 => bad ?_) (fun h5 => ?_)) (fun h4 => bad ?_)) (fun h3 => bad ?_)) (fun h1 => bad ?_)
  · exact .inr (.inr (.inr (.inl ((okR_gt h3).2 h5))))
  · by_cases h6 : isNone l2 h2
    · rw [decide_eq_true h6]; exact bad (.inr (.inr (.inr (.inr ((okR_gt h4).2 h6)))))
    · rw [decide_eq_false h6]
      refine good ?_
      unfold badDo
      rw [← okR_gt h3] at h5
      rw [← okR_gt h4] at h6
      simp only [h3, h4, not_true, false_or]
      omega
  · exact .inr (.inr (.inl h4))
  · exact .inr (.inl h3)
  · exact .inl h1

/-! ### ranges that are drawn -/
theorem drRange {b : List Int} (hb : ∀ x ∈ b, 0 ≤ x ∧ x ≤ 255) (hl : b.length ≤ 2000) (p : Int) (hp : 0 ≤ p) (hq : p ≤ 600000) : W (fun k => spec_l8Range.f k b p) (fun r => p ≤ r.2.2 ∧ r.2.2 ≤ p + 20) := by
  unfold spec_l8Range.f
  refine W.bind (pick_ok hb hl p 12 hp (by omega)) ?_
  rintro ⟨c, q⟩ ⟨rfl, _⟩
  simp only
  refine W.ite (fun _ => ?_) (fun _ => ?_)
  · simp only [spec_l8None.f, Option.bind_some]
    exact W.ret ⟨by simp only; omega, by simp only; omega⟩
  refine W.bind (num_ok hb hl (p + 1) (by omega) (by omega)) ?_
  rintro ⟨x, q⟩ ⟨_, h2, h3⟩
  simp only at h2 h3
  simp only
  refine W.ite (fun _ => W.ret ⟨by simp only; omega, by simp only; omega⟩) (fun _ => W.ite (fun _ => ?_) (fun _ => W.ite (fun _ => W.ret ⟨by simp only; omega, by simp only; omega⟩) (fun _ => ?_)))
  · refine W.bind (pick_ok hb hl q 40 (by omega) (by omega)) ?_
    rintro ⟨y, q2⟩ ⟨rfl, _⟩
    simp only [sCut, Option.bind_some]
    exact W.ret ⟨by simp only; omega, by simp only; omega⟩
  · refine W.bind (num_ok hb hl q (by omega) (by omega)) ?_
    rintro ⟨y, q2⟩ ⟨_, h4, h5⟩
    simp only at h4 h5
    simp only [sMin, sMax, sCut, Option.bind_some]
    exact W.ret ⟨by simp only; omega, by simp only; omega⟩
theorem drWild {b : List Int} (hb : ∀ x ∈ b, 0 ≤ x ∧ x ≤ 255) (hl : b.length ≤ 2000) (p : Int) (hp : 0 ≤ p) (hq : p ≤ 500000) : W (fun k => spec_l8Wild.f k b p) (fun r => p ≤ r.2.2 ∧ r.2.2 ≤ p + 40) := by
  unfold spec_l8Wild.f
  refine W.bind (pick_ok hb hl p 12 hp (by omega)) ?_
  rintro ⟨c, q⟩ ⟨rfl, _⟩
  simp only
  refine W.ite (fun _ => ?_) (fun _ => ?_)
  · refine W.bind (wild_ok hb hl (p + 1) (by omega) (by omega)) ?_
    rintro ⟨x, q⟩ ⟨_, h2, h3⟩
    simp only at h2 h3
    simp only
    refine W.bind (wild_ok hb hl q (by omega) (by omega)) ?_
    rintro ⟨y, q2⟩ ⟨_, h4, h5⟩
    simp only at h4 h5
    exact W.ret ⟨by simp only; omega, by simp only; omega⟩
  · refine W.bind (drRange hb hl (p + 1) (by omega) (by omega)) ?_
    rintro ⟨x, y, q⟩ ⟨h2, h3⟩
    simp only at h2 h3
    exact W.ret ⟨by simp only; omega, by simp only; omega⟩
theorem drShift {b : List Int} (hb : ∀ x ∈ b, 0 ≤ x ∧ x ≤ 255) (hl : b.length ≤ 2000) (p op : Int) (hp : 0 ≤ p) (hq : p ≤ 500000) : W (fun k => spec_l8Shift.f k b p op) (fun r => p ≤ r.2.2 ∧ r.2.2 ≤ p + 40) := by
  have key : ∀ c : Bool, W (fun k => spec_l8Shift.j0 k c b p) (fun r => p ≤ r.2.2 ∧ r.2.2 ≤ p + 40) := by
    intro c
    refine W.step (fun k => by simp only [spec_l8Shift.j0, sCut, Option.bind_some]; rfl) ?_
    refine W.ite (fun _ => ?_) (fun _ => ?_)
    · refine W.bind (pick_ok hb hl p 36 hp (by omega)) ?_
      rintro ⟨c, q⟩ ⟨rfl, _⟩
      simp only
      refine W.bind (pick_ok hb hl (p + 1) 6 (by omega) (by omega)) ?_
      rintro ⟨d, q⟩ ⟨rfl, _⟩
      exact W.ret ⟨by simp only; omega, by simp only; omega⟩
    · refine W.bind (drRange hb hl p (by omega) (by omega)) ?_
      rintro ⟨x, y, q⟩ ⟨h2, h3⟩
      simp only at h2 h3
      exact W.ret ⟨by simp only; omega, by simp only; omega⟩
  unfold spec_l8Shift.f
  exact W.ite (fun _ => key _) (fun _ => key _)
theorem drawRangeDo_ok (code : List Int) (hb : ∀ x ∈ code, (Lit.int .u8 x).wf = true) : W (fun k => spec_DrawRangeDo.f k code) (fun _ => True) := by
  obtain ⟨b, ho, hl, hb⟩ := open_ok code hb
  unfold spec_DrawRangeDo.f
  rw [ho]
  simp only [Option.bind_some]
  refine W.bind (pick_ok hb hl 0 13 (by omega) (by omega)) ?_
  rintro ⟨c, q⟩ ⟨rfl, _⟩
  simp only
  refine W.bind (pick_ok hb hl (0 + 1) 30 (by omega) (by omega)) ?_
  rintro ⟨d, q⟩ ⟨rfl, _⟩
  simp only
  refine W.ite (fun _ => ?_) (fun _ => ?_)
  · refine W.bind (pick_ok hb hl (0 + 1 + 1) 16 (by omega) (by omega)) ?_
    rintro ⟨e, q⟩ ⟨rfl, _⟩
    simp only
    refine W.bind (drWild hb hl (0 + 1 + 1 + 1) (by omega) (by omega)) ?_
    rintro ⟨x, y, q⟩ ⟨h2, h3⟩
    simp only at h2 h3
    simp only
    refine W.bind (drShift hb hl q _ (by omega) (by omega)) ?_
    rintro r -
    exact W.ret trivial
  · refine W.bind (drWild hb hl (0 + 1 + 1) (by omega) (by omega)) ?_
    rintro ⟨x, y, q⟩ ⟨h2, h3⟩
    simp only at h2 h3
    simp only
    refine W.bind (drShift hb hl q _ (by omega) (by omega)) ?_
    rintro r -
    exact W.ret trivial
/-! ### the same numbers -/
theorem sameInts_self {xs : List Int} (hx : xs.length ≤ 1048576) : W (fun k => laws_sameInts.f k xs xs) (· = true) := by
  have loop : ∀ (d i : Nat), i ≤ xs.length → xs.length - i = d → W (fun k => laws_sameInts.l0 k xs xs (i : Int)) (· = true) := by
    intro d
    induction d with
    | zero =>
      intro i hi hd
      refine W.step (fun k => by simp only [laws_sameInts.l0]; rfl) ?_
      exact W.neg (by omega) (W.ret rfl)
    | succ d ih =>
      intro i hi hd
      refine W.step (fun k => by simp only [laws_sameInts.l0]; rfl) ?_
      refine W.pos (by omega) (W.pos (by omega) (W.pos (by omega) (W.pos (by trivial) ?_)))
      rw [wrap64_id (n := (i : Int) + 1) (by omega) (by omega), show (i : Int) + 1 = ((i + 1 : Nat) : Int) by omega]
      exact ih (i + 1) (by omega) (by omega)
  unfold laws_sameInts.f
  refine W.pos (by trivial) ?_
  exact loop _ 0 (by omega) rfl
theorem rangeDo_len (op l h l2 h2 : Int) : (rangeDo op l h l2 h2).2.2.length ≤ 2 := by
  unfold rangeDo rshift rdiv rrem
  repeat' split
  all_goals simp

theorem crn_one (op a b : Int) : crn op a a b b = (exactV op a b, exactV op a b) := by
  unfold crn; simp only [mn_self, mx_self]
theorem rmeet_one {b x y : Int} (hb : N32 b) (o : okR x y) (n : ¬ isNone x y) : rmeet b b x y = if x ≤ b ∧ b ≤ y then (b, b) else (1, 0) := by
  unfold rmeet
  have o1 : okR b b := by unfold okR; unfold N32 at hb; omega
  have n1 : ¬ isNone b b := by unfold isNone; omega
  rw [if_neg (by simp [o, o1, n, n1])]
  unfold N32 at hb; unfold okR at o; unfold isNone at n
  have h1 := mx_cases b x; have h2 := mx_cases (mx b x) (-2147483648); have h3 := mn_cases b y; have h4 := mn_cases (mn b y) 2147483647
  unfold cut
  by_cases c : x ≤ b ∧ b ≤ y
  · rw [if_pos c, if_neg (by omega)]
    exact Prod.ext (by simp only; omega) (by simp only; omega)
  · rw [if_neg c, if_pos (by omega)]
theorem cut_one (v : Int) : cut v v = if N32 v then (v, v) else (1, 0) := by
  have h2 := mx_cases v (-2147483648); have h4 := mn_cases v 2147483647
  unfold cut
  by_cases c : N32 v
  · have c0 := c
    unfold N32 at c0
    rw [if_pos c, if_neg (by omega)]
    exact Prod.ext (by simp only; omega) (by simp only; omega)
  · have c0 := c
    unfold N32 at c0
    rw [if_neg c, if_pos (by omega)]
theorem hasR_one {b v : Int} (hb : N32 b) : hasR b b v = decide (b = v) := by
  unfold hasR
  have o1 : okR b b := by unfold okR; unfold N32 at hb; omega
  apply decide_eq_decide.2
  constructor
  · intro h; omega
  · rintro rfl; exact ⟨o1, by omega, by omega⟩
theorem tdiv_one {a b : Int} (ha : N32 a) (hb : N32 b) (h0 : b ≠ 0) : N32 (a.tdiv b) ↔ ¬ (a = -2147483648 ∧ b = -1) := by
  have hd := tdiv_bound (b := b) ha
  constructor
  · rintro h ⟨rfl, rfl⟩
    exact absurd h (by decide)
  · intro h
    unfold N32 at ha hb ⊢
    refine ⟨hd.1, ?_⟩
    have e : (a.tdiv b).natAbs = a.natAbs / b.natAbs := Int.natAbs_tdiv a b
    by_cases h1 : 2 ≤ b.natAbs
    · have h2 : a.natAbs / b.natAbs ≤ a.natAbs / 2 := Nat.div_le_div_left h1 (by omega)
      omega
    · have h3 : b = 1 ∨ b = -1 := by omega
      rcases h3 with rfl | rfl
      · rw [Int.tdiv_one]; omega
      · have h4 : (-1 : Int).natAbs = 1 := rfl
        rw [h4, Nat.div_one] at e
        omega
theorem tmod_one {a b : Int} (hb : N32 b) (h0 : b ≠ 0) : N32 (a.tmod b) := by
  have e : (a.tmod b).natAbs = a.natAbs % b.natAbs := Int.natAbs_tmod a b
  have h1 : a.natAbs % b.natAbs < b.natAbs := Nat.mod_lt _ (by omega)
  unfold N32 at hb ⊢
  omega
theorem bits_one {op a b : Int} (ho : op = 6 ∨ op = 7 ∨ op = 8) : N32 (exactV op a b) := by
  have h1 := u32_lt a; have h2 := u32_lt b
  rcases ho with rfl | rfl | rfl
  · exact s32_ok (and_lt h1)
  · exact s32_ok (or_lt h1 h2)
  · exact s32_ok (xor_lt h1 h2)

/-! ### knowing less never tells less: corners -/
/-- What the corners speak for: the operator goes one way in each of its places. -/
def Cor (op l2 h2 : Int) : Prop := (op = 1 ∨ op = 2 ∨ op = 3 ∨ op = 11 ∨ op = 12 ∨ op = 13) ∨ (op = 4 ∧ (0 < l2 ∨ h2 < 0)) ∨ ((op = 9 ∨ op = 10) ∧ 0 ≤ l2)
theorem tdiv_up {a b c : Int} (hc : 0 < c) (h : a ≤ b) : a.tdiv c ≤ b.tdiv c := by
  by_cases ha : 0 ≤ a
  · rw [Int.tdiv_eq_ediv_of_nonneg ha, Int.tdiv_eq_ediv_of_nonneg (by omega)]
    exact Int.ediv_le_ediv hc h
  · have ea : a.tdiv c = -((-a) / c) := by
      rw [show a = -(-a) by omega, Int.neg_tdiv, Int.tdiv_eq_ediv_of_nonneg (by omega)]; simp
    by_cases hb : 0 ≤ b
    · rw [ea, Int.tdiv_eq_ediv_of_nonneg hb]
      have h1 : 0 ≤ (-a) / c := Int.ediv_nonneg (by omega) (by omega)
      have h2 : 0 ≤ b / c := Int.ediv_nonneg hb (by omega)
      omega
    · have eb : b.tdiv c = -((-b) / c) := by
        rw [show b = -(-b) by omega, Int.neg_tdiv, Int.tdiv_eq_ediv_of_nonneg (by omega)]; simp
      rw [ea, eb]
      have : (-b) / c ≤ (-a) / c := Int.ediv_le_ediv hc (by omega)
      omega
theorem ediv_den {a b c : Int} (ha : 0 ≤ a) (hb : 0 < b) (h : b ≤ c) : a / c ≤ a / b := by
  rw [Int.le_ediv_iff_mul_le hb]
  have h0 : 0 ≤ a / c := Int.ediv_nonneg ha (by omega)
  have h1 : a / c * b ≤ a / c * c := Int.mul_le_mul_of_nonneg_left h h0
  have h2 : a / c * c ≤ a := Int.ediv_mul_le a (by omega)
  omega
theorem ediv_den' {a b c : Int} (ha : a ≤ 0) (hb : 0 < b) (h : b ≤ c) : a / b ≤ a / c := by
  rw [Int.le_ediv_iff_mul_le (by omega)]
  have h0 : a / b ≤ 0 := by
    have : a / b ≤ 0 / b := Int.ediv_le_ediv hb ha
    simpa using this
  have h1 : a / b * c ≤ a / b * b := Int.mul_le_mul_of_nonpos_left h0 h
  have h2 : a / b * b ≤ a := Int.ediv_mul_le a (by omega)
  omega
theorem tdiv_den {a b c : Int} (hb : 0 < b) (h : b ≤ c) : (0 ≤ a → a.tdiv c ≤ a.tdiv b) ∧ (a ≤ 0 → a.tdiv b ≤ a.tdiv c) := by
  constructor
  · intro ha
    rw [Int.tdiv_eq_ediv_of_nonneg ha, Int.tdiv_eq_ediv_of_nonneg ha]
    exact ediv_den ha hb h
  · intro ha
    have e : ∀ d : Int, a.tdiv d = -((-a) / d) := fun d => by
      have : (-(-a)).tdiv d = -((-a) / d) := by rw [Int.neg_tdiv, Int.tdiv_eq_ediv_of_nonneg (by omega)]
      rwa [Int.neg_neg] at this
    rw [e, e]
    have := ediv_den (a := -a) (by omega) hb h
    omega
theorem pow_up {a b : Nat} (h : a ≤ b) : (2 : Int) ^ a ≤ 2 ^ b := by
  have : (2 : Nat) ^ a ≤ 2 ^ b := Nat.pow_le_pow_right (by omega) h
  have e : ∀ n : Nat, ((2 ^ n : Nat) : Int) = (2 : Int) ^ n := fun n => by simp
  rw [← e, ← e]; omega
theorem pow_pos2 (a : Nat) : (0 : Int) < 2 ^ a := by
  have := pow_up (Nat.zero_le a)
  simp at this; omega
/-- Of three numbers the second one stands between the others, one way or the other. -/
def Btw (p q r : Int) : Prop := (p ≤ q ∧ q ≤ r) ∨ (r ≤ q ∧ q ≤ p)
theorem btw1 {op l h x y l2 h2 : Int} (c : Cor op l2 h2) (h0 : l ≤ x) (h1 : x ≤ h) (g0 : l2 ≤ y) (g1 : y ≤ h2) : Btw (exactV op l y) (exactV op x y) (exactV op h y) := by
  rcases c with (rfl | rfl | rfl | rfl | rfl | rfl) | ⟨rfl, c⟩ | ⟨rfl | rfl, c⟩
  · show Btw (l + y) (x + y) (h + y)
    left; omega
  · show Btw (l - y) (x - y) (h - y)
    left; omega
  · show Btw (l * y) (x * y) (h * y)
    rcases Int.le_total 0 y with hy | hy
    · exact .inl ⟨Int.mul_le_mul_of_nonneg_right h0 hy, Int.mul_le_mul_of_nonneg_right h1 hy⟩
    · exact .inr ⟨Int.mul_le_mul_of_nonpos_right h1 hy, Int.mul_le_mul_of_nonpos_right h0 hy⟩
  · show Btw (l + y) (x + y) (h + y)
    left; omega
  · show Btw (l - y) (x - y) (h - y)
    left; omega
  · show Btw (l * y) (x * y) (h * y)
    rcases Int.le_total 0 y with hy | hy
    · exact .inl ⟨Int.mul_le_mul_of_nonneg_right h0 hy, Int.mul_le_mul_of_nonneg_right h1 hy⟩
    · exact .inr ⟨Int.mul_le_mul_of_nonpos_right h1 hy, Int.mul_le_mul_of_nonpos_right h0 hy⟩
  · show Btw (l.tdiv y) (x.tdiv y) (h.tdiv y)
    rcases c with c | c
    · exact .inl ⟨tdiv_up (by omega) h0, tdiv_up (by omega) h1⟩
    · have e : ∀ a : Int, a.tdiv y = -(a.tdiv (-y)) := fun a => by rw [Int.tdiv_neg]; omega
      rw [e l, e x, e h]
      have a0 := tdiv_up (c := -y) (by omega) h0; have a1 := tdiv_up (c := -y) (by omega) h1
      exact .inr ⟨by omega, by omega⟩
  · exact .inl ⟨Int.mul_le_mul_of_nonneg_right h0 (Int.le_of_lt (pow_pos2 _)), Int.mul_le_mul_of_nonneg_right h1 (Int.le_of_lt (pow_pos2 _))⟩
  · exact .inl ⟨Int.ediv_le_ediv (pow_pos2 _) h0, Int.ediv_le_ediv (pow_pos2 _) h1⟩
theorem btw2 {op x y l2 h2 : Int} (c : Cor op l2 h2) (g0 : l2 ≤ y) (g1 : y ≤ h2) : Btw (exactV op x l2) (exactV op x y) (exactV op x h2) := by
  rcases c with (rfl | rfl | rfl | rfl | rfl | rfl) | ⟨rfl, c⟩ | ⟨rfl | rfl, c⟩
  · show Btw (x + l2) (x + y) (x + h2)
    left; omega
  · show Btw (x - l2) (x - y) (x - h2)
    right; omega
  · show Btw (x * l2) (x * y) (x * h2)
    rcases Int.le_total 0 x with hx | hx
    · exact .inl ⟨Int.mul_le_mul_of_nonneg_left g0 hx, Int.mul_le_mul_of_nonneg_left g1 hx⟩
    · exact .inr ⟨Int.mul_le_mul_of_nonpos_left hx g1, Int.mul_le_mul_of_nonpos_left hx g0⟩
  · show Btw (x + l2) (x + y) (x + h2)
    left; omega
  · show Btw (x - l2) (x - y) (x - h2)
    right; omega
  · show Btw (x * l2) (x * y) (x * h2)
    rcases Int.le_total 0 x with hx | hx
    · exact .inl ⟨Int.mul_le_mul_of_nonneg_left g0 hx, Int.mul_le_mul_of_nonneg_left g1 hx⟩
    · exact .inr ⟨Int.mul_le_mul_of_nonpos_left hx g1, Int.mul_le_mul_of_nonpos_left hx g0⟩
  · show Btw (x.tdiv l2) (x.tdiv y) (x.tdiv h2)
    rcases c with c | c
    · have a0 := tdiv_den (a := x) c g0; have a1 := tdiv_den (a := x) (b := y) (by omega) g1
      rcases Int.le_total 0 x with hx | hx
      · exact .inr ⟨a1.1 hx, a0.1 hx⟩
      · exact .inl ⟨a0.2 hx, a1.2 hx⟩
    · have e : ∀ b : Int, x.tdiv b = -(x.tdiv (-b)) := fun b => by rw [Int.tdiv_neg]; omega
      rw [e l2, e y, e h2]
      have a0 := tdiv_den (a := x) (b := -h2) (c := -y) (by omega) (by omega); have a1 := tdiv_den (a := x) (b := -y) (c := -l2) (by omega) (by omega)
      rcases Int.le_total 0 x with hx | hx
      · have := a0.1 hx; have := a1.1 hx; exact .inr ⟨by omega, by omega⟩
      · have := a0.2 hx; have := a1.2 hx; exact .inl ⟨by omega, by omega⟩
  · show Btw (x * 2 ^ l2.toNat) (x * 2 ^ y.toNat) (x * 2 ^ h2.toNat)
    have a0 := pow_up (a := l2.toNat) (b := y.toNat) (by omega); have a1 := pow_up (a := y.toNat) (b := h2.toNat) (by omega)
    rcases Int.le_total 0 x with hx | hx
    · exact .inl ⟨Int.mul_le_mul_of_nonneg_left a0 hx, Int.mul_le_mul_of_nonneg_left a1 hx⟩
    · exact .inr ⟨Int.mul_le_mul_of_nonpos_left hx a1, Int.mul_le_mul_of_nonpos_left hx a0⟩
  · show Btw (x / 2 ^ l2.toNat) (x / 2 ^ y.toNat) (x / 2 ^ h2.toNat)
    have a0 := pow_up (a := l2.toNat) (b := y.toNat) (by omega); have a1 := pow_up (a := y.toNat) (b := h2.toNat) (by omega)
    rcases Int.le_total 0 x with hx | hx
    · exact .inr ⟨ediv_den hx (pow_pos2 _) a1, ediv_den hx (pow_pos2 _) a0⟩
    · exact .inl ⟨ediv_den' hx (pow_pos2 _) a0, ediv_den' hx (pow_pos2 _) a1⟩
theorem crn_in {op l h l2 h2 x y : Int} (c : Cor op l2 h2) (h0 : l ≤ x) (h1 : x ≤ h) (g0 : l2 ≤ y) (g1 : y ≤ h2) : (crn op l h l2 h2).1 ≤ exactV op x y ∧ exactV op x y ≤ (crn op l h l2 h2).2 := by
  have a := btw1 c h0 h1 g0 g1
  have b := btw2 (x := l) c g0 g1; have d := btw2 (x := h) c g0 g1
  unfold Btw at a b d
  unfold crn
  simp only
  generalize exactV op l l2 = p at *; generalize exactV op l h2 = q at *; generalize exactV op h l2 = r at *; generalize exactV op h h2 = s at *
  generalize exactV op l y = u at *; generalize exactV op h y = v at *; generalize exactV op x y = z at *
  have m1 := mn_cases p q; have m2 := mn_cases (mn p q) r; have m3 := mn_cases (mn (mn p q) r) s
  have x1 := mx_cases p q; have x2 := mx_cases (mx p q) r; have x3 := mx_cases (mx (mx p q) r) s
  generalize mn p q = e1 at *; generalize mx p q = e2 at *
  generalize mn e1 r = e3 at *; generalize mx e2 r = e4 at *
  generalize mn e3 s = e5 at *; generalize mx e4 s = e6 at *
  constructor
  · clear x1 x2 x3; omega
  · clear m1 m2 m3; omega
/-- Less room, less between the corners. -/
theorem crn_more {op l h l2 h2 x y x2 y2 : Int} (c : Cor op x2 y2) (n : l ≤ h) (n2 : l2 ≤ h2) (h0 : x ≤ l) (h1 : h ≤ y) (g0 : x2 ≤ l2) (g1 : h2 ≤ y2) : (crn op x y x2 y2).1 ≤ (crn op l h l2 h2).1 ∧ (crn op l h l2 h2).2 ≤ (crn op x y x2 y2).2 := by
  obtain ⟨a, b, a', b', ha, hb, ha', hb', e1, e2⟩ := crn_ends op l h l2 h2
  rw [e1, e2]
  exact ⟨(crn_in c (by omega) (by omega) (by omega) (by omega)).1, (crn_in c (by omega) (by omega) (by omega) (by omega)).2⟩
/-! ### within -/
def In (p q : Int × Int) : Prop := (p.1 = 1 ∧ p.2 = 0) ∨ (q.1 ≤ p.1 ∧ p.2 ≤ q.2)
theorem In.rfl' {p : Int × Int} : In p p := .inr ⟨Int.le_refl _, Int.le_refl _⟩
theorem cut_in {l h x y : Int} (h1 : x ≤ l) (h2 : h ≤ y) : In (cut l h) (cut x y) := by
  have a1 := mx_cases l (-2147483648); have a2 := mn_cases h 2147483647; have a3 := mx_cases x (-2147483648); have a4 := mn_cases y 2147483647
  unfold cut
  split
  · left; exact ⟨rfl, rfl⟩
  · split
    · exfalso; omega
    · right; simp only; omega
/-- A meeting of what is not none is cut; of less there is less. -/
theorem rmeet_more {l h x y u v : Int} (o : okR l h) (n : l ≤ h) (o' : okR x y) (h0 : x ≤ l) (h1 : h ≤ y) (ou : okR u v) (nu : ¬ isNone u v) : In (rmeet l h u v) (rmeet x y u v) := by
  have g : ¬ (¬ okR l h ∨ ¬ okR u v ∨ isNone l h ∨ isNone u v) := by
    rw [← okR_gt o]; simp only [o, ou, nu, not_true, false_or, or_false]; omega
  have g' : ¬ (¬ okR x y ∨ ¬ okR u v ∨ isNone x y ∨ isNone u v) := by
    rw [← okR_gt o']; simp only [o', ou, nu, not_true, false_or, or_false]; omega
  unfold rmeet
  rw [if_neg g, if_neg g']
  have a1 := mx_cases l u; have a2 := mn_cases h v; have a3 := mx_cases x u; have a4 := mn_cases y v
  exact cut_in (by omega) (by omega)
theorem rmeet_id {l h u v : Int} (o : okR l h) (n : l ≤ h) (ou : okR u v) (h0 : u ≤ l) (h1 : h ≤ v) : rmeet l h u v = (l, h) := by
  have g : ¬ (¬ okR l h ∨ ¬ okR u v ∨ isNone l h ∨ isNone u v) := by
    rw [← okR_gt o, ← okR_gt ou]; simp only [o, ou, not_true, false_or]; omega
  have a1 := mx_cases l u; have a2 := mn_cases h v
  unfold rmeet
  rw [if_neg g, show mx l u = l by omega, show mn h v = h by omega]
  unfold okR at o
  exact cut_id (by unfold N32; omega) (by unfold N32; omega) n
theorem rjoin_ite {p q : Int × Int} (op : okR p.1 p.2) (oq : okR q.1 q.2) : (isNone p.1 p.2 ∧ rjoin p.1 p.2 q.1 q.2 = q) ∨ (¬ isNone p.1 p.2 ∧ isNone q.1 q.2 ∧ rjoin p.1 p.2 q.1 q.2 = p) ∨ (¬ isNone p.1 p.2 ∧ ¬ isNone q.1 q.2 ∧ rjoin p.1 p.2 q.1 q.2 = (mn p.1 q.1, mx p.2 q.2)) := by
  unfold rjoin
  rw [if_neg (show ¬ (¬ okR p.1 p.2 ∨ ¬ okR q.1 q.2) by simp [op, oq])]
  by_cases h1 : isNone p.1 p.2
  · exact .inl ⟨h1, by rw [if_pos h1]⟩
  · rw [if_neg h1]
    by_cases h2 : isNone q.1 q.2
    · exact .inr (.inl ⟨h1, h2, by rw [if_pos h2]⟩)
    · exact .inr (.inr ⟨h1, h2, by rw [if_neg h2]⟩)
set_option maxHeartbeats 4000000 in
theorem rjoin_in {p q p' q' : Int × Int} (op : okR p.1 p.2) (oq : okR q.1 q.2) (op' : okR p'.1 p'.2) (oq' : okR q'.1 q'.2) (hp : In p p') (hq : In q q') : In (rjoin p.1 p.2 q.1 q.2) (rjoin p'.1 p'.2 q'.1 q'.2) := by
  have a1 := mn_cases p.1 q.1; have a2 := mx_cases p.2 q.2; have a3 := mn_cases p'.1 q'.1; have a4 := mx_cases p'.2 q'.2
  have s1 := rjoin_ite op oq; have s2 := rjoin_ite op' oq'
  unfold okR at op oq op' oq'
  unfold In at hp hq ⊢
  unfold isNone at s1 s2
  rcases s1 with ⟨_, e⟩ | ⟨_, _, e⟩ | ⟨_, _, e⟩ <;> rcases s2 with ⟨_, e'⟩ | ⟨_, _, e'⟩ | ⟨_, _, e'⟩ <;> rw [e, e'] <;> (try simp only) <;> omega
theorem in_join {p q : Int × Int} (op : okR p.1 p.2) (oq : okR q.1 q.2) : In p (rjoin p.1 p.2 q.1 q.2) ∧ In q (rjoin p.1 p.2 q.1 q.2) := by
  have a1 := mn_cases p.1 q.1; have a2 := mx_cases p.2 q.2
  have s1 := rjoin_ite op oq
  unfold okR at op oq
  unfold In
  unfold isNone at s1
  rcases s1 with ⟨_, e⟩ | ⟨_, _, e⟩ | ⟨_, _, e⟩ <;> rw [e] <;> (try simp only) <;> omega
/-! ### operators that wrap -/
theorem rwrap_in {op l h l2 h2 x y x2 y2 : Int} (ho : op = 11 ∨ op = 12 ∨ op = 13) (n : l ≤ h) (n2 : l2 ≤ h2) (h0 : x ≤ l) (h1 : h ≤ y) (g0 : x2 ≤ l2) (g1 : h2 ≤ y2) : In (rwrap op l h l2 h2) (rwrap op x y x2 y2) := by
  have c := crn_more (op := op) (x2 := x2) (y2 := y2) (.inl (by omega)) n n2 h0 h1 g0 g1
  have m : (crn op l h l2 h2).1 ≤ (crn op l h l2 h2).2 := by
    have := crn_in (op := op) (l := l) (h := h) (l2 := l2) (h2 := h2) (x := l) (y := l2) (.inl (by omega)) (by omega) (by omega) (by omega) (by omega)
    omega
  unfold rwrap
  generalize crn op l h l2 h2 = p at *; generalize crn op x y x2 y2 = q at *
  have w1 := wrap32_ok p.1; have w2 := wrap32_ok p.2
  split
  · rename_i g
    split
    · exact In.rfl'
    · rename_i g'
      exfalso; unfold wrap32 at g g'; omega
  · split
    · right; simp only; omega
    · rename_i g'
      right; simp only; unfold wrap32 at g' ⊢; omega
theorem rwrap_ok (op l h l2 h2 : Int) : okR (rwrap op l h l2 h2).1 (rwrap op l h l2 h2).2 := by
  unfold rwrap
  have w1 := wrap32_ok (crn op l h l2 h2).1; have w2 := wrap32_ok (crn op l h l2 h2).2
  split
  · right; simp only; omega
  · right; simp only; omega
/-! ### rests -/
theorem remBy_ite (l h p q : Int) : (l > -p ∧ h < p ∧ remBy l h p q = (l, h)) ∨ (¬ (l > -p ∧ h < p) ∧ (l < 0 → (remBy l h p q).1 = mx l (1 - q)) ∧ (¬ l < 0 → (remBy l h p q).1 = 0) ∧ (h > 0 → (remBy l h p q).2 = mn h (q - 1)) ∧ (¬ h > 0 → (remBy l h p q).2 = 0)) := by
  unfold remBy
  by_cases g : l > -p ∧ h < p
  · exact .inl ⟨g.1, g.2, by rw [if_pos g]⟩
  · rw [if_neg g]
    exact .inr ⟨g, fun z => by rw [if_pos z], fun z => by rw [if_neg z], fun z => by rw [if_pos z], fun z => by rw [if_neg z]⟩
theorem remBy_ok {l h p q : Int} (o : okR l h) (n : l ≤ h) (hp : 1 ≤ p) (hq : p ≤ q) : okR (remBy l h p q).1 (remBy l h p q).2 ∧ (remBy l h p q).1 ≤ (remBy l h p q).2 := by
  have a1 := mx_cases l (1 - q); have a2 := mn_cases h (q - 1)
  have s := remBy_ite l h p q
  unfold okR at o ⊢
  rcases s with ⟨_, _, e⟩ | ⟨_, e1, e2, e3, e4⟩
  · rw [e]; simp only; omega
  · omega
theorem remBy_in {l h p q x y p' q' : Int} (n : l ≤ h) (h0 : x ≤ l) (h1 : h ≤ y) (hp : 1 ≤ p') (g0 : p' ≤ p) (g1 : p ≤ q) (g2 : q ≤ q') : In (remBy l h p q) (remBy x y p' q') := by
  have a1 := mx_cases l (1 - q); have a2 := mn_cases h (q - 1); have a3 := mx_cases x (1 - q'); have a4 := mn_cases y (q' - 1)
  right
  rcases remBy_ite l h p q with ⟨_, _, e⟩ | ⟨_, e1, e2, e3, e4⟩
  · rcases remBy_ite x y p' q' with ⟨_, _, e'⟩ | ⟨_, e1', e2', e3', e4'⟩
    · rw [e, e']; simp only; omega
    · rw [e]; simp only; omega
  · rcases remBy_ite x y p' q' with ⟨_, _, e'⟩ | ⟨_, e1', e2', e3', e4'⟩
    · exfalso; omega
    · omega
theorem tmod_sz {a b : Int} (hb : b ≠ 0) : (a.tmod b).natAbs < b.natAbs ∧ (a.tmod b).natAbs ≤ a.natAbs ∧ (0 ≤ a → 0 ≤ a.tmod b) ∧ (a ≤ 0 → a.tmod b ≤ 0) ∧ (a.natAbs < b.natAbs → a.tmod b = a) := by
  have e : (a.tmod b).natAbs = a.natAbs % b.natAbs := Int.natAbs_tmod a b
  have h1 : a.natAbs % b.natAbs < b.natAbs := Nat.mod_lt _ (by omega)
  have h2 : a.natAbs % b.natAbs ≤ a.natAbs := Nat.mod_le _ _
  have s0 : 0 ≤ a → 0 ≤ a.tmod b := fun h => Int.tmod_nonneg b h
  have s1 : a ≤ 0 → a.tmod b ≤ 0 := fun h => by
    have : 0 ≤ (-a).tmod b := Int.tmod_nonneg b (by omega)
    rw [Int.neg_tmod] at this; omega
  refine ⟨by omega, by omega, s0, s1, fun h => ?_⟩
  rw [Nat.mod_eq_of_lt h] at e
  rcases Int.le_total 0 a with ha | ha
  · have := s0 ha; omega
  · have := s1 ha; omega
/-- What one number leaves by one whose size is told. -/
theorem remBy_one {a b x y p q : Int} (hb : b ≠ 0) (h0 : x ≤ a) (h1 : a ≤ y) (hp : 1 ≤ p) (g0 : p ≤ (b.natAbs : Int)) (g1 : (b.natAbs : Int) ≤ q) : In (a.tmod b, a.tmod b) (remBy x y p q) := by
  obtain ⟨t1, t2, t3, t4, t5⟩ := tmod_sz (a := a) hb
  have a3 := mx_cases x (1 - q); have a4 := mn_cases y (q - 1)
  right
  rcases remBy_ite x y p q with ⟨_, _, e'⟩ | ⟨_, e1', e2', e3', e4'⟩
  · rw [e', t5 (by omega)]; simp only; omega
  · simp only; omega
def sideN (l h : Int) (n : Int × Int) : Int × Int := if n.1 > n.2 then (1, 0) else remBy l h (-n.2) (-n.1)
def sideP (l h : Int) (p : Int × Int) : Int × Int := if p.1 > p.2 then (1, 0) else remBy l h p.1 p.2
theorem side_ok {l h l2 h2 : Int} (o : okR l h) (n : l ≤ h) : okR (sideN l h (rmeet l2 h2 (-2147483648) (-1))).1 (sideN l h (rmeet l2 h2 (-2147483648) (-1))).2 ∧ okR (sideP l h (rmeet l2 h2 1 2147483647)).1 (sideP l h (rmeet l2 h2 1 2147483647)).2 := by
  have hn := rmeet_in l2 h2 (x := -2147483648) (y := -1) (by unfold okR; omega) (by unfold isNone; omega)
  have hp := rmeet_in l2 h2 (x := 1) (y := 2147483647) (by unfold okR; omega) (by unfold isNone; omega)
  unfold sideN sideP
  constructor
  · split
    · exact .inl ⟨rfl, rfl⟩
    · exact (remBy_ok o n (by omega) (by omega)).1
  · split
    · exact .inl ⟨rfl, rfl⟩
    · exact (remBy_ok o n (by omega) (by omega)).1
theorem rrem_sides {l h l2 h2 : Int} (o : okR l h) (n : l ≤ h) (g : ¬ (l = h ∧ l2 = h2 ∧ l2 ≠ 0)) :
    ((rrem l h l2 h2).1, (rrem l h l2 h2).2.1) = rjoin (sideN l h (rmeet l2 h2 (-2147483648) (-1))).1 (sideN l h (rmeet l2 h2 (-2147483648) (-1))).2 (sideP l h (rmeet l2 h2 1 2147483647)).1 (sideP l h (rmeet l2 h2 1 2147483647)).2 := by
  obtain ⟨k1, k2⟩ := side_ok (l2 := l2) (h2 := h2) o n
  unfold rrem
  rw [if_neg g]
  simp only
  generalize rmeet l2 h2 (-2147483648) (-1) = N at *; generalize rmeet l2 h2 1 2147483647 = P at *
  have j0 : ∀ p : Int × Int, okR p.1 p.2 → rjoin 1 0 p.1 p.2 = p := fun p hp => by
    unfold rjoin; rw [if_neg (show ¬ (¬ okR 1 0 ∨ ¬ okR p.1 p.2) from fun z => z.elim (fun z => z (.inl ⟨rfl, rfl⟩)) (fun z => z hp)), if_pos ⟨rfl, rfl⟩]
  have j1 : ∀ p : Int × Int, okR p.1 p.2 → rjoin p.1 p.2 1 0 = p := fun p hp => by
    unfold rjoin
    rw [if_neg (show ¬ (¬ okR p.1 p.2 ∨ ¬ okR 1 0) from fun z => z.elim (fun z => z hp) (fun z => z (.inl ⟨rfl, rfl⟩)))]
    split
    · rename_i z; unfold isNone at z; exact Prod.ext z.1.symm z.2.symm
    · rw [if_pos ⟨rfl, rfl⟩]
  have eN : (if N.1 > N.2 then ((1, 0) : Int × Int) else rjoin 1 0 (remBy l h (-N.2) (-N.1)).1 (remBy l h (-N.2) (-N.1)).2) = sideN l h N := by
    unfold sideN at k1 ⊢
    split
    · rfl
    · rename_i z; rw [if_neg z] at k1; exact j0 _ k1
  rw [eN]
  unfold sideP at k2 ⊢
  split
  · rw [j1 _ k1]
  · rfl
theorem rrem_ok {l h l2 h2 : Int} (o : okR l h) (n : l ≤ h) (o2 : okR l2 h2) (n2 : l2 ≤ h2) : okR (rrem l h l2 h2).1 (rrem l h l2 h2).2.1 := by
  by_cases g : l = h ∧ l2 = h2 ∧ l2 ≠ 0
  · have := tmod_one (a := l) (okR_N32 o2).1 g.2.2
    unfold N32 at this
    unfold rrem
    rw [if_pos g]
    exact .inr ⟨this.1, Int.le_refl _, this.2⟩
  · have e := rrem_sides (l2 := l2) (h2 := h2) o n g
    have k := rjoin_ok (sideN l h (rmeet l2 h2 (-2147483648) (-1))).1 (sideN l h (rmeet l2 h2 (-2147483648) (-1))).2 (sideP l h (rmeet l2 h2 1 2147483647)).1 (sideP l h (rmeet l2 h2 1 2147483647)).2
    rw [← e] at k
    exact k
theorem In.trans {p q r : Int × Int} (oq : okR q.1 q.2) (h1 : In p q) (h2 : In q r) (n : p.1 ≤ p.2) : In p r := by
  unfold In okR at *; omega
theorem rrem_in {l h l2 h2 x y x2 y2 : Int} (o : okR l h) (n : l ≤ h) (o2 : okR l2 h2) (n2 : l2 ≤ h2) (o' : okR x y) (o2' : okR x2 y2) (h0 : x ≤ l) (h1 : h ≤ y) (g0 : x2 ≤ l2) (g1 : h2 ≤ y2) :
    In ((rrem l h l2 h2).1, (rrem l h l2 h2).2.1) ((rrem x y x2 y2).1, (rrem x y x2 y2).2.1) := by
  by_cases g' : x = y ∧ x2 = y2 ∧ x2 ≠ 0
  · obtain ⟨rfl, rfl, g'⟩ := g'
    obtain rfl : l = x := by omega
    obtain rfl : h = l := by omega
    obtain rfl : l2 = x2 := by omega
    obtain rfl : h2 = l2 := by omega
    exact In.rfl'
  rw [rrem_sides o' (by omega) g']
  obtain ⟨k1, k2⟩ := side_ok (l2 := x2) (h2 := y2) o' (by omega)
  have jn := in_join k1 k2
  by_cases g : l = h ∧ l2 = h2 ∧ l2 ≠ 0
  · obtain ⟨rfl, rfl, g⟩ := g
    have e : ((rrem l l l2 l2).1, (rrem l l l2 l2).2.1) = (l.tmod l2, l.tmod l2) := by
      unfold rrem; rw [if_pos ⟨rfl, rfl, g⟩]
    rw [e]
    unfold okR at o2
    rcases Int.lt_or_gt_of_ne g with s | s
    · have r := rmeet_more (l := l2) (h := l2) (x := x2) (y := y2) (u := -2147483648) (v := -1) o2 (by omega) o2' g0 g1 (by unfold okR; omega) (by unfold isNone; omega)
      rw [rmeet_id o2 (by omega) (by unfold okR; omega) (by omega) (by omega)] at r
      have hn := rmeet_in x2 y2 (x := -2147483648) (y := -1) (by unfold okR; omega) (by unfold isNone; omega)
      unfold In at r
      refine In.trans k1 ?_ jn.1 (Int.le_refl _)
      generalize rmeet x2 y2 (-2147483648) (-1) = N at *
      unfold sideN
      simp only at r
      rw [if_neg (by omega)]
      exact remBy_one g h0 h1 (by omega) (by omega) (by omega)
    · have r := rmeet_more (l := l2) (h := l2) (x := x2) (y := y2) (u := 1) (v := 2147483647) o2 (by omega) o2' g0 g1 (by unfold okR; omega) (by unfold isNone; omega)
      rw [rmeet_id o2 (by omega) (by unfold okR; omega) (by omega) (by omega)] at r
      have hn := rmeet_in x2 y2 (x := 1) (y := 2147483647) (by unfold okR; omega) (by unfold isNone; omega)
      unfold In at r
      refine In.trans k2 ?_ jn.2 (Int.le_refl _)
      generalize rmeet x2 y2 1 2147483647 = N at *
      unfold sideP
      simp only at r
      rw [if_neg (by omega)]
      exact remBy_one g h0 h1 (by omega) (by omega) (by omega)
  rw [rrem_sides o n g]
  obtain ⟨c1, c2⟩ := side_ok (l2 := l2) (h2 := h2) o n
  have hn := rmeet_in l2 h2 (x := -2147483648) (y := -1) (by unfold okR; omega) (by unfold isNone; omega)
  have hp := rmeet_in l2 h2 (x := 1) (y := 2147483647) (by unfold okR; omega) (by unfold isNone; omega)
  have hn' := rmeet_in x2 y2 (x := -2147483648) (y := -1) (by unfold okR; omega) (by unfold isNone; omega)
  have hp' := rmeet_in x2 y2 (x := 1) (y := 2147483647) (by unfold okR; omega) (by unfold isNone; omega)
  have rn := rmeet_more (u := -2147483648) (v := -1) o2 n2 o2' g0 g1 (by unfold okR; omega) (by unfold isNone; omega)
  have rp := rmeet_more (u := 1) (v := 2147483647) o2 n2 o2' g0 g1 (by unfold okR; omega) (by unfold isNone; omega)
  refine rjoin_in c1 c2 k1 k2 ?_ ?_
  · generalize rmeet l2 h2 (-2147483648) (-1) = N at *; generalize rmeet x2 y2 (-2147483648) (-1) = M at *
    unfold In at rn
    unfold sideN
    split
    · exact .inl ⟨rfl, rfl⟩
    · rw [if_neg (by omega)]
      exact remBy_in n h0 h1 (by omega) (by omega) (by omega) (by omega)
  · generalize rmeet l2 h2 1 2147483647 = N at *; generalize rmeet x2 y2 1 2147483647 = M at *
    unfold In at rp
    unfold sideP
    split
    · exact .inl ⟨rfl, rfl⟩
    · rw [if_neg (by omega)]
      exact remBy_in n h0 h1 (by omega) (by omega) (by omega) (by omega)
/-! ### bits -/
theorem mskL_ge : ∀ (n : Nat) (x m : Int), 0 ≤ x → x ≤ mskL n x m := by
  intro n
  induction n with
  | zero => intro x m _; exact Int.le_refl _
  | succ n ih =>
    intro x m hx
    unfold mskL
    split
    · have := ih (2 * x + 1) m (by omega); omega
    · exact Int.le_refl _
theorem mskL_up {m m' : Int} (h : m ≤ m') : ∀ (n : Nat) (x : Int), 0 ≤ x → mskL n x m ≤ mskL n x m' := by
  intro n
  induction n with
  | zero => intro x _; exact Int.le_refl _
  | succ n ih =>
    intro x hx
    have k := mskL_ge (n + 1) x m' hx
    unfold mskL at k ⊢
    split
    · rw [if_pos (by omega)]; exact ih _ (by omega)
    · exact k
theorem mskL_two {m : Int} (hm : m ≤ 2147483647) : ∀ (n : Nat) (x : Int) (j : Nat), j ≤ 31 → x + 1 = 2 ^ j → ∃ i : Nat, i ≤ 31 ∧ mskL n x m + 1 = 2 ^ i := by
  intro n
  induction n with
  | zero => intro x j hj e; exact ⟨j, hj, e⟩
  | succ n ih =>
    intro x j hj e
    unfold mskL
    split
    · have : j ≠ 31 := by
        rintro rfl
        have : (2 : Int) ^ 31 = 2147483648 := by decide
        omega
      exact ih (2 * x + 1) (j + 1) (by omega) (by rw [Int.pow_succ]; omega)
    · exact ⟨j, hj, e⟩
theorem mskL_cov {m : Int} (hm : m ≤ 2147483647) : ∀ (n : Nat) (x : Int) (j : Nat), n + j = 32 → x + 1 = 2 ^ j → m ≤ mskL n x m := by
  intro n
  induction n with
  | zero =>
    intro x j hj e
    obtain rfl : j = 32 := by omega
    have : (2 : Int) ^ 32 = 4294967296 := by decide
    show m ≤ x
    omega
  | succ n ih =>
    intro x j hj e
    unfold mskL
    split
    · exact ih (2 * x + 1) (j + 1) (by omega) (by rw [Int.pow_succ]; omega)
    · omega
theorem msk_ok {m : Int} (h1 : m ≤ 2147483647) : m ≤ msk m ∧ msk m ≤ 2147483647 ∧ ∃ i : Nat, i ≤ 31 ∧ msk m + 1 = 2 ^ i := by
  obtain ⟨i, hi, e⟩ := mskL_two h1 32 0 0 (by omega) (by decide)
  refine ⟨mskL_cov h1 32 0 0 (by omega) (by decide), ?_, i, hi, e⟩
  have k := pow_up hi
  have : (2 : Int) ^ 31 = 2147483648 := by decide
  unfold msk; omega
theorem u32_id {a : Int} (h0 : 0 ≤ a) (h1 : a ≤ 2147483647) : (u32 a : Int) = a := by unfold u32; omega
theorem s32_id {n : Nat} (h : n < 2147483648) : s32 n = (n : Int) := by unfold s32; rw [if_pos h]
theorem and_low {a b : Int} : (0 ≤ a → a ≤ 2147483647 → 0 ≤ exactV 6 a b ∧ exactV 6 a b ≤ a) ∧ (0 ≤ b → b ≤ 2147483647 → 0 ≤ exactV 6 a b ∧ exactV 6 a b ≤ b) := by
  have e : exactV 6 a b = s32 (u32 a &&& u32 b) := rfl
  rw [e]
  have l1 : u32 a &&& u32 b ≤ u32 a := Nat.and_le_left
  have l2 : u32 a &&& u32 b ≤ u32 b := Nat.and_le_right
  constructor
  · intro h0 h1
    have := u32_id h0 h1
    rw [s32_id (by omega)]; omega
  · intro h0 h1
    have := u32_id h0 h1
    rw [s32_id (by omega)]; omega
theorem or_low {a b m : Int} (ha : 0 ≤ a) (hb : 0 ≤ b) (ha1 : a ≤ m) (hb1 : b ≤ m) (hm : m ≤ 2147483647) : a ≤ exactV 7 a b ∧ b ≤ exactV 7 a b ∧ exactV 7 a b ≤ msk m ∧ 0 ≤ exactV 8 a b ∧ exactV 8 a b ≤ msk m := by
  obtain ⟨k1, k2, i, hi, e⟩ := msk_ok hm
  have ea := u32_id ha (by omega); have eb := u32_id hb (by omega)
  have e7 : exactV 7 a b = s32 (u32 a ||| u32 b) := rfl
  have e8 : exactV 8 a b = s32 (u32 a ^^^ u32 b) := rfl
  have c : ((2 ^ i : Nat) : Int) = (2 : Int) ^ i := by simp
  have l1 : u32 a < 2 ^ i := by omega
  have l2 : u32 b < 2 ^ i := by omega
  have o1 : u32 a ||| u32 b < 2 ^ i := Nat.or_lt_two_pow l1 l2
  have o2 : u32 a ^^^ u32 b < 2 ^ i := Nat.xor_lt_two_pow l1 l2
  have o3 : u32 a ≤ u32 a ||| u32 b := Nat.left_le_or
  have o4 : u32 b ≤ u32 a ||| u32 b := Nat.right_le_or
  rw [e7, e8, s32_id (by omega), s32_id (by omega)]
  omega
theorem rbits_ok {op l h l2 h2 : Int} (ho : op = 6 ∨ op = 7 ∨ op = 8) (o : okR l h) (n : l ≤ h) (o2 : okR l2 h2) (n2 : l2 ≤ h2) : okR (rbits op l h l2 h2).1 (rbits op l h l2 h2).2 := by
  have k := msk_ok (m := mx h h2) (by have := mx_cases h h2; unfold okR at o o2; omega)
  have a1 := mx_cases h h2; have a2 := mn_cases h h2; have a3 := mx_cases l l2
  have hb := bits_one (a := l) (b := l2) ho
  unfold N32 at hb
  unfold okR at o o2
  unfold rbits
  split
  · exact .inr ⟨hb.1, Int.le_refl _, hb.2⟩
  · split
    · split
      · right; simp only; omega
      · split
        · right; simp only; omega
        · split
          · right; simp only; omega
          · right; simp only; omega
    · split
      · right; simp only; omega
      · right; simp only
        split <;> omega
/-- What two numbers make is in what their ranges make. -/
theorem rbits_one {op a b x y x2 y2 : Int} (ho : op = 6 ∨ op = 7 ∨ op = 8) (o' : okR x y) (o2' : okR x2 y2) (h0 : x ≤ a) (h1 : a ≤ y) (g0 : x2 ≤ b) (g1 : b ≤ y2) : In (exactV op a b, exactV op a b) (rbits op x y x2 y2) := by
  have hb := bits_one (a := a) (b := b) ho
  unfold N32 at hb
  have a1 := mx_cases y y2; have a2 := mn_cases y y2; have a3 := mx_cases x x2
  unfold okR at o' o2'
  right
  unfold rbits
  split
  · rename_i g
    obtain rfl : a = x := by omega
    obtain rfl : b = x2 := by omega
    exact ⟨Int.le_refl _, Int.le_refl _⟩
  · split
    · subst op
      have t := and_low (a := a) (b := b)
      split
      · have := t.1 (by omega) (by omega); have := t.2 (by omega) (by omega); simp only; omega
      · split
        · have := t.1 (by omega) (by omega); simp only; omega
        · split
          · have := t.2 (by omega) (by omega); simp only; omega
          · exact hb
    · split
      · exact hb
      · have t := or_low (a := a) (b := b) (m := mx y y2) (by omega) (by omega) (by omega) (by omega) (by omega)
        simp only
        rcases ho with rfl | rfl | rfl
        · omega
        · rw [if_pos rfl]; omega
        · rw [if_neg (by omega)]; omega
theorem rbits_and {l h l2 h2 : Int} (g : ¬ (l = h ∧ l2 = h2)) : (l ≥ 0 ∧ l2 ≥ 0 ∧ rbits 6 l h l2 h2 = (0, mn h h2)) ∨ (l ≥ 0 ∧ ¬ l2 ≥ 0 ∧ rbits 6 l h l2 h2 = (0, h)) ∨ (¬ l ≥ 0 ∧ l2 ≥ 0 ∧ rbits 6 l h l2 h2 = (0, h2)) ∨ (¬ l ≥ 0 ∧ ¬ l2 ≥ 0 ∧ rbits 6 l h l2 h2 = (-2147483648, 2147483647)) := by
  unfold rbits
  rw [if_neg g, if_pos rfl]
  by_cases h1 : l ≥ 0 <;> by_cases h2 : l2 ≥ 0 <;> simp [h1, h2]
theorem rbits_or {op l h l2 h2 : Int} (n6 : ¬ op = 6) (g : ¬ (l = h ∧ l2 = h2)) : ((l < 0 ∨ l2 < 0) ∧ rbits op l h l2 h2 = (-2147483648, 2147483647)) ∨ (0 ≤ l ∧ 0 ≤ l2 ∧ (op = 7 → (rbits op l h l2 h2).1 = mx l l2) ∧ (¬ op = 7 → (rbits op l h l2 h2).1 = 0) ∧ (rbits op l h l2 h2).2 = msk (mx h h2)) := by
  unfold rbits
  rw [if_neg g, if_neg n6]
  by_cases h1 : l < 0 ∨ l2 < 0
  · exact .inl ⟨h1, by rw [if_pos h1]⟩
  · rw [if_neg h1]
    exact .inr ⟨by omega, by omega, fun z => by rw [if_pos z], fun z => by rw [if_neg z], rfl⟩
theorem rbits_in {op l h l2 h2 x y x2 y2 : Int} (ho : op = 6 ∨ op = 7 ∨ op = 8) (o : okR l h) (n : l ≤ h) (o2 : okR l2 h2) (n2 : l2 ≤ h2) (o' : okR x y) (o2' : okR x2 y2) (h0 : x ≤ l) (h1 : h ≤ y) (g0 : x2 ≤ l2) (g1 : h2 ≤ y2) : In (rbits op l h l2 h2) (rbits op x y x2 y2) := by
  by_cases g : l = h ∧ l2 = h2
  · obtain ⟨rfl, rfl⟩ := g
    have e : rbits op l l l2 l2 = (exactV op l l2, exactV op l l2) := by unfold rbits; rw [if_pos ⟨rfl, rfl⟩]
    rw [e]
    exact rbits_one ho o' o2' h0 h1 g0 g1
  have g' : ¬ (x = y ∧ x2 = y2) := by omega
  have a2 := mn_cases h h2; have a3 := mx_cases l l2
  have b2 := mn_cases y y2; have b3 := mx_cases x x2
  have m1 := mx_cases h h2; have m2 := mx_cases y y2
  have k1 := (msk_ok (m := mx h h2) (by unfold okR at o o2; omega)).2.1
  have km : msk (mx h h2) ≤ msk (mx y y2) := mskL_up (by omega) 32 0 (by omega)
  have k0 : 0 ≤ msk (mx h h2) := mskL_ge 32 0 _ (by omega)
  unfold okR at o o2
  right
  by_cases g6 : op = 6
  · subst g6
    rcases rbits_and g with ⟨_, _, e⟩ | ⟨_, _, e⟩ | ⟨_, _, e⟩ | ⟨_, _, e⟩ <;> rcases rbits_and g' with ⟨_, _, e'⟩ | ⟨_, _, e'⟩ | ⟨_, _, e'⟩ | ⟨_, _, e'⟩ <;> rw [e, e'] <;> simp only <;> clear m1 m2 k1 km k0 <;> omega
  · rcases rbits_or g6 g with ⟨_, e⟩ | ⟨_, _, e1, e2, e3⟩ <;> rcases rbits_or g6 g' with ⟨_, e'⟩ | ⟨_, _, e1', e2', e3'⟩
    · rw [e, e']; exact ⟨Int.le_refl _, Int.le_refl _⟩
    · exfalso; omega
    · rw [e', e3]; simp only; refine ⟨?_, k1⟩
      by_cases c : op = 7
      · rw [e1 c]; omega
      · rw [e2 c]; omega
    · rw [e3, e3']; refine ⟨?_, km⟩
      by_cases c : op = 7
      · rw [e1 c, e1' c]; omega
      · rw [e2 c, e2' c]; omega
/-! ### shifts and quotients -/
theorem shift_fit {op m : Int} (ho : op = 9 ∨ op = 10) (h : 0 ≤ m) (h2 : Int) : Cor op m h2 := .inr (.inr ⟨ho, h⟩)
theorem hasR_more {l h x y v : Int} (n : l ≤ h) (o' : okR x y) (h0 : x ≤ l) (h1 : h ≤ y) (hh : hasR l h v = true) : hasR x y v = true := by
  have := of_decide_eq_true hh
  exact decide_eq_true ⟨o', by omega, by omega⟩
theorem rshift_in {op l h l2 h2 x y x2 y2 : Int} (ho : op = 9 ∨ op = 10) (n : l ≤ h) (o2 : okR l2 h2) (n2 : l2 ≤ h2) (o2' : okR x2 y2) (h0 : x ≤ l) (h1 : h ≤ y) (g0 : x2 ≤ l2) (g1 : h2 ≤ y2) :
    In ((rshift op l h l2 h2).1, (rshift op l h l2 h2).2.1) ((rshift op x y x2 y2).1, (rshift op x y x2 y2).2.1) ∧ ∀ f ∈ (rshift op l h l2 h2).2.2, f ∈ (rshift op x y x2 y2).2.2 := by
  have hc := rmeet_in l2 h2 (x := 0) (y := 31) (by unfold okR; omega) (by unfold isNone; omega)
  have hc' := rmeet_in x2 y2 (x := 0) (y := 31) (by unfold okR; omega) (by unfold isNone; omega)
  have rn := rmeet_more (u := 0) (v := 31) o2 n2 o2' g0 g1 (by unfold okR; omega) (by unfold isNone; omega)
  have off : offB (rmeet l2 h2 0 31).1 (rmeet l2 h2 0 31).2 l2 h2 = true → offB (rmeet x2 y2 0 31).1 (rmeet x2 y2 0 31).2 x2 y2 = true := by
    intro hb
    have hb' : ¬ (rmeet l2 h2 0 31 = (l2, h2)) := by
      intro e; rw [e] at hb; simp [offB] at hb
    have : ¬ (0 ≤ l2 ∧ h2 ≤ 31) := fun z => hb' (rmeet_id o2 n2 (by unfold okR; omega) z.1 z.2)
    have h3 : ¬ ((rmeet x2 y2 0 31).1 = x2 ∧ (rmeet x2 y2 0 31).2 = y2) := by
      rintro ⟨z1, z2⟩; omega
    unfold offB
    simp only [Bool.or_eq_true, Bool.not_eq_true', beq_eq_false_iff_ne]
    omega
  unfold rshift
  generalize rmeet l2 h2 0 31 = N at *; generalize rmeet x2 y2 0 31 = M at *
  unfold In at rn
  by_cases e : N.1 > N.2
  · rw [if_pos e]
    refine ⟨.inl ⟨rfl, rfl⟩, ?_⟩
    intro f hf
    simp only at hf
    split at hf
    · rename_i hb
      have := off hb
      by_cases e' : M.1 > M.2
      · rw [if_pos e']; simp only; rw [if_pos this]; exact hf
      · rw [if_neg e']; simp only; rw [if_pos this]; exact List.mem_append_right _ hf
    · simp at hf
  · have e' : ¬ M.1 > M.2 := by omega
    rw [if_neg e, if_neg e']
    have c := crn_more (op := op) (l := l) (h := h) (l2 := N.1) (h2 := N.2) (x := x) (y := y) (x2 := M.1) (y2 := M.2) (shift_fit ho (by omega) _) n (by omega) h0 h1 (by omega) (by omega)
    simp only
    refine ⟨cut_in c.1 c.2, ?_⟩
    intro f hf
    rw [List.mem_append] at hf ⊢
    rcases hf with hf | hf
    · left
      split at hf
      · rw [if_pos (by omega)]; exact hf
      · simp at hf
    · right
      split at hf
      · rename_i hb; rw [if_pos (off hb)]; exact hf
      · simp at hf
theorem rdiv_in {l h l2 h2 x y x2 y2 : Int} (n : l ≤ h) (o' : okR x y) (o2 : okR l2 h2) (n2 : l2 ≤ h2) (o2' : okR x2 y2) (h0 : x ≤ l) (h1 : h ≤ y) (g0 : x2 ≤ l2) (g1 : h2 ≤ y2) :
    In ((rdiv l h l2 h2).1, (rdiv l h l2 h2).2.1) ((rdiv x y x2 y2).1, (rdiv x y x2 y2).2.1) ∧ ∀ f ∈ (rdiv l h l2 h2).2.2, f ∈ (rdiv x y x2 y2).2.2 := by
  have hn := rmeet_in l2 h2 (x := -2147483648) (y := -1) (by unfold okR; omega) (by unfold isNone; omega)
  have hp := rmeet_in l2 h2 (x := 1) (y := 2147483647) (by unfold okR; omega) (by unfold isNone; omega)
  have hn' := rmeet_in x2 y2 (x := -2147483648) (y := -1) (by unfold okR; omega) (by unfold isNone; omega)
  have hp' := rmeet_in x2 y2 (x := 1) (y := 2147483647) (by unfold okR; omega) (by unfold isNone; omega)
  have rn := rmeet_more (u := -2147483648) (v := -1) o2 n2 o2' g0 g1 (by unfold okR; omega) (by unfold isNone; omega)
  have rp := rmeet_more (u := 1) (v := 2147483647) o2 n2 o2' g0 g1 (by unfold okR; omega) (by unfold isNone; omega)
  constructor
  · unfold rdiv
    generalize rmeet l2 h2 (-2147483648) (-1) = N at *; generalize rmeet x2 y2 (-2147483648) (-1) = M at *
    generalize rmeet l2 h2 1 2147483647 = P at *; generalize rmeet x2 y2 1 2147483647 = Q at *
    simp only
    unfold In at rn rp
    have cn : ¬ N.1 > N.2 → (crn 4 x y M.1 M.2).1 ≤ (crn 4 l h N.1 N.2).1 ∧ (crn 4 l h N.1 N.2).2 ≤ (crn 4 x y M.1 M.2).2 := fun z =>
      crn_more (.inr (.inl ⟨rfl, .inr (by omega)⟩)) n (by omega) h0 h1 (by omega) (by omega)
    have cp : ¬ P.1 > P.2 → (crn 4 x y Q.1 Q.2).1 ≤ (crn 4 l h P.1 P.2).1 ∧ (crn 4 l h P.1 P.2).2 ≤ (crn 4 x y Q.1 Q.2).2 := fun z =>
      crn_more (.inr (.inl ⟨rfl, .inl (by omega)⟩)) n (by omega) h0 h1 (by omega) (by omega)
    generalize crn 4 x y M.1 M.2 = m at *; generalize crn 4 l h N.1 N.2 = n' at *; generalize crn 4 x y Q.1 Q.2 = q at *; generalize crn 4 l h P.1 P.2 = p at *
    have a1 := mn_cases p.1 n'.1; have a2 := mx_cases p.2 n'.2; have a3 := mn_cases q.1 m.1; have a4 := mx_cases q.2 m.2
    by_cases e1 : N.1 > N.2
    · rw [if_pos e1]
      by_cases e2 : P.1 > P.2
      · rw [if_pos e2]; exact .inl ⟨rfl, rfl⟩
      · have k := cp e2
        rw [if_neg e2]
        have e3 : ¬ Q.1 > Q.2 := by omega
        rw [if_neg e3, if_neg e3]
        split
        · exact cut_in (by omega) (by omega)
        · exact cut_in (by omega) (by omega)
    · have k := cn e1
      have e3 : ¬ M.1 > M.2 := by omega
      rw [if_neg e1, if_neg e3]
      by_cases e2 : P.1 > P.2
      · rw [if_pos e2]
        split
        · exact cut_in (by omega) (by omega)
        · exact cut_in (by omega) (by omega)
      · have k2 := cp e2
        rw [if_neg e2, if_neg (show ¬ Q.1 > Q.2 by omega)]
        exact cut_in (by omega) (by omega)
  · intro f hf
    have e : ∀ a b c d : Int, (rdiv a b c d).2.2 = (if hasR a b (-2147483648) && hasR c d (-1) then [1] else []) ++ (if hasR c d 0 then [2] else []) := fun _ _ _ _ => rfl
    rw [e, List.mem_append] at hf ⊢
    rcases hf with hf | hf
    · left
      split at hf
      · rename_i c
        rw [Bool.and_eq_true] at c
        rw [if_pos (by rw [hasR_more n o' h0 h1 c.1, hasR_more n2 o2' g0 g1 c.2]; rfl)]
        exact hf
      · simp at hf
    · right
      split at hf
      · rename_i c
        rw [if_pos (hasR_more n2 o2' g0 g1 c)]; exact hf
      · simp at hf
theorem rdiv_ok (l h l2 h2 : Int) : okR (rdiv l h l2 h2).1 (rdiv l h l2 h2).2.1 := by
  unfold rdiv
  simp only
  split
  · split
    · exact .inl ⟨rfl, rfl⟩
    · exact cut_okR _ _
  · split
    · exact cut_okR _ _
    · exact cut_okR _ _
theorem rshift_ok (op l h l2 h2 : Int) : okR (rshift op l h l2 h2).1 (rshift op l h l2 h2).2.1 := by
  unfold rshift
  split
  · exact .inl ⟨rfl, rfl⟩
  · exact cut_okR _ _
/-! ### all of them -/
theorem rangeDo_okR (op l h l2 h2 : Int) : okR (rangeDo op l h l2 h2).1 (rangeDo op l h l2 h2).2.1 := by
  unfold rangeDo
  split
  · exact .inl ⟨rfl, rfl⟩
  rename_i hb
  unfold badDo at hb
  have o1 : okR l h := Decidable.byContradiction fun z => hb (.inr (.inl z))
  have o2 : okR l2 h2 := Decidable.byContradiction fun z => hb (.inr (.inr (.inl z)))
  split
  · exact cut_okR _ _
  split
  · exact rwrap_ok _ _ _ _ _
  split
  · exact rshift_ok _ _ _ _ _
  split
  · exact rdiv_ok _ _ _ _
  split
  · exact rrem_ok o1 (by omega) o2 (by omega)
  · exact rbits_ok (by omega) o1 (by omega) o2 (by omega)
theorem rangeDo_more {op l h l2 h2 x y x2 y2 : Int} (o' : okR x y) (o2' : okR x2 y2) (s1 : l ≤ h → x ≤ l ∧ h ≤ y) (s2 : l2 ≤ h2 → x2 ≤ l2 ∧ h2 ≤ y2) :
    In ((rangeDo op l h l2 h2).1, (rangeDo op l h l2 h2).2.1) ((rangeDo op x y x2 y2).1, (rangeDo op x y x2 y2).2.1) ∧ ∀ f ∈ (rangeDo op l h l2 h2).2.2, f ∈ (rangeDo op x y x2 y2).2.2 := by
  by_cases hb0 : badDo op l h l2 h2
  · have e : rangeDo op l h l2 h2 = (1, 0, []) := by unfold rangeDo; rw [if_pos hb0]
    rw [e]
    exact ⟨.inl ⟨rfl, rfl⟩, fun f hf => absurd hf (by simp)⟩
  have hb := hb0
  unfold badDo at hb
  have o1 : okR l h := Decidable.byContradiction fun z => hb (.inr (.inl z))
  have o2 : okR l2 h2 := Decidable.byContradiction fun z => hb (.inr (.inr (.inl z)))
  have n1 : l ≤ h := by omega
  have n2 : l2 ≤ h2 := by omega
  obtain ⟨h0, h1⟩ := s1 n1
  obtain ⟨g0, g1⟩ := s2 n2
  have hb' : ¬ badDo op x y x2 y2 := by
    unfold badDo; rintro (z | z | z | z | z)
    · exact hb (.inl z)
    · exact z o'
    · exact z o2'
    · omega
    · omega
  unfold rangeDo
  rw [if_neg hb0, if_neg hb']
  by_cases c1 : op ≤ 3
  · rw [if_pos c1, if_pos c1]
    have c := crn_more (op := op) (l := l) (h := h) (l2 := l2) (h2 := h2) (x := x) (y := y) (x2 := x2) (y2 := y2) (.inl (by omega)) n1 n2 h0 h1 g0 g1
    simp only
    refine ⟨cut_in c.1 c.2, ?_⟩
    intro f hf
    split at hf
    · rw [if_pos (by omega)]; exact hf
    · simp at hf
  rw [if_neg c1, if_neg c1]
  by_cases c2 : op ≥ 11
  · rw [if_pos c2, if_pos c2]
    exact ⟨rwrap_in (by omega) n1 n2 h0 h1 g0 g1, fun f hf => absurd hf (by simp)⟩
  rw [if_neg c2, if_neg c2]
  by_cases c3 : op ≥ 9
  · rw [if_pos c3, if_pos c3]
    exact rshift_in (by omega) n1 o2 n2 o2' h0 h1 g0 g1
  rw [if_neg c3, if_neg c3]
  by_cases c4 : op = 4
  · rw [if_pos c4, if_pos c4]
    exact rdiv_in n1 o' o2 n2 o2' h0 h1 g0 g1
  rw [if_neg c4, if_neg c4]
  by_cases c5 : op = 5
  · rw [if_pos c5, if_pos c5]
    refine ⟨rrem_in o1 n1 o2 n2 o' o2' h0 h1 g0 g1, ?_⟩
    intro f hf
    by_cases g : l = h ∧ l2 = h2 ∧ l2 ≠ 0
    · unfold rrem at hf; rw [if_pos g] at hf; simp at hf
    have g' : ¬ (x = y ∧ x2 = y2 ∧ x2 ≠ 0) := by omega
    unfold rrem at hf ⊢
    rw [if_neg g] at hf
    rw [if_neg g']
    simp only at hf ⊢
    split at hf
    · rename_i c
      rw [if_pos (hasR_more n2 o2' g0 g1 c)]; exact hf
    · simp at hf
  rw [if_neg c5, if_neg c5]
  exact ⟨rbits_in (by omega) o1 n1 o2 n2 o' o2' h0 h1 g0 g1, fun f hf => absurd hf (by simp)⟩

/-! ### two ranges, drawn -/
theorem drTwo {b : List Int} (hb : ∀ x ∈ b, 0 ≤ x ∧ x ≤ 255) (hl : b.length ≤ 2000) (p : Int) (hp : 0 ≤ p) (hq : p ≤ 400000) : W (fun k => spec_l8Two.f k b p) (fun r => p ≤ r.2.2.2.2 ∧ r.2.2.2.2 ≤ p + 100) := by
  unfold spec_l8Two.f
  refine W.bind (drWild hb hl p hp (by omega)) ?_
  rintro ⟨x, y, q⟩ ⟨h2, h3⟩
  simp only at h2 h3
  simp only
  refine W.bind (drWild hb hl q (by omega) (by omega)) ?_
  rintro ⟨x2, y2, q2⟩ ⟨h4, h5⟩
  simp only at h4 h5
  simp only
  refine W.bind (pick_ok hb hl q2 3 (by omega) (by omega)) ?_
  rintro ⟨c, q3⟩ ⟨rfl, _⟩
  simp only [sRangeOk, spec_l8None.f, Option.bind_some]
  have key : ∀ c : Bool, W (fun k => spec_l8Two.j0 k c b (q2 + 1) x y x2 y2) (fun r => p ≤ r.2.2.2.2 ∧ r.2.2.2.2 ≤ p + 100) := by
    intro c
    refine W.step (fun k => by simp only [spec_l8Two.j0, sCut, Option.bind_some]; rfl) ?_
    refine W.ite (fun _ => ?_) (fun _ => W.ret ⟨by simp only; omega, by simp only; omega⟩)
    refine W.bind (pick_ok hb hl (q2 + 1) 9 (by omega) (by omega)) ?_
    rintro ⟨d, q⟩ ⟨rfl, _⟩
    simp only
    refine W.bind (pick_ok hb hl (q2 + 1 + 1) 9 (by omega) (by omega)) ?_
    rintro ⟨e, q⟩ ⟨rfl, _⟩
    exact W.ret ⟨by simp only; omega, by simp only; omega⟩
  exact W.ite (fun _ => W.dec (fun _ => key _) (fun _ => key _)) (fun _ => key _)
theorem drawRangeJoin_ok (code : List Int) (hb : ∀ x ∈ code, (Lit.int .u8 x).wf = true) : W (fun k => spec_DrawRangeJoin.f k code) (fun _ => True) := by
  obtain ⟨b, ho, hl, hb⟩ := open_ok code hb
  unfold spec_DrawRangeJoin.f
  rw [ho]
  simp only [Option.bind_some]
  refine W.bind (drTwo hb hl 0 (by omega) (by omega)) ?_
  rintro r -
  exact W.ret trivial
/-! ### one of them -/
theorem has_ok {g : List Int} {v : Int} (hg : g.length ≤ 1048576) (hv : v ∈ g) : W (fun k => laws_has.f k g v) (· = true) := by
  obtain ⟨j, hj, e⟩ := List.getElem_of_mem hv
  have loop : ∀ (d i : Nat), i + d = j → W (fun k => laws_has.l0 k g v (i : Int)) (· = true) := by
    intro d
    induction d with
    | zero =>
      intro i hi
      obtain rfl : i = j := by omega
      refine W.step (fun k => by simp only [laws_has.l0]; rfl) ?_
      refine W.pos (by omega) (W.pos (by omega) (W.pos ?_ (W.ret rfl)))
      rw [show rd g (i : Int) = g[i] by simp [rd, List.getD_eq_getElem?_getD, List.getElem?_eq_getElem hj]]
      exact e
    | succ d ih =>
      intro i hi
      refine W.step (fun k => by simp only [laws_has.l0]; rfl) ?_
      refine W.pos (by omega) (W.pos (by omega) (W.ite (fun _ => W.ret rfl) (fun _ => ?_)))
      rw [wrap64_id (n := (i : Int) + 1) (by omega) (by omega), show (i : Int) + 1 = ((i + 1 : Nat) : Int) by omega]
      exact ih (i + 1) (by omega)
  unfold laws_has.f
  exact loop j 0 (by omega)
theorem more_loop {F G : List Int} (hF : F.length ≤ 2) (hG : G.length ≤ 2) (h : ∀ f ∈ F, f ∈ G) {x0 x1 y0 y1 : Int} (ox : okR x0 x1) (oy : okR y0 y1) (hin : In (x0, x1) (y0, y1)) : W (fun k => laws_FnRangeMore.l0 k F G 0 x0 x1 y0 y1) (· = true) := by
  have loop : ∀ (d i : Nat), i + d = F.length → W (fun k => laws_FnRangeMore.l0 k F G (i : Int) x0 x1 y0 y1) (· = true) := by
    intro d
    induction d with
    | zero =>
      intro i hi
      refine W.step (fun k => by simp only [laws_FnRangeMore.l0, iRangeIn, Option.bind_some]; rfl) ?_
      exact W.neg (by omega) (W.ret (decide_eq_true ⟨ox, oy, hin⟩))
    | succ d ih =>
      intro i hi
      refine W.step (fun k => by simp only [laws_FnRangeMore.l0]; rfl) ?_
      refine W.pos (by omega) (W.pos (by omega) ?_)
      have hi' : i < F.length := by omega
      have hm : rd F (i : Int) ∈ F := by
        rw [show rd F (i : Int) = F[i] by simp [rd, List.getD_eq_getElem?_getD, List.getElem?_eq_getElem hi']]
        exact List.getElem_mem hi'
      refine W.bind (has_ok (by omega) (h _ hm)) ?_
      rintro _ rfl
      refine W.pos (by trivial) ?_
      rw [wrap64_id (n := (i : Int) + 1) (by omega) (by omega), show (i : Int) + 1 = ((i + 1 : Nat) : Int) by omega]
      exact ih (i + 1) (by omega)
  exact loop F.length 0 (by omega)

theorem FnRangeMore : laws_FnRangeMore.Pure := by
  intro code _ _ hb
  apply W.eq
  unfold laws_FnRangeMore.f
  refine W.ite (fun _ => W.ret rfl) (fun _ => ?_)
  refine W.bind (drawRangeDo_ok code hb) ?_
  rintro ⟨op, l, h, l2, h2⟩ -
  simp only
  refine W.bind (drawRangeJoin_ok code hb) ?_
  rintro ⟨x, y, x2, y2⟩ -
  simp only
  refine W.bind (iRangeDo op l h l2 h2) ?_
  rintro _ rfl
  refine W.bind (sRangeDo op l h l2 h2) ?_
  rintro _ rfl
  refine W.neg (by simp) ?_
  have hF := rangeDo_len op l h l2 h2
  refine W.bind (sameInts_self (by omega)) ?_
  rintro _ rfl
  refine W.step (fun k => by simp only [laws_FnRangeMore.j0, sRangeOk, Option.bind_some]; rfl) ?_
  refine W.neg (by decide) ?_
  have bad : W (fun k => laws_FnRangeMore.j1 k op (rangeDo op l h l2 h2).2.2 true l h l2 h2 x y x2 y2 (rangeDo op l h l2 h2).1 (rangeDo op l h l2 h2).2.1) (· = true) := by
    refine W.step (fun k => by simp only [laws_FnRangeMore.j1]; rfl) ?_
    exact W.pos (by trivial) (W.ret rfl)
  refine W.dec (fun o1 => W.dec (fun o2 => W.dec (fun o3 => ?_) (fun _ => bad)) (fun _ => bad)) (fun _ => bad)
  by_cases o4 : okR x2 y2
  · rw [ndt o4]
    refine W.step (fun k => by simp only [laws_FnRangeMore.j1]; rfl) ?_
    refine W.neg (by decide) ?_
    refine W.bind (sRangeJoin l h x y) ?_
    rintro _ rfl
    refine W.bind (sRangeJoin l2 h2 x2 y2) ?_
    rintro _ rfl
    refine W.bind (iRangeDo op _ _ _ _) ?_
    rintro _ rfl
    have j1 := (in_join (p := (l, h)) (q := (x, y)) o1 o3).1
    have j2 := (in_join (p := (l2, h2)) (q := (x2, y2)) o2 o4).1
    unfold In at j1 j2
    simp only at j1 j2
    have m := rangeDo_more (op := op) (l := l) (h := h) (l2 := l2) (h2 := h2) (rjoin_ok l h x y) (rjoin_ok l2 h2 x2 y2) (fun z => by omega) (fun z => by omega)
    exact more_loop hF (rangeDo_len _ _ _ _ _) m.2 (rangeDo_okR _ _ _ _ _) (rangeDo_okR _ _ _ _ _) m.1
  · rw [ndf o4]; exact bad

end Go.Proofs.Ythbkakcchgnhpaa.Pure
