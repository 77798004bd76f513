/- The pure statement of the law FnRangeOne: for every input the printed function answers true. -/
import Derived.Test.YthbkakcchgnhpaaPFnRangeOnex0
import Derived.Test.YthbkakcchgnhpaaPFnRangeOnex1
import Derived.Test.YthbkakcchgnhpaaPFnRangeOnex10
import Derived.Test.YthbkakcchgnhpaaPFnRangeOnex11
import Derived.Test.YthbkakcchgnhpaaPFnRangeOnex12
import Derived.Test.YthbkakcchgnhpaaPFnRangeOnex13
import Derived.Test.YthbkakcchgnhpaaPFnRangeOnex14
import Derived.Test.YthbkakcchgnhpaaPFnRangeOnex15
import Derived.Test.YthbkakcchgnhpaaPFnRangeOnex16
import Derived.Test.YthbkakcchgnhpaaPFnRangeOnex2
import Derived.Test.YthbkakcchgnhpaaPFnRangeOnex3
import Derived.Test.YthbkakcchgnhpaaPFnRangeOnex4
import Derived.Test.YthbkakcchgnhpaaPFnRangeOnex5
import Derived.Test.YthbkakcchgnhpaaPFnRangeOnex6
import Derived.Test.YthbkakcchgnhpaaPFnRangeOnex7
import Derived.Test.YthbkakcchgnhpaaPFnRangeOnex8
import Derived.Test.YthbkakcchgnhpaaPFnRangeOnex9
import Derived.Test.YthbkakcchgnhpaaLv
namespace Go.Proofs.Ythbkakcchgnhpaa.Pure
open Go Go.RowKit Go.Proofs.Ythbkakcchgnhpaa.PFnRangeOne Go.Proofs.YthbkakcchgnhpaaV.PrintWords Go.Proofs.YthbkakcchgnhpaaV.PrintLast Go.Proofs.YthbkakcchgnhpaaV.PrintMore Go.Proofs.Ythbkakcchgnhpaa.Lib
set_option linter.unusedVariables false
set_option linter.unusedSimpArgs false

def okN (v : Int) : Prop := -2147483648 ≤ v ∧ v ≤ 2147483647
instance (v : Int) : Decidable (okN v) := by unfold okN; exact inferInstance
theorem sNumOk (v : Int) : spec_NumOk.f v = some (decide (okN v)) := by
  simp only [spec_NumOk.f, spec_l1In.f, okN]
  by_cases h : v ≥ -2147483648 <;> simp [h]
theorem iNumOk (v : Int) : impl_NumOk.f v = some (decide (okN v)) := by
  simp only [impl_NumOk.f, okN]
  by_cases h : v ≥ -2147483648 <;> simp [h]

theorem tmod_pos {a n : Int} (h : 0 ≤ a) (hn : 1 ≤ n) : 0 ≤ a.tmod n ∧ a.tmod n < n := by
  rw [Int.tmod_eq_emod_of_nonneg h]
  exact ⟨Int.emod_nonneg _ (by omega), Int.emod_lt_of_pos _ (by omega)⟩

theorem power_loop (n : Int) (hn : n ≤ 61) (d : Nat) : ∀ i : Int, 0 ≤ i → i ≤ n → n - i = d → W (fun k => spec_l1Power.l0 k n (2 ^ i.toNat) i) (· = 2 ^ n.toNat) := by
  induction d with
  | zero =>
    intro i h0 h1 hd
    refine W.step (fun k => by simp only [spec_l1Power.l0]; rfl) ?_
    exact W.neg (by omega) (W.ret (by rw [show i = n by omega]))
  | succ d ih =>
    intro i h0 h1 hd
    refine W.step (fun k => by simp only [spec_l1Power.l0]; rfl) ?_
    refine W.pos (by omega) ?_
    have hp : (2 : Int) ^ i.toNat ≤ 2 ^ 61 := pow_mono (by omega)
    have hq := pow_pos' i.toNat
    have h := ih (i + 1) (by omega) (by omega) (by omega)
    rw [show (i + 1).toNat = i.toNat + 1 by omega, Int.pow_succ, Int.mul_comm] at h
    rw [wrap64_id (n := i + 1) (by omega) (by omega), wrap64_id (n := 2 * 2 ^ i.toNat) (by omega) (by omega)]
    exact h
theorem power_ok (n : Int) (h0 : 0 ≤ n) (hn : n ≤ 61) : W (fun k => spec_l1Power.f k n) (· = 2 ^ n.toNat) := by
  unfold spec_l1Power.f
  exact power_loop n hn n.toNat 0 (by omega) h0 (by omega)

theorem sNumWrap (a : Int) (h0 : -9223372036854775808 ≤ a) (h1 : a ≤ 9223372036854775807) : spec_NumWrap.f a = some (wrap32 a) := by
  simp only [spec_NumWrap.f, spec_l1Mod.f]
  have e := tmod_up (n := a) (m := 4294967296) (by omega)
  have b := tmod_bounds (n := a) (m := 4294967296) (by omega)
  rw [if_neg (by omega)]
  by_cases hn : a.tmod 4294967296 < 0
  · rw [if_pos hn] at e ⊢
    rw [wrap64_id (by omega) (by omega), e]
    simp only [Option.bind_some]
    by_cases hm : a % 4294967296 > 2147483647
    · rw [if_pos hm]
      congr 1; unfold wrap64 wrap32; omega
    · rw [if_neg hm]
      congr 1; unfold wrap32; omega
  · rw [if_neg hn] at e ⊢
    rw [e]
    simp only [Option.bind_some]
    by_cases hm : a % 4294967296 > 2147483647
    · rw [if_pos hm]
      congr 1; unfold wrap64 wrap32; omega
    · rw [if_neg hm]
      congr 1; unfold wrap32; omega
theorem wrap32_ok (a : Int) : -2147483648 ≤ wrap32 a ∧ wrap32 a ≤ 2147483647 := by unfold wrap32; omega
theorem wrap64_ok (a : Int) : -9223372036854775808 ≤ wrap64 a ∧ wrap64 a ≤ 9223372036854775807 := by unfold wrap64; omega


/-! ### the reader of codes -/
theorem rd_byte {b : List Int} (hb : ∀ x ∈ b, 0 ≤ x ∧ x ≤ 255) (i : Int) : 0 ≤ rd b i ∧ rd b i ≤ 255 := by
  unfold rd
  rw [List.getD_eq_getElem?_getD]
  by_cases h : i.toNat < b.length
  · rw [List.getElem?_eq_getElem h]; exact hb _ (List.getElem_mem h)
  · rw [List.getElem?_eq_none (by omega)]; simp
theorem xor64 {a b : Int} (h0 : 0 ≤ a) (h1 : a ≤ 9223372036854775807) (h2 : 0 ≤ b) (h3 : b ≤ 9223372036854775807) : 0 ≤ Go.bits .xor .i64 a b := by
  show 0 ≤ IntKind.i64.wrap ((BitVec.ofInt 64 a ^^^ BitVec.ofInt 64 b).toNat : Int)
  rw [wrap64_bv]
  have e : ∀ x : Int, 0 ≤ x → x ≤ 9223372036854775807 → (BitVec.ofInt 64 x).toNat = x.toNat := by
    intro x g0 g1
    rw [BitVec.toNat_ofInt]; congr 1; exact Int.emod_eq_of_lt g0 (by omega)
  rw [BitVec.toInt_eq_toNat_cond, BitVec.toNat_xor, e a h0 h1, e b h2 h3]
  have := Nat.xor_lt_two_pow (n := 63) (x := a.toNat) (y := b.toNat) (by omega) (by omega)
  rw [if_pos (by omega)]
  omega
def Pick (p n : Int) (r : Int × Int) : Prop := r.2 = p + 1 ∧ (1 ≤ n → 0 ≤ r.1 ∧ r.1 < n)
theorem pick_ok {b : List Int} (hb : ∀ x ∈ b, 0 ≤ x ∧ x ≤ 255) (hl : b.length ≤ 2000) (p n : Int) (hp : 0 ≤ p) (hq : p ≤ 1000000) : W (fun k => spec_l1Rd_pick.f k b p n) (Pick p n) := by
  unfold spec_l1Rd_pick.f
  rw [wrap64_id (n := p + 1) (by omega) (by omega)]
  refine W.ite (fun h => ?_) (fun h => ?_)
  · exact W.step (f := fun _ => some (0, p + 1)) (fun k => by simp only [spec_l1Rd_pick.j0, if_true]) (W.ret ⟨rfl, fun h1 => by omega⟩)
  · by_cases hz : b.length = 0
    · exact W.step (f := fun _ => some (0, p + 1)) (fun k => by simp only [spec_l1Rd_pick.j0, hz]; rfl) (W.ret ⟨rfl, fun h1 => by simp only; omega⟩)
    · have e : ((b.length : Int) == 0) = false := by simpa using hz
      rw [e]
      refine W.step (fun k => by simp only [spec_l1Rd_pick.j0]; rfl) ?_
      rw [show p + 1 - 1 = p by omega, wrap64_id (n := p) (by omega) (by omega)]
      refine W.neg (by decide) ?_
      have hn0 : ¬ n = 0 := by omega
      have ht : ∀ x : Int, 0 ≤ x → Pick p n (x.tmod n, p + 1) := fun x hx => ⟨rfl, fun h1 => tmod_pos hx h1⟩
      refine W.ite (fun h1 => ?_) (fun h1 => ?_)
      · refine W.pos hp (W.neg hn0 (W.ret ?_))
        have := rd_byte hb p
        rw [wrap64_id (by omega) (by omega)]
        exact ht _ this.1
      · have hL : (1 : Int) ≤ b.length := by omega
        refine W.neg (by omega) ?_
        have t1 := tmod_pos (a := p) hp hL
        have t2 := tmod_pos (a := p * 7 + 3) (by omega) hL
        rw [wrap64_id (n := p * 7) (by omega) (by omega), wrap64_id (n := p * 7 + 3) (by omega) (by omega)]
        refine W.pos t1.1 (W.pos t1.2 (W.pos t2.1 (W.pos t2.2 (W.neg hn0 (W.ret ?_)))))
        have r1 := rd_byte hb (Int.tmod p b.length)
        have r2 := rd_byte hb (Int.tmod (p * 7 + 3) b.length)
        have d1 : 0 ≤ Int.tdiv p b.length ∧ Int.tdiv p b.length ≤ p := by
          rw [Int.tdiv_eq_ediv_of_nonneg hp]
          exact ⟨Int.ediv_nonneg hp (by omega), Int.ediv_le_self _ hp⟩
        generalize rd b (Int.tmod p b.length) = c1 at *
        generalize rd b (Int.tmod (p * 7 + 3) b.length) = c2 at *
        generalize Int.tdiv p b.length = c3 at *
        rw [wrap64_id (n := c1) (by omega) (by omega), wrap64_id (n := c2) (by omega) (by omega), wrap64_id (n := c3) (by omega) (by omega), wrap64_id (n := c1 * 131) (by omega) (by omega), wrap64_id (n := c2 * 1117) (by omega) (by omega),
          wrap64_id (n := c1 * 131 + c2 * 1117) (by omega) (by omega), wrap64_id (n := p * 29) (by omega) (by omega), wrap64_id (n := c1 * 131 + c2 * 1117 + p * 29) (by omega) (by omega), wrap64_id (n := c3 * 53) (by omega) (by omega),
          wrap64_id (n := c1 * 131 + c2 * 1117 + p * 29 + c3 * 53) (by omega) (by omega)]
        refine ht _ (xor64 (by omega) (by omega) ?_ ?_)
        · rw [Int.tdiv_eq_ediv_of_nonneg (by omega), wrap64_id (by omega) (by omega)]; omega
        · rw [Int.tdiv_eq_ediv_of_nonneg (by omega), wrap64_id (by omega) (by omega)]; omega

def Num (p m : Int) (r : Int × Int) : Prop := (-2147483648 ≤ r.1 ∧ r.1 ≤ 2147483647) ∧ p ≤ r.2 ∧ r.2 ≤ p + m
theorem num_loop {b : List Int} (hb : ∀ x ∈ b, 0 ≤ x ∧ x ≤ 255) (hl : b.length ≤ 2000) (d : Nat) : ∀ (v i p : Int), 0 ≤ i → i ≤ 4 → 4 - i = d → 0 ≤ p → p + d ≤ 999000 → W (fun k => spec_l1Rd_num.l0 k v i b p) (Num p d) := by
  induction d with
  | zero =>
    intro v i p h0 h1 hd hp hq
    refine W.step (fun k => by simp only [spec_l1Rd_num.l0]; rfl) ?_
    refine W.neg (by omega) ?_
    by_cases hv : -9223372036854775808 ≤ v ∧ v ≤ 9223372036854775807
    · refine W.bind (W.const (sNumWrap v hv.1 hv.2) rfl) ?_
      rintro _ rfl
      exact W.ret ⟨wrap32_ok v, by simp only; omega, by simp only; omega⟩
    · have he : spec_NumWrap.f v = spec_NumWrap.f v := rfl
      obtain ⟨r, hr, ho⟩ : ∃ r, spec_NumWrap.f v = some r ∧ (-2147483648 ≤ r ∧ r ≤ 2147483647) := by
        simp only [spec_NumWrap.f, spec_l1Mod.f]
        have e := tmod_up (n := v) (m := 4294967296) (by omega)
        have b := tmod_bounds (n := v) (m := 4294967296) (by omega)
        rw [if_neg (by omega)]
        by_cases hn : v.tmod 4294967296 < 0
        · rw [if_pos hn] at e ⊢
          rw [wrap64_id (by omega) (by omega), e]
          simp only [Option.bind_some]
          by_cases hm : v % 4294967296 > 2147483647
          · rw [if_pos hm]; exact ⟨_, rfl, by rw [wrap64_id (by omega) (by omega)]; omega⟩
          · rw [if_neg hm]; exact ⟨_, rfl, by omega⟩
        · rw [if_neg hn] at e ⊢
          rw [e]
          simp only [Option.bind_some]
          by_cases hm : v % 4294967296 > 2147483647
          · rw [if_pos hm]; exact ⟨_, rfl, by rw [wrap64_id (by omega) (by omega)]; omega⟩
          · rw [if_neg hm]; exact ⟨_, rfl, by omega⟩
      refine W.bind (W.const hr rfl) ?_
      rintro _ rfl
      exact W.ret ⟨ho, by simp only; omega, by simp only; omega⟩
  | succ d ih =>
    intro v i p h0 h1 hd hp hq
    refine W.step (fun k => by simp only [spec_l1Rd_num.l0]; rfl) ?_
    refine W.pos (by omega) ?_
    refine W.bind (pick_ok hb hl p 256 hp (by omega)) ?_
    rintro ⟨c, q⟩ ⟨rfl, _⟩
    rw [wrap64_id (n := i + 1) (by omega) (by omega)]
    refine (ih _ (i + 1) (p + 1) (by omega) (by omega) (by omega) (by omega) (by omega)).mono ?_
    rintro r ⟨h1, h2, h3⟩
    exact ⟨h1, by omega, by omega⟩
theorem num_ok {b : List Int} (hb : ∀ x ∈ b, 0 ≤ x ∧ x ≤ 255) (hl : b.length ≤ 2000) (p : Int) (hp : 0 ≤ p) (hq : p ≤ 900000) : W (fun k => spec_l1Rd_num.f k b p) (Num p 6) := by
  unfold spec_l1Rd_num.f
  refine W.bind (pick_ok hb hl p 10 hp (by omega)) ?_
  rintro ⟨c, q⟩ ⟨rfl, _⟩
  simp only
  refine W.ite (fun _ => ?_) (fun _ => W.ite (fun _ => ?_) (fun _ => W.ite (fun _ => ?_) (fun _ => W.ite (fun _ => ?_) (fun _ => W.ite (fun _ => ?_) (fun _ => ?_)))))
  · refine W.bind (pick_ok hb hl (p + 1) 21 (by omega) (by omega)) ?_
    rintro ⟨c, q⟩ ⟨rfl, h⟩
    have h := h (by omega)
    simp only at h
    exact W.ret ⟨by simp only; rw [wrap64_id (by omega) (by omega)]; omega, by simp only; omega, by simp only; omega⟩
  · refine W.bind (pick_ok hb hl (p + 1) 3 (by omega) (by omega)) ?_
    rintro ⟨c, q⟩ ⟨rfl, h⟩
    have h := h (by omega)
    simp only at h
    exact W.ret ⟨by simp only; rw [wrap64_id (by omega) (by omega)]; omega, by simp only; omega, by simp only; omega⟩
  · refine W.bind (pick_ok hb hl (p + 1) 3 (by omega) (by omega)) ?_
    rintro ⟨c, q⟩ ⟨rfl, h⟩
    have h := h (by omega)
    simp only at h
    exact W.ret ⟨by simp only; rw [wrap64_id (by omega) (by omega)]; omega, by simp only; omega, by simp only; omega⟩
  · refine W.bind (pick_ok hb hl (p + 1) 31 (by omega) (by omega)) ?_
    rintro ⟨c, q⟩ ⟨rfl, h⟩
    have h := h (by omega)
    simp only at h
    refine W.bind (power_ok c (by omega) (by omega)) ?_
    rintro _ rfl
    have hp1 : (2 : Int) ^ c.toNat ≤ 2 ^ 30 := pow_mono (by omega)
    have hp2 := pow_pos' c.toNat
    refine W.bind (pick_ok hb hl (p + 1 + 1) 3 (by omega) (by omega)) ?_
    rintro ⟨c2, q⟩ ⟨rfl, h⟩
    have h := h (by omega)
    simp only at h
    refine W.ret ⟨?_, by simp only; omega, by simp only; omega⟩
    simp only
    rw [wrap64_id (n := 2 ^ c.toNat + c2) (by omega) (by omega), wrap64_id (by omega) (by omega)]; omega
  · refine W.bind (pick_ok hb hl (p + 1) 31 (by omega) (by omega)) ?_
    rintro ⟨c, q⟩ ⟨rfl, h⟩
    have h := h (by omega)
    simp only at h
    refine W.bind (power_ok c (by omega) (by omega)) ?_
    rintro _ rfl
    have hp1 : (2 : Int) ^ c.toNat ≤ 2 ^ 30 := pow_mono (by omega)
    have hp2 := pow_pos' c.toNat
    refine W.bind (pick_ok hb hl (p + 1 + 1) 3 (by omega) (by omega)) ?_
    rintro ⟨c2, q⟩ ⟨rfl, h⟩
    have h := h (by omega)
    simp only at h
    refine W.ret ⟨?_, by simp only; omega, by simp only; omega⟩
    simp only
    rw [wrap64_id (n := -2 ^ c.toNat) (by omega) (by omega), wrap64_id (n := -2 ^ c.toNat + c2) (by omega) (by omega), wrap64_id (by omega) (by omega)]; omega
  · refine (num_loop hb hl 4 0 0 (p + 1) (by omega) (by omega) (by omega) (by omega) (by omega)).mono ?_
    rintro r ⟨h1, h2, h3⟩
    exact ⟨h1, by omega, by omega⟩
theorem open_ok (code : List Int) (hb : ∀ x ∈ code, (Lit.int .u8 x).wf = true) : ∃ b, spec_l1Open.f code = some (b, 0) ∧ b.length ≤ 2000 ∧ ∀ x ∈ b, 0 ≤ x ∧ x ≤ 255 := by
  unfold spec_l1Open.f
  by_cases h : (code.length : Int) > 2000
  · rw [if_pos h, if_pos (by omega)]
    exact ⟨_, rfl, by simp; omega, fun x hx => u8_wf (hb x (List.mem_of_mem_take hx))⟩
  · rw [if_neg h]
    exact ⟨_, rfl, by omega, fun x hx => u8_wf (hb x hx)⟩

/-! ### what an operator makes of two numbers -/
def exactV (op a b : Int) : Int :=
  if op = 1 ∨ op = 11 then a + b else if op = 2 ∨ op = 12 then a - b else if op = 3 ∨ op = 13 then a * b else if op = 4 then a.tdiv b else if op = 5 then a.tmod b
  else if op = 6 then s32 (u32 a &&& u32 b) else if op = 7 then s32 (u32 a ||| u32 b) else if op = 8 then s32 (u32 a ^^^ u32 b) else if op = 9 then a * 2 ^ b.toNat else if op = 10 then a / 2 ^ b.toNat else 0
theorem mul_bound {a b : Int} (ha : -2147483648 ≤ a ∧ a ≤ 2147483647) (hb : -2147483648 ≤ b ∧ b ≤ 2147483647) : -4611686018427387904 ≤ a * b ∧ a * b ≤ 4611686018427387904 := by
  have h : (a * b).natAbs ≤ 2147483648 * 2147483648 := by
    rw [Int.natAbs_mul]; exact Nat.mul_le_mul (by omega) (by omega)
  omega
theorem mul_bound2 {a b : Int} (ha : -2147483648 ≤ a ∧ a ≤ 2147483647) (hb : 0 ≤ b ∧ b ≤ 2147483648) : -4611686018427387904 ≤ a * b ∧ a * b ≤ 4611686018427387904 := by
  have h : (a * b).natAbs ≤ 2147483648 * 2147483648 := by
    rw [Int.natAbs_mul]; exact Nat.mul_le_mul (by omega) (by omega)
  omega
theorem pow31 {b : Int} (h : b ≤ 31) : (2 : Int) ^ b.toNat ≤ 2147483648 := pow_mono (b := 31) (by omega)
theorem tdiv_bound {a b : Int} (ha : -2147483648 ≤ a ∧ a ≤ 2147483647) : -2147483648 ≤ a.tdiv b ∧ a.tdiv b ≤ 2147483648 := by
  have h : (a.tdiv b).natAbs ≤ a.natAbs := by rw [Int.natAbs_tdiv]; exact Nat.div_le_self _ _
  omega
theorem u64_small {i : Int} (h0 : 0 ≤ i) (h1 : i ≤ 1000) : IntKind.u64.wrap i = i := by
  simp [IntKind.wrap, IntKind.bits, IntKind.signed]; omega
theorem i64wrap {n : Int} (h0 : -9223372036854775808 ≤ n) (h1 : n ≤ 9223372036854775807) : IntKind.i64.wrap n = n := by
  simp [IntKind.wrap, IntKind.bits, IntKind.signed]; omega
theorem shl_id {x i : Int} (h0 : 0 ≤ i) (h1 : i ≤ 63) (hx : -9223372036854775808 ≤ x * 2 ^ i.toNat) (hy : x * 2 ^ i.toNat ≤ 9223372036854775807) : shl .i64 x i = x * 2 ^ i.toNat := by
  unfold shl
  rw [show min i.toNat IntKind.i64.bits = i.toNat by simp [IntKind.bits]; omega]
  exact i64wrap hx hy
theorem shr_id {x i : Int} (h0 : 0 ≤ i) (h1 : i ≤ 63) : shr .i64 x i = x / 2 ^ i.toNat := by
  unfold shr
  rw [show min i.toNat IntKind.i64.bits = i.toNat by simp [IntKind.bits]; omega]
/-- What the quotients, rests and shifts ask ahead. -/
def Fit (op b : Int) : Prop := (op = 4 ∨ op = 5 → b ≠ 0) ∧ (op = 9 ∨ op = 10 → 0 ≤ b ∧ b ≤ 31)
theorem ops {op : Int} (h : 1 ≤ op) (h1 : op ≤ 13) : op = 1 ∨ op = 2 ∨ op = 3 ∨ op = 4 ∨ op = 5 ∨ op = 6 ∨ op = 7 ∨ op = 8 ∨ op = 9 ∨ op = 10 ∨ op = 11 ∨ op = 12 ∨ op = 13 := by omega
theorem iExact {op a b : Int} (h : 1 ≤ op) (h1 : op ≤ 13) (ha : -2147483648 ≤ a ∧ a ≤ 2147483647) (hb : -2147483648 ≤ b ∧ b ≤ 2147483647) (hf : Fit op b) : W (fun k => impl_numExact.f k op a b) (· = exactV op a b) := by
  refine ⟨_, rfl, 3, fun k hk => ?_⟩
  obtain ⟨m, rfl⟩ : ∃ m, k = m + 3 := ⟨k - 3, by omega⟩
  obtain ⟨f1, f2⟩ := hf
  rcases ops h h1 with rfl | rfl | rfl | rfl | rfl | rfl | rfl | rfl | rfl | rfl | rfl | rfl | rfl
  · simp [impl_numExact.f, impl_numExact.j0, exactV]; exact wrap64_id (by omega) (by omega)
  · simp [impl_numExact.f, impl_numExact.j0, impl_numExact.j1, exactV]; exact wrap64_id (by omega) (by omega)
  · have := mul_bound ha hb; simp [impl_numExact.f, impl_numExact.j0, impl_numExact.j1, impl_numExact.j2, exactV]; exact wrap64_id (by omega) (by omega)
  · have := tdiv_bound (b := b) ha; have := f1 (by omega); simp [impl_numExact.f, impl_numExact.j0, impl_numExact.j1, impl_numExact.j2, exactV, this]; exact wrap64_id (by omega) (by omega)
  · have := f1 (by omega); simp [impl_numExact.f, impl_numExact.j0, impl_numExact.j1, impl_numExact.j2, exactV, this]
  · simp [impl_numExact.f, impl_numExact.j0, impl_numExact.j1, impl_numExact.j2, exactV]; exact bits_and ha.1 ha.2 hb.1 hb.2
  · simp [impl_numExact.f, impl_numExact.j0, impl_numExact.j1, impl_numExact.j2, exactV]; exact bits_or ha.1 ha.2 hb.1 hb.2
  · simp [impl_numExact.f, impl_numExact.j0, impl_numExact.j1, impl_numExact.j2, exactV]; exact bits_xor ha.1 ha.2 hb.1 hb.2
  · have hb' := f2 (by omega)
    have hw := u64_small hb'.1 (by omega)
    have hp := mul_bound2 ha ⟨Int.le_of_lt (pow_pos' b.toNat), pow31 hb'.2⟩
    simp [impl_numExact.f, impl_numExact.j0, impl_numExact.j1, impl_numExact.j2, exactV, hw, hb'.1]; exact shl_id hb'.1 (by omega) (by omega) (by omega)
  · have hb' := f2 (by omega)
    have hw := u64_small hb'.1 (by omega)
    simp [impl_numExact.f, impl_numExact.j0, impl_numExact.j1, impl_numExact.j2, exactV, hw, hb'.1]; exact shr_id hb'.1 (by omega)
  · simp [impl_numExact.f, impl_numExact.j0, exactV]; exact wrap64_id (by omega) (by omega)
  · simp [impl_numExact.f, impl_numExact.j0, impl_numExact.j1, exactV]; exact wrap64_id (by omega) (by omega)
  · have := mul_bound ha hb; simp [impl_numExact.f, impl_numExact.j0, impl_numExact.j1, impl_numExact.j2, exactV]; exact wrap64_id (by omega) (by omega)

theorem nsMod {a : Int} (m : Int) (h0 : 0 < m) (h1 : m ≤ 4294967296) : spec_l1Mod.f a m = some (a % m) := by
  simp only [spec_l1Mod.f]
  have e := tmod_up (n := a) (m := m) h0
  have b := tmod_bounds (n := a) (m := m) h0
  rw [if_neg (by omega)]
  by_cases hn : a.tmod m < 0
  · rw [if_pos hn] at e ⊢
    rw [wrap64_id (by omega) (by omega), e]
  · rw [if_neg hn] at e ⊢
    rw [e]
theorem u32_cast (a : Int) : a % 4294967296 = (u32 a : Int) := by unfold u32; omega
theorem bit_cast (A n : Nat) : Int.tmod ((A : Int) / 2 ^ n) 2 = ((A / 2 ^ n % 2 : Nat) : Int) := by
  have : (A : Int) / 2 ^ n = ((A / 2 ^ n : Nat) : Int) := by norm_cast
  rw [this, Int.tmod_eq_emod_of_nonneg (Int.natCast_nonneg _)]; norm_cast
theorem bits_step {X n z : Nat} (hX : X < 4294967296) (hn : n < 32) (hz : X / 2 ^ n % 2 = z) : wrap64 (((X % 2 ^ n : Nat) : Int) + shl .i64 (z : Int) (n : Int)) = ((X % 2 ^ (n + 1) : Nat) : Int) := by
  have hz2 : z < 2 := by omega
  have h1 : X % 2 ^ (n + 1) ≤ X := Nat.mod_le _ _
  have e := mod_succ X n
  rw [hz] at e
  have hp : (2 : Nat) ^ n ≤ 2 ^ 31 := Nat.pow_le_pow_right (by omega) (by omega)
  have hs : (z : Int) * 2 ^ ((n : Int)).toNat = ((2 ^ n * z : Nat) : Int) := by
    rw [Int.toNat_natCast, Nat.mul_comm]; norm_cast
  have hb : 2 ^ n * z ≤ 2 ^ 31 * 1 := Nat.mul_le_mul hp (by omega)
  rw [shl_id (by omega) (by omega) (by rw [hs]; omega) (by rw [hs]; omega), hs, wrap64_id (by omega) (by omega)]
  omega
theorem sNumWrap_s32 {X : Nat} (h : X < 4294967296) : spec_NumWrap.f (X : Int) = some (s32 X) := by
  rw [sNumWrap _ (by omega) (by omega)]
  congr 1; unfold wrap32 s32; split <;> omega
theorem bits_loop {op a b : Int} {X : Nat} (hop : op = 6 ∨ op = 7 ∨ op = 8)
    (hX : X = if op = 6 then u32 a &&& u32 b else if op = 7 then u32 a ||| u32 b else u32 a ^^^ u32 b) (d : Nat) : ∀ n : Nat, n ≤ 32 → 32 - n = d → W (fun k => spec_l1Bits.l0 k op a b ((X % 2 ^ n : Nat) : Int) (n : Int)) (· = s32 X) := by
  have hA := u32_lt a
  have hB := u32_lt b
  have hXl : X < 4294967296 := by
    rw [hX]; split
    · exact and_lt hA
    · split
      · exact or_lt hA hB
      · exact xor_lt hA hB
  induction d with
  | zero =>
    intro n hn hd
    obtain rfl : n = 32 := by omega
    refine W.step (fun k => by simp only [spec_l1Bits.l0]; rfl) ?_
    refine W.neg (by omega) ?_
    rw [Nat.mod_eq_of_lt (show X < 2 ^ 32 from hXl)]
    refine W.bind (W.const (sNumWrap_s32 hXl) rfl) ?_
    rintro _ rfl
    exact W.ret rfl
  | succ d ih =>
    intro n hn hd
    have ih' := ih (n + 1) (by omega) (by omega)
    have ei : wrap64 ((n : Int) + 1) = ((n + 1 : Nat) : Int) := by rw [wrap64_id (by omega) (by omega)]; omega
    have hu : IntKind.u64.wrap (n : Int) = (n : Int) := u64_small (by omega) (by omega)
    have hsr : ∀ A : Nat, Int.tmod (shr .i64 (A : Int) (n : Int)) 2 = ((A / 2 ^ n % 2 : Nat) : Int) := fun A => by rw [shr_id (by omega) (by omega), Int.toNat_natCast]; exact bit_cast A n
    refine W.step (fun k => by simp only [spec_l1Bits.l0]; rfl) ?_
    refine W.pos (by omega) ?_
    refine W.bind (W.const (nsMod (a := a) 4294967296 (by omega) (by omega)) rfl) ?_
    rintro _ rfl
    rw [hu, u32_cast a]
    refine W.pos (by omega) ?_
    refine W.bind (W.const (nsMod (a := b) 4294967296 (by omega) (by omega)) rfl) ?_
    rintro _ rfl
    rw [u32_cast b, hsr, hsr, ei]
    have za := Nat.mod_two_eq_zero_or_one (u32 a / 2 ^ n); have zb := Nat.mod_two_eq_zero_or_one (u32 b / 2 ^ n)
    rcases hop with rfl | rfl | rfl
    · refine W.neg (by decide) (W.neg (by decide) ?_)
      have hz := bit_and (u32 a) (u32 b) n
      simp only [if_true] at hX
      rw [← hX] at hz
      rw [show wrap64 (((u32 a / 2 ^ n % 2 : Nat) : Int) * ((u32 b / 2 ^ n % 2 : Nat) : Int)) = (((u32 a / 2 ^ n % 2) * (u32 b / 2 ^ n % 2) : Nat) : Int) by
        rcases za with h | h <;> rcases zb with g | g <;> rw [h, g] <;> simp [wrap64], bits_step hXl (by omega) hz]
      exact ih'
    · refine W.pos rfl ?_
      have hz := bit_or (u32 a) (u32 b) n
      simp only [if_true, show ¬ (7 : Int) = 6 by decide, if_false] at hX
      rw [← hX] at hz
      rw [show wrap64 (wrap64 (((u32 a / 2 ^ n % 2 : Nat) : Int) + ((u32 b / 2 ^ n % 2 : Nat) : Int)) - wrap64 (((u32 a / 2 ^ n % 2 : Nat) : Int) * ((u32 b / 2 ^ n % 2 : Nat) : Int))) = (((u32 a / 2 ^ n % 2) + (u32 b / 2 ^ n % 2) - (u32 a / 2 ^ n % 2) * (u32 b / 2 ^ n % 2) : Nat) : Int) by
        rcases za with h | h <;> rcases zb with g | g <;> rw [h, g] <;> simp [wrap64], bits_step hXl (by omega) hz]
      exact ih'
    · refine W.neg (by decide) (W.pos rfl ?_)
      have hz := bit_xor (u32 a) (u32 b) n
      simp only [show ¬ (8 : Int) = 6 by decide, show ¬ (8 : Int) = 7 by decide, if_false] at hX
      rw [← hX] at hz
      rw [show Int.tmod (wrap64 (((u32 a / 2 ^ n % 2 : Nat) : Int) + ((u32 b / 2 ^ n % 2 : Nat) : Int))) 2 = ((((u32 a / 2 ^ n % 2) + (u32 b / 2 ^ n % 2)) % 2 : Nat) : Int) by
        rcases za with h | h <;> rcases zb with g | g <;> rw [h, g] <;> simp [wrap64], bits_step hXl (by omega) hz]
      exact ih'
theorem sBits {op a b : Int} (hop : op = 6 ∨ op = 7 ∨ op = 8) : W (fun k => spec_l1Bits.f k op a b) (· = exactV op a b) := by
  unfold spec_l1Bits.f
  have h := bits_loop (op := op) (a := a) (b := b) hop rfl 32 0 (by omega) (by omega)
  rw [Nat.pow_zero, Nat.mod_one] at h
  refine W.mono h ?_
  rintro _ rfl
  rcases hop with rfl | rfl | rfl <;> simp [exactV]
theorem ediv_bound {a p : Int} (ha : -2147483648 ≤ a ∧ a ≤ 2147483647) (hp : 0 < p) : -2147483648 ≤ a / p ∧ a / p ≤ 2147483647 := by
  constructor
  · rw [Int.le_ediv_iff_mul_le hp]
    have := Int.mul_le_mul_of_nonpos_left (a := -2147483648) (by omega) (show (1 : Int) ≤ p by omega)
    omega
  · rcases Int.le_total 0 a with h | h
    · have := Int.ediv_le_self p h; omega
    · have := Int.ediv_le_ediv hp h; simp at this; omega
theorem floor_eq {a p : Int} (hp : 0 < p) : (a - a % p).tdiv p = a / p := by
  have := Int.mul_ediv_add_emod a p
  rw [show a - a % p = p * (a / p) by omega, Int.mul_tdiv_cancel_left _ (by omega)]
theorem sExact {op a b : Int} (h : 1 ≤ op) (h1 : op ≤ 13) (ha : -2147483648 ≤ a ∧ a ≤ 2147483647) (hb : -2147483648 ≤ b ∧ b ≤ 2147483647) (hf : Fit op b) : W (fun k => spec_l1Exact.f k op a b) (· = exactV op a b) := by
  obtain ⟨f1, f2⟩ := hf
  have st : ∀ {g : Nat → Option Int} (r : Int) (m : Nat), (∀ k, g (k + m) = some r) → W g (· = r) := fun r m hg => ⟨r, rfl, m, fun k hk => by obtain ⟨q, rfl⟩ : ∃ q, k = q + m := ⟨k - m, by omega⟩; exact hg q⟩
  rcases ops h h1 with rfl | rfl | rfl | rfl | rfl | rfl | rfl | rfl | rfl | rfl | rfl | rfl | rfl
  · refine st _ 3 fun k => ?_; simp [spec_l1Exact.f, spec_l1Exact.j0, exactV]; exact wrap64_id (by omega) (by omega)
  · refine st _ 3 fun k => ?_; simp [spec_l1Exact.f, spec_l1Exact.j0, spec_l1Exact.j1, exactV]; exact wrap64_id (by omega) (by omega)
  · have := mul_bound ha hb; refine st _ 3 fun k => ?_; simp [spec_l1Exact.f, spec_l1Exact.j0, spec_l1Exact.j1, spec_l1Exact.j2, exactV]; exact wrap64_id (by omega) (by omega)
  · have := tdiv_bound (b := b) ha; have := f1 (by omega); refine st _ 3 fun k => ?_; simp [spec_l1Exact.f, spec_l1Exact.j0, spec_l1Exact.j1, spec_l1Exact.j2, exactV, this]; exact wrap64_id (by omega) (by omega)
  · have := f1 (by omega); refine st _ 3 fun k => ?_; simp [spec_l1Exact.f, spec_l1Exact.j0, spec_l1Exact.j1, spec_l1Exact.j2, exactV, this]
  · refine W.steps 3 (fun k => by simp only [spec_l1Exact.f, spec_l1Exact.j0, spec_l1Exact.j1, spec_l1Exact.j2]; rfl) ?_
    refine W.bind (sBits (by omega)) ?_
    rintro _ rfl
    exact W.ret rfl
  · refine W.steps 3 (fun k => by simp only [spec_l1Exact.f, spec_l1Exact.j0, spec_l1Exact.j1, spec_l1Exact.j2]; rfl) ?_
    refine W.bind (sBits (by omega)) ?_
    rintro _ rfl
    exact W.ret rfl
  · refine W.steps 3 (fun k => by simp only [spec_l1Exact.f, spec_l1Exact.j0, spec_l1Exact.j1, spec_l1Exact.j2]; rfl) ?_
    refine W.bind (sBits (by omega)) ?_
    rintro _ rfl
    exact W.ret rfl
  · have hb' := f2 (by omega)
    have hp := mul_bound2 ha ⟨Int.le_of_lt (pow_pos' b.toNat), pow31 hb'.2⟩
    refine W.steps 3 (fun k => by simp only [spec_l1Exact.f, spec_l1Exact.j0, spec_l1Exact.j1, spec_l1Exact.j2]; rfl) ?_
    refine W.bind (power_ok b hb'.1 (by omega)) ?_
    rintro _ rfl
    exact W.ret (by rw [wrap64_id (by omega) (by omega)]; simp [exactV])
  · have hb' := f2 (by omega)
    have hq := pow_pos' b.toNat
    have hp := pow31 hb'.2
    have he := ediv_bound (p := 2 ^ b.toNat) ha hq
    have hm0 := Int.emod_nonneg a (show (2 : Int) ^ b.toNat ≠ 0 by omega)
    have hm1 := Int.emod_lt_of_pos a hq
    refine W.steps 3 (fun k => by simp only [spec_l1Exact.f, spec_l1Exact.j0, spec_l1Exact.j1, spec_l1Exact.j2]; rfl) ?_
    refine W.bind (power_ok b hb'.1 (by omega)) ?_
    rintro _ rfl
    refine W.bind (W.const (r := a / 2 ^ b.toNat) (by
      simp only [spec_l1Floor.f]
      rw [nsMod _ hq (by omega)]
      simp only [Option.bind_some]
      rw [if_neg (by omega), wrap64_id (n := a - a % 2 ^ b.toNat) (by omega) (by omega), floor_eq hq, wrap64_id (by omega) (by omega)]) rfl) ?_
    rintro _ rfl
    exact W.ret (by simp [exactV])
  · refine st _ 3 fun k => ?_; simp [spec_l1Exact.f, spec_l1Exact.j0, exactV]; exact wrap64_id (by omega) (by omega)
  · refine st _ 3 fun k => ?_; simp [spec_l1Exact.f, spec_l1Exact.j0, spec_l1Exact.j1, exactV]; exact wrap64_id (by omega) (by omega)
  · have := mul_bound ha hb; refine st _ 3 fun k => ?_; simp [spec_l1Exact.f, spec_l1Exact.j0, spec_l1Exact.j1, spec_l1Exact.j2, exactV]; exact wrap64_id (by omega) (by omega)

theorem nsNumOk (v : Int) : spec_NumOk.f v = some (decide (-2147483648 ≤ v ∧ v ≤ 2147483647)) := by
  simp only [spec_NumOk.f, spec_l1In.f]
  by_cases h : v ≥ -2147483648 <;> simp [h]
theorem niNumOk (v : Int) : impl_NumOk.f v = some (decide (-2147483648 ≤ v ∧ v ≤ 2147483647)) := by
  simp only [impl_NumOk.f]
  by_cases h : v ≥ -2147483648 <;> simp [h]
theorem nsIn (v a b : Int) : spec_l1In.f v a b = some (decide (a ≤ v ∧ v ≤ b)) := by
  simp only [spec_l1In.f]
  by_cases h : v ≥ a <;> simp [h]
theorem iNumOp (v : Int) : impl_numOp.f v = some (decide (1 ≤ v ∧ v ≤ 13)) := by
  simp only [impl_numOp.f]
  by_cases h : v ≥ 1 <;> simp [h]
theorem iNumWrap (v : Int) : impl_NumWrap.f v = some (wrap32 v) := by
  simp only [impl_NumWrap.f]
  have := wrap32_ok v
  rw [wrap64_id (by omega) (by omega)]
def numDo (op a b : Int) : Int × Int :=
  if ¬ (1 ≤ op ∧ op ≤ 13) ∨ ¬ (-2147483648 ≤ a ∧ a ≤ 2147483647) ∨ ¬ (-2147483648 ≤ b ∧ b ≤ 2147483647) then (0, 0)
  else if (op = 4 ∨ op = 5) ∧ b = 0 then (0, 2)
  else if (op = 9 ∨ op = 10) ∧ ¬ (0 ≤ b ∧ b ≤ 31) then (0, 3)
  else if op ≥ 11 then (wrap32 (exactV op a b), 0)
  else if -2147483648 ≤ exactV op a b ∧ exactV op a b ≤ 2147483647 then (exactV op a b, 0) else (0, 1)
theorem exact_i64 {op a b : Int} (ha : -2147483648 ≤ a ∧ a ≤ 2147483647) (hb : -2147483648 ≤ b ∧ b ≤ 2147483647) (hf : Fit op b) : -9223372036854775808 ≤ exactV op a b ∧ exactV op a b ≤ 9223372036854775807 := by
  unfold exactV
  have h1 := mul_bound ha hb
  have h2 := tdiv_bound (b := b) ha
  have h3 : -2147483648 ≤ a.tmod b ∧ a.tmod b ≤ 2147483647 := by
    have h : (a.tmod b).natAbs ≤ a.natAbs := by rw [Int.natAbs_tmod]; exact Nat.mod_le _ _
    rcases Int.le_total 0 a with g | g
    · have := Int.tmod_nonneg b g
      omega
    · have := Int.tmod_nonneg b (show 0 ≤ -a by omega)
      rw [Int.neg_tmod] at this
      omega
  have h4 := s32_ok (and_lt (A := u32 a) (B := u32 b) (u32_lt a)); have h5 := s32_ok (or_lt (u32_lt a) (u32_lt b)); have h6 := s32_ok (xor_lt (u32_lt a) (u32_lt b))
  split
  · omega
  split
  · omega
  split
  · omega
  split
  · omega
  split
  · omega
  split
  · omega
  split
  · omega
  split
  · omega
  split
  · rename_i h
    have := hf.2 (by omega)
    have := mul_bound2 ha ⟨Int.le_of_lt (pow_pos' b.toNat), pow31 this.2⟩
    omega
  split
  · have := ediv_bound (p := 2 ^ b.toNat) ha (pow_pos' _)
    omega
  · omega
theorem numDo_main {op a b : Int} (h : 1 ≤ op ∧ op ≤ 13) (ha : -2147483648 ≤ a ∧ a ≤ 2147483647) (hb : -2147483648 ≤ b ∧ b ≤ 2147483647) (hf : Fit op b) : numDo op a b = if op ≥ 11 then (wrap32 (exactV op a b), 0) else if -2147483648 ≤ exactV op a b ∧ exactV op a b ≤ 2147483647 then (exactV op a b, 0) else (0, 1) := by
  unfold numDo
  rw [if_neg (by omega), if_neg (fun hc => hf.1 hc.1 hc.2), if_neg (fun hc => hc.2 (hf.2 hc.1))]
theorem iNumDo_tail {op a b : Int} (h : 1 ≤ op ∧ op ≤ 13) (ha : -2147483648 ≤ a ∧ a ≤ 2147483647) (hb : -2147483648 ≤ b ∧ b ≤ 2147483647) (hf : Fit op b) : W (fun k => impl_NumDo.j3 k op a b) (· = numDo op a b) := by
  have hd : numDo op a b = if op ≥ 11 then (wrap32 (exactV op a b), 0) else if -2147483648 ≤ exactV op a b ∧ exactV op a b ≤ 2147483647 then (exactV op a b, 0) else (0, 1) := by
    unfold numDo
    rw [if_neg (by omega), if_neg (fun hc => hf.1 hc.1 hc.2), if_neg (fun hc => hc.2 (hf.2 hc.1))]
  rw [hd]
  refine W.step (fun k => by simp only [impl_NumDo.j3]; rfl) ?_
  refine W.bind (iExact h.1 h.2 ha hb hf) ?_
  rintro _ rfl
  have hw : ∀ c : Int, op ≥ 11 → W (fun k => impl_NumDo.j4 k (exactV op a b) true) (· = if op ≥ 11 then (wrap32 (exactV op a b), 0) else if -2147483648 ≤ exactV op a b ∧ exactV op a b ≤ 2147483647 then (exactV op a b, 0) else (0, 1)) := by
    intro c hop
    refine W.step (fun k => by simp only [impl_NumDo.j4, iNumWrap, Option.bind_some]; rfl) ?_
    exact W.pos (by trivial) (W.ret (by rw [if_pos hop]))
  by_cases h1 : op = 11
  · refine W.pos h1 ?_
    rw [show (op == 11) = true by simpa using h1]; exact hw 0 (by omega)
  refine W.neg h1 ?_
  by_cases h2 : op = 12
  · refine W.pos h2 ?_
    rw [show (op == 12) = true by simpa using h2]; exact hw 0 (by omega)
  refine W.neg h2 ?_
  by_cases h3 : op = 13
  · rw [show (op == 13) = true by simpa using h3]; exact hw 0 (by omega)
  rw [show (op == 13) = false by simpa using h3]
  refine W.step (fun k => by simp only [impl_NumDo.j4, niNumOk, Option.bind_some]; rfl) ?_
  refine W.neg (by decide) ?_
  rw [if_neg (show ¬ op ≥ 11 by omega)]
  by_cases ho : -2147483648 ≤ exactV op a b ∧ exactV op a b ≤ 2147483647
  · exact W.pos (by simpa using ho) (W.ret (by rw [if_pos ho]))
  · exact W.neg (by simpa using ho) (W.ret (by rw [if_neg ho]))
theorem iNumDo (op a b : Int) : W (fun k => impl_NumDo.f k op a b) (· = numDo op a b) := by
  have bad : ∀ hc : (¬ (1 ≤ op ∧ op ≤ 13) ∨ ¬ (-2147483648 ≤ a ∧ a ≤ 2147483647) ∨ ¬ (-2147483648 ≤ b ∧ b ≤ 2147483647)), W (fun k => impl_NumDo.j0 k op a b true) (· = numDo op a b) := by
    intro hc
    refine W.step (fun k => by simp only [impl_NumDo.j0]; rfl) ?_
    exact W.pos (by trivial) (W.ret (by unfold numDo; rw [if_pos hc]))
  unfold impl_NumDo.f
  simp only [iNumOp, niNumOk, Option.bind_some]
  by_cases h : 1 ≤ op ∧ op ≤ 13
  · refine W.pos (by simpa using h) ?_
    by_cases ha : -2147483648 ≤ a ∧ a ≤ 2147483647
    · refine W.pos (by simpa using ha) ?_
      by_cases hb : -2147483648 ≤ b ∧ b ≤ 2147483647
      · rw [show (!decide (-2147483648 ≤ b ∧ b ≤ 2147483647)) = false by rw [decide_eq_true hb]; rfl]
        refine W.step (fun k => by simp only [impl_NumDo.j0]; rfl) ?_
        refine W.neg (by decide) ?_
        have z1 : (op = 4 ∨ op = 5) → W (fun k => impl_NumDo.j1 k op a b op true) (· = numDo op a b) := by
          intro ho
          refine W.step (fun k => by simp only [impl_NumDo.j1]; rfl) ?_
          refine W.pos (by trivial) ?_
          by_cases hz : b = 0
          · exact W.pos hz (W.ret (by unfold numDo; rw [if_neg (by omega), if_pos ⟨ho, hz⟩]))
          · exact W.neg hz (iNumDo_tail h ha hb ⟨fun _ => hz, fun hc => by omega⟩)
        have z2 : (op = 9 ∨ op = 10) → W (fun k => impl_NumDo.j2 k op a b true) (· = numDo op a b) := by
          intro ho
          refine W.step (fun k => by simp only [impl_NumDo.j2]; rfl) ?_
          refine W.pos (by trivial) ?_
          by_cases h1 : b < 0
          · exact W.pos h1 (W.ret (by unfold numDo; rw [if_neg (by omega), if_neg (by omega), if_pos ⟨ho, by omega⟩]))
          refine W.neg h1 ?_
          by_cases h2 : b > 31
          · exact W.pos h2 (W.ret (by unfold numDo; rw [if_neg (by omega), if_neg (by omega), if_pos ⟨ho, by omega⟩]))
          · exact W.neg h2 (iNumDo_tail h ha hb ⟨fun hc => by omega, fun _ => by omega⟩)
        have z3 : ¬ (op = 4 ∨ op = 5) → W (fun k => impl_NumDo.j1 k op a b op false) (· = numDo op a b) := by
          intro ho
          refine W.step (fun k => by simp only [impl_NumDo.j1]; rfl) ?_
          refine W.neg (by decide) ?_
          by_cases h9 : op = 9
          · refine W.pos h9 ?_
            rw [show (op == 9) = true by simpa using h9]; exact z2 (.inl h9)
          refine W.neg h9 ?_
          by_cases h10 : op = 10
          · rw [show (op == 10) = true by simpa using h10]; exact z2 (.inr h10)
          rw [show (op == 10) = false by simpa using h10]
          refine W.step (fun k => by simp only [impl_NumDo.j2]; rfl) ?_
          exact W.neg (by decide) (iNumDo_tail h ha hb ⟨fun hc => absurd hc ho, fun hc => by omega⟩)
        by_cases h4 : op = 4
        · refine W.pos h4 ?_
          rw [show (op == 4) = true by simpa using h4]; exact z1 (.inl h4)
        refine W.neg h4 ?_
        by_cases h5 : op = 5
        · rw [show (op == 5) = true by simpa using h5]; exact z1 (.inr h5)
        rw [show (op == 5) = false by simpa using h5]
        exact z3 (by omega)
      · rw [show (!decide (-2147483648 ≤ b ∧ b ≤ 2147483647)) = true by rw [decide_eq_false hb]; rfl]
        exact bad (by omega)
    · exact W.neg (by simpa using ha) (bad (by omega))
  · exact W.neg (by simpa using h) (bad (by omega))
theorem sNumDo (op a b : Int) : W (fun k => spec_NumDo.f k op a b) (· = numDo op a b) := by
  have bad : ∀ hc : (¬ (1 ≤ op ∧ op ≤ 13) ∨ ¬ (-2147483648 ≤ a ∧ a ≤ 2147483647) ∨ ¬ (-2147483648 ≤ b ∧ b ≤ 2147483647)), W (fun k => spec_NumDo.j0 k op a b true) (· = numDo op a b) := by
    intro hc
    refine W.step (fun k => by simp only [spec_NumDo.j0]; rfl) ?_
    exact W.pos (by trivial) (W.ret (by unfold numDo; rw [if_pos hc]))
  unfold spec_NumDo.f
  simp only [nsIn, nsNumOk, Option.bind_some]
  by_cases h : 1 ≤ op ∧ op ≤ 13
  · refine W.pos (by simpa using h) ?_
    by_cases ha : -2147483648 ≤ a ∧ a ≤ 2147483647
    · refine W.pos (by simpa using ha) ?_
      by_cases hb : -2147483648 ≤ b ∧ b ≤ 2147483647
      · rw [show (!decide (-2147483648 ≤ b ∧ b ≤ 2147483647)) = false by rw [decide_eq_true hb]; rfl]
        refine W.step (fun k => by simp only [spec_NumDo.j0]; rfl) ?_
        refine W.neg (by decide) ?_
        have z2 : ¬ ((op = 4 ∨ op = 5) ∧ b = 0) → ¬ ((op = 9 ∨ op = 10) ∧ ¬ (0 ≤ b ∧ b ≤ 31)) → W (fun k => spec_NumDo.j2 k op a b false) (· = numDo op a b) := by
          intro h1 h2
          have hf : Fit op b := ⟨fun hc hz => h1 ⟨hc, hz⟩, fun hc => by omega⟩
          have hi := exact_i64 (op := op) ha hb hf
          unfold numDo
          rw [if_neg (by omega), if_neg h1, if_neg h2]
          refine W.step (fun k => by simp only [spec_NumDo.j2, nsNumOk, Option.bind_some]; rfl) ?_
          refine W.neg (by decide) ?_
          refine W.bind (sExact h.1 h.2 ha hb hf) ?_
          rintro _ rfl
          rw [sNumWrap _ hi.1 hi.2]
          simp only [Option.bind_some]
          by_cases h11 : op ≥ 11
          · exact W.pos h11 (W.ret (by rw [if_pos h11]))
          refine W.neg h11 ?_
          rw [if_neg h11]
          by_cases ho : -2147483648 ≤ exactV op a b ∧ exactV op a b ≤ 2147483647
          · exact W.pos (by simpa using ho) (W.ret (by rw [if_pos ho]))
          · exact W.neg (by simpa using ho) (W.ret (by rw [if_neg ho]))
        have z1 : ¬ ((op = 4 ∨ op = 5) ∧ b = 0) → W (fun k => spec_NumDo.j1 k op a b false) (· = numDo op a b) := by
          intro h1
          refine W.step (fun k => by simp only [spec_NumDo.j1, nsIn, Option.bind_some]; rfl) ?_
          refine W.neg (by decide) ?_
          have z3 : (op = 9 ∨ op = 10) → W (fun k => spec_NumDo.j2 k op a b (!decide (0 ≤ b ∧ b ≤ 31))) (· = numDo op a b) := by
            intro ho
            by_cases hs : 0 ≤ b ∧ b ≤ 31
            · rw [show (!decide (0 ≤ b ∧ b ≤ 31)) = false by rw [decide_eq_true hs]; rfl]
              exact z2 h1 (by omega)
            · rw [show (!decide (0 ≤ b ∧ b ≤ 31)) = true by rw [decide_eq_false hs]; rfl]
              refine W.step (fun k => by simp only [spec_NumDo.j2]; rfl) ?_
              exact W.pos (by trivial) (W.ret (by unfold numDo; rw [if_neg (by omega), if_neg h1, if_pos ⟨ho, hs⟩]))
          by_cases h9 : op = 9
          · exact W.pos h9 (z3 (.inl h9))
          refine W.neg h9 ?_
          by_cases h10 : op = 10
          · exact W.pos h10 (z3 (.inr h10))
          exact W.neg h10 (z2 h1 (by omega))
        have z0 : (op = 4 ∨ op = 5) → W (fun k => spec_NumDo.j1 k op a b (b == 0)) (· = numDo op a b) := by
          intro ho
          by_cases hz : b = 0
          · rw [show (b == 0) = true by simpa using hz]
            refine W.step (fun k => by simp only [spec_NumDo.j1]; rfl) ?_
            exact W.pos (by trivial) (W.ret (by unfold numDo; rw [if_neg (by omega), if_pos ⟨ho, hz⟩]))
          · rw [show (b == 0) = false by simpa using hz]
            exact z1 (by omega)
        by_cases h4 : op = 4
        · exact W.pos h4 (z0 (.inl h4))
        refine W.neg h4 ?_
        by_cases h5 : op = 5
        · exact W.pos h5 (z0 (.inr h5))
        exact W.neg h5 (z1 (by omega))
      · rw [show (!decide (-2147483648 ≤ b ∧ b ≤ 2147483647)) = true by rw [decide_eq_false hb]; rfl]
        exact bad (by omega)
    · exact W.neg (by simpa using ha) (bad (by omega))
  · exact W.neg (by simpa using h) (bad (by omega))
theorem numDo_facts (op a b : Int) : (-2147483648 ≤ (numDo op a b).1 ∧ (numDo op a b).1 ≤ 2147483647) ∧ ((numDo op a b).2 = 0 ∨ (numDo op a b).1 = 0) ∧ (0 ≤ (numDo op a b).2 ∧ (numDo op a b).2 ≤ 3) ∧ (op ≥ 11 → (numDo op a b).2 = 0) := by
  unfold numDo
  have hw := wrap32_ok (exactV op a b)
  split
  · simp
  split
  · simp; omega
  split
  · simp; omega
  split
  · simp; omega
  split
  · rename_i h; simp [h]
  · simp; omega
theorem numDo_comm {op : Int} (a b : Int) (h : op = 1 ∨ op = 3 ∨ op = 8) : numDo op b a = numDo op a b := by
  have he : exactV op b a = exactV op a b := by
    rcases h with rfl | rfl | rfl
    · simp only [exactV]; simp; omega
    · simp only [exactV]; simp; exact Int.mul_comm ..
    · simp only [exactV]; simp; rw [Nat.xor_comm]
  by_cases h1 : ¬ (1 ≤ op ∧ op ≤ 13) ∨ ¬ (-2147483648 ≤ a ∧ a ≤ 2147483647) ∨ ¬ (-2147483648 ≤ b ∧ b ≤ 2147483647)
  · unfold numDo; rw [if_pos (by omega), if_pos h1]
  · rw [numDo_main (by omega) (by omega) (by omega) ⟨fun h => by omega, fun h => by omega⟩, numDo_main (a := a) (b := b) (by omega) (by omega) (by omega) ⟨fun h => by omega, fun h => by omega⟩, he]

theorem wild_ok {b : List Int} (hb : ∀ x ∈ b, 0 ≤ x ∧ x ≤ 255) (hl : b.length ≤ 2000) (p : Int) (hp : 0 ≤ p) (hq : p ≤ 800000) : W (fun k => spec_l1Rd_wild.f k b p) (fun r => (-9223372036854775808 ≤ r.1 ∧ r.1 ≤ 9223372036854775807) ∧ p ≤ r.2 ∧ r.2 ≤ p + 7) := by
  unfold spec_l1Rd_wild.f
  refine W.bind (pick_ok hb hl p 12 hp (by omega)) ?_
  rintro ⟨c, q⟩ ⟨rfl, _⟩
  simp only
  refine W.ite (fun _ => ?_) (fun _ => W.ite (fun _ => ?_) (fun _ => W.ite (fun _ => ?_) (fun _ => W.ite (fun _ => ?_) (fun _ => ?_))))
  · refine W.bind (pick_ok hb hl (p + 1) 3 (by omega) (by omega)) ?_
    rintro ⟨c, q⟩ ⟨rfl, _⟩
    exact W.ret ⟨wrap64_ok _, by first | omega | (simp only; omega), by first | omega | (simp only; omega)⟩
  · refine W.bind (pick_ok hb hl (p + 1) 3 (by omega) (by omega)) ?_
    rintro ⟨c, q⟩ ⟨rfl, _⟩
    exact W.ret ⟨wrap64_ok _, by first | omega | (simp only; omega), by first | omega | (simp only; omega)⟩
  · refine W.bind (pick_ok hb hl (p + 1) 2 (by omega) (by omega)) ?_
    rintro ⟨c, q⟩ ⟨rfl, _⟩
    exact W.ret ⟨wrap64_ok _, by first | omega | (simp only; omega), by first | omega | (simp only; omega)⟩
  · refine W.bind (pick_ok hb hl (p + 1) 2 (by omega) (by omega)) ?_
    rintro ⟨c, q⟩ ⟨rfl, _⟩
    exact W.ret ⟨wrap64_ok _, by first | omega | (simp only; omega), by first | omega | (simp only; omega)⟩
  · refine W.bind (num_ok hb hl (p + 1) (by omega) (by omega)) ?_
    rintro ⟨c, q⟩ ⟨h1, h2, h3⟩
    simp only at h1 h2 h3
    exact W.ret ⟨by first | omega | (simp only; omega), by first | omega | (simp only; omega), by first | omega | (simp only; omega)⟩
theorem drawNumDo_ok (code : List Int) (hb : ∀ x ∈ code, (Lit.int .u8 x).wf = true) : W (fun k => spec_DrawNumDo.f k code) (fun _ => True) := by
  obtain ⟨b, ho, hl, hb⟩ := open_ok code hb
  have j2 : ∀ (op a c p : Int), 0 ≤ p → p ≤ 1000 → W (fun k => spec_DrawNumDo.j2 k op a c b p) (fun _ => True) := by
    intro op a c p h0 h1
    refine W.step (fun k => by simp only [spec_DrawNumDo.j2]; rfl) ?_
    refine W.bind (pick_ok hb hl p 20 h0 (by omega)) ?_
    rintro ⟨x, q⟩ ⟨rfl, _⟩
    simp only
    refine W.ite (fun _ => ?_) (fun _ => ?_)
    · refine W.bind (wild_ok hb hl (p + 1) (by omega) (by omega)) ?_
      rintro r -
      exact W.ret trivial
    · refine W.bind (pick_ok hb hl (p + 1) 20 (by omega) (by omega)) ?_
      rintro ⟨x, q⟩ ⟨rfl, _⟩
      simp only
      refine W.ite (fun _ => ?_) (fun _ => W.ret trivial)
      refine W.bind (wild_ok hb hl (p + 1 + 1) (by omega) (by omega)) ?_
      rintro r -
      exact W.ret trivial
  have j1 : ∀ (op a c : Int) (s : Bool) (p : Int), 0 ≤ p → p ≤ 900 → W (fun k => spec_DrawNumDo.j1 k op a c s b p) (fun _ => True) := by
    intro op a c s p h0 h1
    refine W.step (fun k => by simp only [spec_DrawNumDo.j1]; rfl) ?_
    refine W.ite (fun _ => ?_) (fun _ => j2 _ _ _ _ h0 (by omega))
    refine W.bind (pick_ok hb hl p 36 h0 (by omega)) ?_
    rintro ⟨x, q⟩ ⟨rfl, _⟩
    exact j2 _ _ _ _ (by first | omega | (simp only; omega)) (by first | omega | (simp only; omega))
  have j0 : ∀ (op p : Int), 0 ≤ p → p ≤ 800 → W (fun k => spec_DrawNumDo.j0 k op b p) (fun _ => True) := by
    intro op p h0 h1
    refine W.step (fun k => by simp only [spec_DrawNumDo.j0]; rfl) ?_
    refine W.bind (num_ok hb hl p h0 (by omega)) ?_
    rintro ⟨x, q⟩ ⟨_, h2, h3⟩
    simp only at h2 h3
    simp only
    refine W.bind (num_ok hb hl q (by omega) (by omega)) ?_
    rintro ⟨y, q2⟩ ⟨_, h4, h5⟩
    simp only at h4 h5
    simp only
    refine W.ite (fun _ => ?_) (fun _ => ?_)
    · exact j1 _ _ _ _ _ (by omega) (by omega)
    · exact j1 _ _ _ _ _ (by omega) (by omega)
  unfold spec_DrawNumDo.f
  rw [ho]
  simp only [Option.bind_some]
  refine W.bind (pick_ok hb hl 0 13 (by omega) (by omega)) ?_
  rintro ⟨c, q⟩ ⟨rfl, _⟩
  simp only
  refine W.bind (pick_ok hb hl (0 + 1) 30 (by omega) (by omega)) ?_
  rintro ⟨c, q⟩ ⟨rfl, _⟩
  simp only
  refine W.ite (fun _ => ?_) (fun _ => ?_)
  · refine W.bind (pick_ok hb hl (0 + 1 + 1) 16 (by omega) (by omega)) ?_
    rintro ⟨c, q⟩ ⟨rfl, _⟩
    exact j0 _ _ (by first | omega | (simp only; omega)) (by first | omega | (simp only; omega))
  · exact j0 _ _ (by first | omega | (simp only; omega)) (by first | omega | (simp only; omega))

/-! ### ranges: whether they are as they must be -/
def okR (l h : Int) : Prop := (l = 1 ∧ h = 0) ∨ (-2147483648 ≤ l ∧ l ≤ h ∧ h ≤ 2147483647)
instance (l h : Int) : Decidable (okR l h) := by unfold okR; exact inferInstance
theorem iRangeOk (l h : Int) : impl_RangeOk.f l h = some (decide (okR l h)) := by
  simp only [impl_RangeOk.f, impl_rangeNone.f, iNumOk, Option.bind_some]
  by_cases h1 : l = 1 ∧ h = 0
  · obtain ⟨rfl, rfl⟩ := h1; rfl
  · have : (l == 1 && h == 0) = false := by simpa using h1
    rw [this]; simp only [Bool.false_eq_true, if_false, okR, okN]
    by_cases h2 : -2147483648 ≤ l ∧ l ≤ 2147483647
    · by_cases h3 : -2147483648 ≤ h ∧ h ≤ 2147483647
      · simp only [h2, h3, and_self, true_and, and_true, decide_true, if_true]; congr 1; apply decide_eq_decide.2; omega
      · simp only [h2, h3, and_self, decide_true, decide_false, if_true, Bool.false_eq_true, if_false]; congr 1; symm; apply decide_eq_false; omega
    · simp only [h2, decide_false, Bool.false_eq_true, if_false]; congr 1; symm; apply decide_eq_false; omega

/-! ### ranges: cut, joined, met -/
def cut (l h : Int) : Int × Int := if mx l (-2147483648) > mn h 2147483647 then (1, 0) else (mx l (-2147483648), mn h 2147483647)
def isNone (l h : Int) : Prop := l = 1 ∧ h = 0
instance (l h : Int) : Decidable (isNone l h) := by unfold isNone; exact inferInstance
theorem okR_gt {l h : Int} (o : okR l h) : l > h ↔ isNone l h := by unfold okR at o; unfold isNone; omega
theorem bIsNone (l h : Int) : (l == 1 && h == 0) = decide (isNone l h) := by
  rw [Bool.eq_iff_iff, decide_eq_true_iff]; unfold isNone; simp

theorem iFrom (l h : Int) : impl_rangeFrom.f l h = some (cut l h) := by
  unfold impl_rangeFrom.f cut
  simp only [impl_rangeNone.f, Option.bind_some]
  split <;> rfl
theorem cut_ok (l h : Int) : (cut l h = (1, 0)) ∨ ((cut l h).1 ≤ (cut l h).2 ∧ -2147483648 ≤ (cut l h).1 ∧ (cut l h).2 ≤ 2147483647) := by
  unfold cut mx mn
  by_cases h1 : l < -2147483648 <;> by_cases h2 : 2147483647 < h <;> simp only [h1, h2, if_true, if_false] <;> split <;> first | (left; rfl) | (right; simp only; omega)
theorem cut_okR (l h : Int) : okR (cut l h).1 (cut l h).2 := by
  rcases cut_ok l h with e | e
  · rw [e]; exact .inl ⟨rfl, rfl⟩
  · exact .inr ⟨by omega, by omega, by omega⟩

def rmeet (l h l2 h2 : Int) : Int × Int := if ¬ okR l h ∨ ¬ okR l2 h2 ∨ isNone l h ∨ isNone l2 h2 then (1, 0) else cut (mx l l2) (mn h h2)
theorem iRangeMeet (l h l2 h2 : Int) : W (fun k => impl_RangeMeet.f k l h l2 h2) (· = rmeet l h l2 h2) := by
  unfold impl_RangeMeet.f
  simp only [iRangeOk, impl_Range_empty.f, Option.bind_some]
  have bad : ¬ okR l h ∨ ¬ okR l2 h2 ∨ isNone l h ∨ isNone l2 h2 → W (fun k => impl_RangeMeet.j0 k true l h l2 h2) (· = rmeet l h l2 h2) := by
    intro hb
    refine W.step (fun k => by simp only [impl_RangeMeet.j0, impl_rangeNone.f, Option.bind_some]; rfl) ?_
    exact W.pos (by trivial) (W.ret (by unfold rmeet; rw [if_pos hb]))
  refine W.dec (fun h1 => W.dec (fun h3 => W.dec (fun h4 => ?_) (fun h4 => ?_)) (fun h3 => bad (.inr (.inl h3)))) (fun h1 => bad (.inl h1))
  · exact bad (.inr (.inr (.inl ((okR_gt h1).1 h4))))
  · by_cases h5 : l2 > h2
    · rw [decide_eq_true h5]; exact bad (.inr (.inr (.inr ((okR_gt h3).1 h5))))
    · rw [decide_eq_false h5]
      refine W.step (fun k => by simp only [impl_RangeMeet.j0, impl_rangeNone.f, Option.bind_some, iFrom]; rfl) ?_
      exact W.neg (by decide) (W.ret (by unfold rmeet; rw [if_neg (by rw [← okR_gt h1, ← okR_gt h3]; simp only [h1, h3, not_true, false_or]; omega)]))
theorem rmeet_ok (l h l2 h2 : Int) : okR (rmeet l h l2 h2).1 (rmeet l h l2 h2).2 := by
  unfold rmeet
  split
  · exact .inl ⟨rfl, rfl⟩
  · exact cut_okR _ _

def rjoin (l h l2 h2 : Int) : Int × Int := if ¬ okR l h ∨ ¬ okR l2 h2 then (1, 0) else if isNone l h then (l2, h2) else if isNone l2 h2 then (l, h) else (mn l l2, mx h h2)
theorem iRangeJoin (l h l2 h2 : Int) : W (fun k => impl_RangeJoin.f k l h l2 h2) (· = rjoin l h l2 h2) := by
  unfold impl_RangeJoin.f
  simp only [iRangeOk, Option.bind_some]
  have bad : ¬ okR l h ∨ ¬ okR l2 h2 → W (fun k => impl_RangeJoin.j0 k true l h l2 h2) (· = rjoin l h l2 h2) := by
    intro hb
    refine W.step (fun k => by simp only [impl_RangeJoin.j0, impl_rangeNone.f, Option.bind_some]; rfl) ?_
    (try refine W.pos (by trivial) ?_)
    exact W.ret (by unfold rjoin; rw [if_pos hb])
  refine W.dec (fun h1 => ?_) (fun h1 => bad (.inl h1))
  by_cases h3 : okR l2 h2
  · rw [ndt h3]
    refine W.step (fun k => by simp only [impl_RangeJoin.j0, impl_rangeNone.f, impl_Range_empty.f, Option.bind_some]; rfl) ?_
    unfold rjoin
    have hk : ¬ (¬ okR l h ∨ ¬ okR l2 h2) := by simp [h1, h3]
    rw [if_neg hk]
    (try refine W.neg (by decide) ?_)
    refine W.dec (fun h4 => W.ret (by rw [if_pos ((okR_gt h1).1 h4)])) (fun h4 => ?_)
    rw [if_neg (fun hc => h4 ((okR_gt h1).2 hc))]
    exact W.dec (fun h5 => W.ret (by rw [if_pos ((okR_gt h3).1 h5)])) (fun h5 => W.ret (by rw [if_neg (fun hc => h5 ((okR_gt h3).2 hc))]))
  · rw [ndf h3]; exact bad (.inr h3)
theorem rjoin_ok (l h l2 h2 : Int) : okR (rjoin l h l2 h2).1 (rjoin l h l2 h2).2 := by
  unfold rjoin
  split
  · exact .inl ⟨rfl, rfl⟩
  rename_i hb
  have o1 : okR l h := Decidable.byContradiction fun h => hb (.inl h)
  have o2 : okR l2 h2 := Decidable.byContradiction fun h => hb (.inr h)
  split
  · exact o2
  split
  · exact o1
  · rename_i n1 n2
    unfold okR at o1 o2 ⊢; unfold isNone at n1 n2; unfold mn mx
    right; simp only
    split <;> split <;> omega

theorem iRangeHas (l h v : Int) : impl_RangeHas.f l h v = some (decide (okR l h ∧ l ≤ v ∧ v ≤ h)) := by
  simp only [impl_RangeHas.f, iRangeOk, Option.bind_some]
  by_cases h1 : okR l h
  · by_cases h2 : l ≤ v
    · simp [h1, h2]
    · simp [h1, h2]
  · simp [h1]

/-! ### what an operator makes of two ranges: the program's -/
def N32 (a : Int) : Prop := -2147483648 ≤ a ∧ a ≤ 2147483647
instance (v : Int) : Decidable (N32 v) := by unfold N32; exact inferInstance
theorem mn_self (a : Int) : mn a a = a := by unfold mn; split <;> rfl
theorem mx_self (a : Int) : mx a a = a := by unfold mx; split <;> rfl
theorem mn_cases (a b : Int) : (mn a b = a ∧ a ≤ b) ∨ (mn a b = b ∧ b ≤ a) := by unfold mn; split <;> omega
theorem mx_cases (a b : Int) : (mx a b = a ∧ b ≤ a) ∨ (mx a b = b ∧ a ≤ b) := by unfold mx; split <;> omega
def crn (op l h l2 h2 : Int) : Int × Int :=
  (mn (mn (mn (exactV op l l2) (exactV op l h2)) (exactV op h l2)) (exactV op h h2), mx (mx (mx (exactV op l l2) (exactV op l h2)) (exactV op h l2)) (exactV op h h2))
theorem corners_loop (p q r s : Int) : W (fun k => impl_rangeCorners.l0 k p p 0 p q r s) (· = (mn (mn (mn p q) r) s, mx (mx (mx p q) r) s)) := by
  refine ⟨_, rfl, 5, fun k hk => ?_⟩
  obtain ⟨m, rfl⟩ : ∃ m, k = m + 5 := ⟨k - 5, by omega⟩
  simp [impl_rangeCorners.l0, wrap64, mn_self, mx_self]
theorem iCorners {op l h l2 h2 : Int} (ho : 1 ≤ op) (ho1 : op ≤ 13) (hl : N32 l) (hh : N32 h) (hl2 : N32 l2) (hh2 : N32 h2) (f1 : Fit op l2) (f2 : Fit op h2) : W (fun k => impl_rangeCorners.f k op l h l2 h2) (· = crn op l h l2 h2) := by
  unfold impl_rangeCorners.f
  refine W.bind (iExact ho ho1 hl hl2 f1) ?_
  rintro _ rfl
  refine W.bind (iExact ho ho1 hl hh2 f2) ?_
  rintro _ rfl
  refine W.bind (iExact ho ho1 hh hl2 f1) ?_
  rintro _ rfl
  refine W.bind (iExact ho ho1 hh hh2 f2) ?_
  rintro _ rfl
  exact corners_loop _ _ _ _
theorem crn_ends (op l h l2 h2 : Int) : ∃ x y x' y', (x = l ∨ x = h) ∧ (y = l2 ∨ y = h2) ∧ (x' = l ∨ x' = h) ∧ (y' = l2 ∨ y' = h2) ∧ (crn op l h l2 h2).1 = exactV op x y ∧ (crn op l h l2 h2).2 = exactV op x' y' := by
  have e1 : ∀ p q r s : Int, (mn (mn (mn p q) r) s = p) ∨ (mn (mn (mn p q) r) s = q) ∨ (mn (mn (mn p q) r) s = r) ∨ (mn (mn (mn p q) r) s = s) := by
    intro p q r s
    rcases mn_cases p q with ⟨a, _⟩ | ⟨a, _⟩ <;> rw [a] <;> rcases mn_cases _ r with ⟨b, _⟩ | ⟨b, _⟩ <;> rw [b] <;> rcases mn_cases _ s with ⟨c, _⟩ | ⟨c, _⟩ <;> rw [c] <;> simp
  have e2 : ∀ p q r s : Int, (mx (mx (mx p q) r) s = p) ∨ (mx (mx (mx p q) r) s = q) ∨ (mx (mx (mx p q) r) s = r) ∨ (mx (mx (mx p q) r) s = s) := by
    intro p q r s
    rcases mx_cases p q with ⟨a, _⟩ | ⟨a, _⟩ <;> rw [a] <;> rcases mx_cases _ r with ⟨b, _⟩ | ⟨b, _⟩ <;> rw [b] <;> rcases mx_cases _ s with ⟨c, _⟩ | ⟨c, _⟩ <;> rw [c] <;> simp
  have a := e1 (exactV op l l2) (exactV op l h2) (exactV op h l2) (exactV op h h2)
  have b := e2 (exactV op l l2) (exactV op l h2) (exactV op h l2) (exactV op h h2)
  unfold crn
  rcases a with a | a | a | a <;> rcases b with b | b | b | b <;> rw [a, b]
  · exact ⟨l, l2, l, l2, .inl rfl, .inl rfl, .inl rfl, .inl rfl, rfl, rfl⟩
  · exact ⟨l, l2, l, h2, .inl rfl, .inl rfl, .inl rfl, .inr rfl, rfl, rfl⟩
  · exact ⟨l, l2, h, l2, .inl rfl, .inl rfl, .inr rfl, .inl rfl, rfl, rfl⟩
  · exact ⟨l, l2, h, h2, .inl rfl, .inl rfl, .inr rfl, .inr rfl, rfl, rfl⟩
  · exact ⟨l, h2, l, l2, .inl rfl, .inr rfl, .inl rfl, .inl rfl, rfl, rfl⟩
  · exact ⟨l, h2, l, h2, .inl rfl, .inr rfl, .inl rfl, .inr rfl, rfl, rfl⟩
  · exact ⟨l, h2, h, l2, .inl rfl, .inr rfl, .inr rfl, .inl rfl, rfl, rfl⟩
  · exact ⟨l, h2, h, h2, .inl rfl, .inr rfl, .inr rfl, .inr rfl, rfl, rfl⟩
  · exact ⟨h, l2, l, l2, .inr rfl, .inl rfl, .inl rfl, .inl rfl, rfl, rfl⟩
  · exact ⟨h, l2, l, h2, .inr rfl, .inl rfl, .inl rfl, .inr rfl, rfl, rfl⟩
  · exact ⟨h, l2, h, l2, .inr rfl, .inl rfl, .inr rfl, .inl rfl, rfl, rfl⟩
  · exact ⟨h, l2, h, h2, .inr rfl, .inl rfl, .inr rfl, .inr rfl, rfl, rfl⟩
  · exact ⟨h, h2, l, l2, .inr rfl, .inr rfl, .inl rfl, .inl rfl, rfl, rfl⟩
  · exact ⟨h, h2, l, h2, .inr rfl, .inr rfl, .inl rfl, .inr rfl, rfl, rfl⟩
  · exact ⟨h, h2, h, l2, .inr rfl, .inr rfl, .inr rfl, .inl rfl, rfl, rfl⟩
  · exact ⟨h, h2, h, h2, .inr rfl, .inr rfl, .inr rfl, .inr rfl, rfl, rfl⟩
theorem mul_low {a b : Int} (ha : N32 a) (hb : N32 b) : -4611686016279904256 ≤ a * b := by
  unfold N32 at ha hb
  by_cases h1 : 0 ≤ a
  · by_cases h2 : 0 ≤ b
    · have := Int.mul_nonneg h1 h2; omega
    · have h : (a * b).natAbs ≤ 2147483647 * 2147483648 := by
        rw [Int.natAbs_mul]; exact Nat.mul_le_mul (by omega) (by omega)
      omega
  · by_cases h2 : 0 ≤ b
    · have h : (a * b).natAbs ≤ 2147483648 * 2147483647 := by
        rw [Int.natAbs_mul]; exact Nat.mul_le_mul (by omega) (by omega)
      omega
    · have h : 0 ≤ a * b := Int.mul_nonneg_of_nonpos_of_nonpos (by omega) (by omega)
      omega
/-- Operators that wrap make numbers that lie no further apart than a word holds. -/
theorem wrapV {op a b : Int} (h : 11 ≤ op) (h1 : op ≤ 13) (ha : N32 a) (hb : N32 b) : -4611686016279904256 ≤ exactV op a b ∧ exactV op a b ≤ 4611686018427387904 := by
  have hm := mul_low ha hb
  have hm2 := mul_bound ha hb
  unfold N32 at ha hb
  rcases (show op = 11 ∨ op = 12 ∨ op = 13 by omega) with rfl | rfl | rfl
  · simp only [exactV]; omega
  · simp only [exactV]; omega
  · simp only [exactV]; omega
def rwrap (op l h l2 h2 : Int) : Int × Int :=
  if (crn op l h l2 h2).2 - (crn op l h l2 h2).1 > 4294967295 ∨ wrap32 (crn op l h l2 h2).1 > wrap32 (crn op l h l2 h2).2 then (-2147483648, 2147483647) else (wrap32 (crn op l h l2 h2).1, wrap32 (crn op l h l2 h2).2)
theorem cut_id {l h : Int} (hl : N32 l) (hh : N32 h) (h0 : l ≤ h) : cut l h = (l, h) := by
  unfold N32 at hl hh
  unfold cut mx mn
  split <;> split <;> (try split) <;> first | rfl | omega | (congr 1 <;> omega)
theorem iWrap {op l h l2 h2 : Int} (ho : 11 ≤ op) (ho1 : op ≤ 13) (hl : N32 l) (hh : N32 h) (hl2 : N32 l2) (hh2 : N32 h2) : W (fun k => impl_rangeWrap.f k op l h l2 h2) (· = rwrap op l h l2 h2) := by
  have ft : ∀ b, Fit op b := fun b => ⟨fun h => absurd h (by omega), fun h => absurd h (by omega)⟩
  obtain ⟨x, y, x', y', hx, hy, hx', hy', e1, e2⟩ := crn_ends op l h l2 h2
  have b1 := wrapV (a := x) (b := y) ho ho1 (by rcases hx with rfl | rfl <;> assumption) (by rcases hy with rfl | rfl <;> assumption)
  have b2 := wrapV (a := x') (b := y') ho ho1 (by rcases hx' with rfl | rfl <;> assumption) (by rcases hy' with rfl | rfl <;> assumption)
  rw [← e1] at b1
  rw [← e2] at b2
  unfold impl_rangeWrap.f
  refine W.bind (iCorners (by omega) ho1 hl hh hl2 hh2 (ft _) (ft _)) ?_
  rintro _ rfl
  have bad : ((crn op l h l2 h2).2 - (crn op l h l2 h2).1 > 4294967295 ∨ wrap32 (crn op l h l2 h2).1 > wrap32 (crn op l h l2 h2).2) → W (fun k => impl_rangeWrap.j0 k (crn op l h l2 h2).1 (crn op l h l2 h2).2 true) (· = rwrap op l h l2 h2) := by
    intro hb
    refine W.step (fun k => by simp only [impl_rangeWrap.j0, iFrom, Option.bind_some]; try rfl) ?_
    refine W.pos (by trivial) (W.ret ?_)
    unfold rwrap; rw [if_pos hb]; try rfl
  rw [wrap64_id (n := (crn op l h l2 h2).2 - (crn op l h l2 h2).1) (by omega) (by omega)]
  refine W.ite (fun h1 => bad (.inl h1)) (fun h1 => ?_)
  simp only [iNumWrap, Option.bind_some]
  by_cases h3 : wrap32 (crn op l h l2 h2).1 > wrap32 (crn op l h l2 h2).2
  · rw [decide_eq_true h3]; exact bad (.inr h3)
  · rw [decide_eq_false h3]
    refine W.step (fun k => by simp only [impl_rangeWrap.j0, iNumWrap, iFrom, Option.bind_some]; try rfl) ?_
    refine W.neg (by decide) (W.ret ?_)
    rw [cut_id (wrap32_ok _) (wrap32_ok _) (by omega)]
    unfold rwrap; rw [if_neg (by omega)]
/-! ### shifts -/
def offB (x y l h : Int) : Bool := !(x == l) || (!(y == h))
def rshift (op l h l2 h2 : Int) : Int × Int × List Int :=
  if (rmeet l2 h2 0 31).1 > (rmeet l2 h2 0 31).2 then (1, 0, if offB (rmeet l2 h2 0 31).1 (rmeet l2 h2 0 31).2 l2 h2 then [3] else [])
  else ((cut (crn op l h (rmeet l2 h2 0 31).1 (rmeet l2 h2 0 31).2).1 (crn op l h (rmeet l2 h2 0 31).1 (rmeet l2 h2 0 31).2).2).1, (cut (crn op l h (rmeet l2 h2 0 31).1 (rmeet l2 h2 0 31).2).1 (crn op l h (rmeet l2 h2 0 31).1 (rmeet l2 h2 0 31).2).2).2,
    (if (crn op l h (rmeet l2 h2 0 31).1 (rmeet l2 h2 0 31).2).1 < -2147483648 ∨ (crn op l h (rmeet l2 h2 0 31).1 (rmeet l2 h2 0 31).2).2 > 2147483647 then [1] else []) ++ (if offB (rmeet l2 h2 0 31).1 (rmeet l2 h2 0 31).2 l2 h2 then [3] else []))
theorem rmeet_in (l h : Int) {x y : Int} (o : okR x y) (n : ¬ isNone x y) : (rmeet l h x y).1 > (rmeet l h x y).2 ∨ (x ≤ (rmeet l h x y).1 ∧ (rmeet l h x y).1 ≤ (rmeet l h x y).2 ∧ (rmeet l h x y).2 ≤ y ∧ l ≤ (rmeet l h x y).1 ∧ (rmeet l h x y).2 ≤ h) := by
  unfold rmeet
  split
  · left; simp
  · unfold okR at o; unfold isNone at n
    unfold cut
    split
    · left; simp
    · right
      have h1 := mx_cases l x; have h2 := mx_cases (mx l x) (-2147483648); have h3 := mn_cases h y; have h4 := mn_cases (mn h y) 2147483647
      simp only
      omega
theorem iShift {op l h l2 h2 : Int} (ho : op = 9 ∨ op = 10) (hl : N32 l) (hh : N32 h) : W (fun k => impl_rangeShift.f k op l h l2 h2) (· = rshift op l h l2 h2) := by
  unfold impl_rangeShift.f
  refine W.bind (iRangeMeet l2 h2 0 31) ?_
  rintro _ rfl
  simp only [impl_rangeNone.f, impl_Range_empty.f, Option.bind_some]
  have hm := rmeet_in l2 h2 (x := 0) (y := 31) (by unfold okR; omega) (by unfold isNone; omega)
  generalize hc : rmeet l2 h2 0 31 = c at hm ⊢
  refine W.dec (fun h1 => ?_) (fun h1 => ?_)
  · show W (fun k => if offB c.1 c.2 l2 h2 = true then _ else _) _
    unfold rshift
    rw [hc, if_pos h1]
    refine W.ite (fun h2 => ?_) (fun h2 => ?_)
    · exact W.pos (by decide) (W.ret (by rw [if_pos h2]; try rfl))
    · exact W.ret (by rw [if_neg h2])
  · have hm' := hm.resolve_left h1
    have ft : ∀ b, 0 ≤ b → b ≤ 31 → Fit op b := fun b h0 h1 => ⟨fun h => absurd h (by omega), fun _ => ⟨h0, h1⟩⟩
    refine W.bind (iCorners (l := l) (h := h) (l2 := c.1) (h2 := c.2) (by omega) (by omega) hl hh (by unfold N32; omega) (by unfold N32; omega) (ft _ (by omega) (by omega)) (ft _ (by omega) (by omega))) ?_
    rintro _ rfl
    simp only [iFrom, Option.bind_some]
    have key : ∀ b : Bool, (b = true ↔ ((crn op l h c.1 c.2).1 < -2147483648 ∨ (crn op l h c.1 c.2).2 > 2147483647)) → W (fun k => impl_rangeShift.j0 k [] b l2 h2 c.1 c.2 (cut (crn op l h c.1 c.2).1 (crn op l h c.1 c.2).2).1 (cut (crn op l h c.1 c.2).1 (crn op l h c.1 c.2).2).2) (· = rshift op l h l2 h2) := by
      intro b hb
      refine W.step (fun k => by simp only [impl_rangeShift.j0, Option.bind_some, List.nil_append]; try rfl) ?_
      unfold rshift
      rw [hc, if_neg h1]
      refine W.ite (fun h2 => ?_) (fun h2 => ?_)
      · rw [if_pos (hb.1 h2)]
        refine W.pos (by decide) ?_
        refine W.ite (fun h3 => ?_) (fun h3 => ?_)
        · refine W.pos (by decide) (W.ret ?_)
          rw [if_pos (show offB c.1 c.2 l2 _ = true from h3)]; try rfl
        · refine W.ret ?_
          rw [if_neg (show ¬ offB c.1 c.2 l2 _ = true from h3)]; try rfl
      · rw [if_neg (fun hx => h2 (hb.2 hx))]
        refine W.ite (fun h3 => ?_) (fun h3 => ?_)
        · refine W.pos (by decide) (W.ret ?_)
          rw [if_pos (show offB c.1 c.2 l2 _ = true from h3)]; try rfl
        · refine W.ret ?_
          rw [if_neg (show ¬ offB c.1 c.2 l2 _ = true from h3)]; try rfl
    refine W.ite (fun h2 => key true ?_) (fun h2 => key _ ?_)
    · simp [h2]
    · simp only [decide_eq_true_iff]; omega
/-! ### quotients -/
def hasR (l h v : Int) : Bool := decide (okR l h ∧ l ≤ v ∧ v ≤ h)
def rdiv (l h l2 h2 : Int) : Int × Int × List Int :=
  let n := rmeet l2 h2 (-2147483648) (-1)
  let p := rmeet l2 h2 1 2147483647
  let c := if n.1 > n.2 then (if p.1 > p.2 then (1, 0) else cut (crn 4 l h p.1 p.2).1 (crn 4 l h p.1 p.2).2)
    else if p.1 > p.2 then cut (crn 4 l h n.1 n.2).1 (crn 4 l h n.1 n.2).2
    else cut (mn (crn 4 l h p.1 p.2).1 (crn 4 l h n.1 n.2).1) (mx (crn 4 l h p.1 p.2).2 (crn 4 l h n.1 n.2).2)
  (c.1, c.2, (if hasR l h (-2147483648) && hasR l2 h2 (-1) then [1] else []) ++ (if hasR l2 h2 0 then [2] else []))
theorem iDiv_tail (l h l2 h2 : Int) (c : Int × Int) : W (fun k => impl_rangeDiv.j1 k l h l2 h2 c.1 c.2) (· = (c.1, c.2, (if hasR l h (-2147483648) && hasR l2 h2 (-1) then [1] else []) ++ (if hasR l2 h2 0 then [2] else []))) := by
  have key : ∀ b : Bool, W (fun k => impl_rangeDiv.j2 k [] b l2 h2 c.1 c.2) (· = (c.1, c.2, (if b then [1] else []) ++ (if hasR l2 h2 0 then [2] else []))) := by
    intro b
    refine W.step (fun k => by simp only [impl_rangeDiv.j2, iRangeHas, Option.bind_some, List.nil_append]; try rfl) ?_
    refine W.ite (fun h1 => ?_) (fun h1 => ?_)
    · rw [if_pos h1]
      refine W.pos (by decide) ?_
      refine W.ite (fun h2 => ?_) (fun h2 => ?_)
      · exact W.pos (by decide) (W.ret (by rw [if_pos (show hasR l2 _ 0 = true from h2)]; try rfl))
      · exact W.ret (by rw [if_neg (show ¬ hasR l2 _ 0 = true from h2)]; try rfl)
    · rw [if_neg h1]
      refine W.ite (fun h2 => ?_) (fun h2 => ?_)
      · exact W.pos (by decide) (W.ret (by rw [if_pos (show hasR l2 _ 0 = true from h2)]; try rfl))
      · exact W.ret (by rw [if_neg (show ¬ hasR l2 _ 0 = true from h2)]; try rfl)
  refine W.step (fun k => by simp only [impl_rangeDiv.j1, iRangeHas, Option.bind_some]; try rfl) ?_
  refine W.ite (fun h1 => ?_) (fun h1 => ?_)
  · have e : hasR l h (-2147483648) = true := h1
    have := key (hasR l2 h2 (-1))
    rw [e, Bool.true_and]
    exact this
  · have e : hasR l h (-2147483648) = false := Bool.eq_false_iff.mpr h1
    have := key false
    rw [e, Bool.false_and]
    exact this
theorem iDiv {l h l2 h2 : Int} (hl : N32 l) (hh : N32 h) : W (fun k => impl_rangeDiv.f k l h l2 h2) (· = rdiv l h l2 h2) := by
  have hn := rmeet_in l2 h2 (x := -2147483648) (y := -1) (by unfold okR; omega) (by unfold isNone; omega)
  have hp := rmeet_in l2 h2 (x := 1) (y := 2147483647) (by unfold okR; omega) (by unfold isNone; omega)
  unfold impl_rangeDiv.f impl_rangeSides.f
  refine W.bind (Q := (· = ((rmeet l2 h2 (-2147483648) (-1)).1, (rmeet l2 h2 (-2147483648) (-1)).2, (rmeet l2 h2 1 2147483647).1, (rmeet l2 h2 1 2147483647).2))) ?_ ?_
  · refine W.bind (iRangeMeet l2 h2 (-2147483648) (-1)) ?_
    rintro _ rfl
    refine W.bind (iRangeMeet l2 h2 1 2147483647) ?_
    rintro _ rfl
    exact W.ret rfl
  rintro _ rfl
  simp only
  unfold rdiv
  generalize rmeet l2 h2 (-2147483648) (-1) = n at hn ⊢
  generalize rmeet l2 h2 1 2147483647 = p at hp ⊢
  simp only
  have ft : ∀ b : Int, b ≠ 0 → Fit 4 b := fun b h0 => ⟨fun _ => h0, fun h => absurd h (by omega)⟩
  have fin : ∀ (x y : Int) (s : Bool) (i : Int), i = 2 → W (fun k => impl_rangeDiv.l0 k x y s i l h l2 h2 n.1 n.2 p.1 p.2) (· = ((if s then cut x y else (1, 0)).1, (if s then cut x y else (1, 0)).2, (if hasR l h (-2147483648) && hasR l2 h2 (-1) then [1] else []) ++ (if hasR l2 h2 0 then [2] else []))) := by
    rintro x y s _ rfl
    refine W.step (fun k => by simp only [impl_rangeDiv.l0, impl_rangeNone.f, iFrom, Option.bind_some]; try rfl) ?_
    refine W.neg (by decide) ?_
    refine W.ite (fun h1 => ?_) (fun h1 => ?_)
    · rw [if_pos h1]; exact iDiv_tail l h l2 h2 _
    · rw [if_neg h1]; exact iDiv_tail l h l2 h2 (1, 0)
  have two : ∀ (x y : Int) (s : Bool), W (fun k => impl_rangeDiv.l0 k x y s 1 l h l2 h2 n.1 n.2 p.1 p.2) (· = (let c := if p.1 > p.2 then (if s then cut x y else (1, 0)) else if s then cut (mn (crn 4 l h p.1 p.2).1 x) (mx (crn 4 l h p.1 p.2).2 y) else cut (crn 4 l h p.1 p.2).1 (crn 4 l h p.1 p.2).2
      (c.1, c.2, (if hasR l h (-2147483648) && hasR l2 h2 (-1) then [1] else []) ++ (if hasR l2 h2 0 then [2] else [])))) := by
    intro x y s
    refine W.step (fun k => by simp only [impl_rangeDiv.l0, impl_Range_empty.f, Option.bind_some]; try rfl) ?_
    refine W.pos (by decide) (W.neg (by decide) (W.pos True.intro ?_))
    refine W.dec (fun h1 => ?_) (fun h1 => ?_)
    · rw [if_pos h1]; exact fin x y s _ (by unfold wrap64; omega)
    · rw [if_neg h1]
      have hp' := hp.resolve_left h1
      refine W.bind (iCorners (l := l) (h := h) (l2 := p.1) (h2 := p.2) (by omega) (by omega) hl hh (by unfold N32; omega) (by unfold N32; omega) (ft _ (by omega)) (ft _ (by omega))) ?_
      rintro _ rfl
      refine W.ite (fun h2 => ?_) (fun h2 => ?_)
      · have := fin (mn (crn 4 l h p.1 p.2).1 x) (mx (crn 4 l h p.1 p.2).2 y) true _ (show wrap64 (1 + 1) = 2 by unfold wrap64; omega)
        rw [if_pos h2]; exact this
      · have := fin (crn 4 l h p.1 p.2).1 (crn 4 l h p.1 p.2).2 true _ (show wrap64 (1 + 1) = 2 by unfold wrap64; omega)
        rw [if_neg h2]; exact this
  refine W.step (fun k => by simp only [impl_rangeDiv.l0, impl_Range_empty.f, Option.bind_some]; try rfl) ?_
  refine W.pos (by decide) (W.pos True.intro ?_)
  have e1 : wrap64 (0 + 1) = 1 := by unfold wrap64; omega
  rw [e1]
  refine W.dec (fun h1 => ?_) (fun h1 => ?_)
  · rw [if_pos h1]; exact two 0 0 false
  · rw [if_neg h1]
    have hn' := hn.resolve_left h1
    refine W.bind (iCorners (l := l) (h := h) (l2 := n.1) (h2 := n.2) (by omega) (by omega) hl hh (by unfold N32; omega) (by unfold N32; omega) (ft _ (by omega)) (ft _ (by omega))) ?_
    rintro _ rfl
    refine W.neg (by decide) ?_
    exact two _ _ true

/-! ### rests -/
def remBy (l h x y : Int) : Int × Int := if l > -x ∧ h < x then (l, h) else (if l < 0 then mx l (1 - y) else 0, if h > 0 then mn h (y - 1) else 0)
theorem iRemBy {l h x y : Int} (hx : 0 ≤ x ∧ x ≤ 2147483648) (hy : 0 ≤ y ∧ y ≤ 2147483648) : W (fun k => impl_rangeRemBy.f k l h x y) (· = remBy l h x y) := by
  have e1 : wrap64 (-x) = -x := wrap64_id (by omega) (by omega)
  have e2 : wrap64 (1 - y) = 1 - y := wrap64_id (by omega) (by omega)
  have e3 : wrap64 (y - 1) = y - 1 := wrap64_id (by omega) (by omega)
  have key : ∀ b : Bool, (b = true ↔ (l > -x ∧ h < x)) → W (fun k => impl_rangeRemBy.j0 k y b l h) (· = remBy l h x y) := by
    intro b hb
    refine W.step (fun k => by simp only [impl_rangeRemBy.j0, e2, e3]; rfl) ?_
    refine W.ite (fun h1 => W.ret ?_) (fun h1 => ?_)
    · unfold remBy; rw [if_pos (hb.1 h1)]
    · have h1' : ¬ (l > -x ∧ h < x) := fun z => h1 (hb.2 z)
      unfold remBy
      rw [if_neg h1']
      refine W.ite (fun h2 => W.ite (fun h3 => W.ret ?_) (fun h3 => W.ret ?_)) (fun h2 => W.ite (fun h3 => W.ret ?_) (fun h3 => W.ret ?_))
      · rw [if_pos h2, if_pos h3]
      · rw [if_pos h2, if_neg h3]
      · rw [if_neg h2, if_pos h3]
      · rw [if_neg h2, if_neg h3]
  unfold impl_rangeRemBy.f
  rw [e1]
  refine W.ite (fun h1 => key _ ?_) (fun h1 => key _ ?_)
  · simp [h1]
  · simp only [Bool.false_eq_true, false_iff]; omega
def rrem (l h l2 h2 : Int) : Int × Int × List Int :=
  if l = h ∧ l2 = h2 ∧ l2 ≠ 0 then (l.tmod l2, l.tmod l2, []) else
  let n := rmeet l2 h2 (-2147483648) (-1)
  let p := rmeet l2 h2 1 2147483647
  let o := if n.1 > n.2 then (1, 0) else rjoin 1 0 (remBy l h (-n.2) (-n.1)).1 (remBy l h (-n.2) (-n.1)).2
  let q := if p.1 > p.2 then o else rjoin o.1 o.2 (remBy l h p.1 p.2).1 (remBy l h p.1 p.2).2
  (q.1, q.2, if hasR l2 h2 0 then [2] else [])
theorem iRem {l h l2 h2 : Int} : W (fun k => impl_rangeRem.f k l h l2 h2) (· = rrem l h l2 h2) := by
  have hn := rmeet_in l2 h2 (x := -2147483648) (y := -1) (by unfold okR; omega) (by unfold isNone; omega)
  have hp := rmeet_in l2 h2 (x := 1) (y := 2147483647) (by unfold okR; omega) (by unfold isNone; omega)
  have key : ∀ b : Bool, (b = true ↔ (l = h ∧ l2 = h2 ∧ l2 ≠ 0)) → W (fun k => impl_rangeRem.j0 k b l h l2 h2) (· = rrem l h l2 h2) := by
    intro b hb
    refine W.step (fun k => by simp only [impl_rangeRem.j0]; rfl) ?_
    refine W.ite (fun h1 => ?_) (fun h1 => ?_)
    · refine W.neg (hb.1 h1).2.2 (W.ret ?_)
      unfold rrem; rw [if_pos (hb.1 h1)]
    have h1' : ¬ (l = h ∧ l2 = h2 ∧ l2 ≠ 0) := fun z => h1 (hb.2 z)
    unfold rrem impl_rangeSides.f
    rw [if_neg h1']
    refine W.bind (Q := (· = ((rmeet l2 h2 (-2147483648) (-1)).1, (rmeet l2 h2 (-2147483648) (-1)).2, (rmeet l2 h2 1 2147483647).1, (rmeet l2 h2 1 2147483647).2))) ?_ ?_
    · refine W.bind (iRangeMeet l2 h2 (-2147483648) (-1)) ?_
      rintro _ rfl
      refine W.bind (iRangeMeet l2 h2 1 2147483647) ?_
      rintro _ rfl
      exact W.ret rfl
    rintro _ rfl
    simp only [impl_rangeNone.f, impl_Range_empty.f, Option.bind_some]
    generalize rmeet l2 h2 (-2147483648) (-1) = n at hn ⊢
    generalize rmeet l2 h2 1 2147483647 = p at hp ⊢
    have fin : ∀ o : Int × Int, W (fun k => impl_rangeRem.j1 k l h l2 h2 n.1 n.2 p.1 p.2 o.1 o.2) (· = ((if p.1 > p.2 then o else rjoin o.1 o.2 (remBy l h p.1 p.2).1 (remBy l h p.1 p.2).2).1, (if p.1 > p.2 then o else rjoin o.1 o.2 (remBy l h p.1 p.2).1 (remBy l h p.1 p.2).2).2, if hasR l2 h2 0 then [2] else [])) := by
      intro o
      refine W.step (fun k => by simp only [impl_rangeRem.j1, impl_Range_empty.f, iRangeHas, Option.bind_some]; rfl) ?_
      refine W.dec (fun h2 => ?_) (fun h2 => ?_)
      · rw [if_pos h2]
        refine W.ite (fun h3 => W.ret ?_) (fun h3 => W.ret ?_)
        · rw [if_pos (show hasR l2 _ 0 = true from h3)]
        · rw [if_neg (show ¬ hasR l2 _ 0 = true from h3)]
      · rw [if_neg h2]
        have hp' := hp.resolve_left h2
        refine W.bind (iRemBy (by omega) (by omega)) ?_
        rintro _ rfl
        refine W.bind (iRangeJoin _ _ _ _) ?_
        rintro _ rfl
        refine W.ite (fun h3 => W.ret ?_) (fun h3 => W.ret ?_)
        · rw [if_pos (show hasR l2 _ 0 = true from h3)]
        · rw [if_neg (show ¬ hasR l2 _ 0 = true from h3)]
    refine W.dec (fun h2 => ?_) (fun h2 => ?_)
    · rw [if_pos h2]; exact fin (1, 0)
    · rw [if_neg h2]
      have hn' := hn.resolve_left h2
      rw [wrap64_id (n := -n.2) (by omega) (by omega), wrap64_id (n := -n.1) (by omega) (by omega)]
      refine W.bind (iRemBy (by omega) (by omega)) ?_
      rintro _ rfl
      refine W.bind (iRangeJoin _ _ _ _) ?_
      rintro _ rfl
      exact fin _
  unfold impl_rangeRem.f
  simp only [impl_Range_single.f, Option.bind_some]
  refine W.ite (fun h1 => W.ite (fun h2 => key _ ?_) (fun h2 => key _ ?_)) (fun h1 => key _ ?_)
  · simp only [beq_iff_eq] at h1 h2
    simp [h1, h2]
  · simp only [beq_iff_eq] at h1 h2
    simp [h2]
  · simp only [beq_iff_eq] at h1
    simp [h1]
/-! ### bits -/
def mskL : Nat → Int → Int → Int
  | 0, x, _ => x
  | n + 1, x, m => if x < m then mskL n (2 * x + 1) m else x
/-- The least number of ones, in bits, that is at least m. -/
def msk (m : Int) : Int := mskL 32 0 m
theorem msk_loop {g : Nat → Int → Int × Int → Prop} (m : Int) (hm : m ≤ 2147483647) (l h l2 h2 z : Int) (e : mx h h2 = m) : ∀ (n : Nat) (x : Int), 0 ≤ x → x + 1 = 2 ^ (32 - n) → n ≤ 32 → W (fun k => impl_rangeBits.l0 k l h l2 h2 z x) (· = (z, mskL n x m)) := by
  intro n
  induction n with
  | zero =>
    intro x h0 hx _
    refine W.step (fun k => by simp only [impl_rangeBits.l0]; rfl) ?_
    refine W.neg (by rw [e]; simp at hx; omega) (W.ret rfl)
  | succ n ih =>
    intro x h0 hx hn
    refine W.step (fun k => by simp only [impl_rangeBits.l0]; rfl) ?_
    rw [e]
    unfold mskL
    refine W.ite (fun h1 => ?_) (fun h1 => W.ret (by rw [if_neg h1]))
    rw [if_pos h1, wrap64_id (n := 2 * x) (by omega) (by omega), wrap64_id (n := 2 * x + 1) (by omega) (by omega)]
    refine ih (2 * x + 1) (by omega) ?_ (by omega)
    rw [show 32 - n = (32 - (n + 1)) + 1 by omega, Int.pow_succ]
    omega
def rbits (op l h l2 h2 : Int) : Int × Int :=
  if l = h ∧ l2 = h2 then (exactV op l l2, exactV op l l2) else
  if op = 6 then (if l ≥ 0 ∧ l2 ≥ 0 then (0, mn h h2) else if l ≥ 0 then (0, h) else if l2 ≥ 0 then (0, h2) else (-2147483648, 2147483647))
  else if l < 0 ∨ l2 < 0 then (-2147483648, 2147483647) else (if op = 7 then mx l l2 else 0, msk (mx h h2))
theorem iBits {op l h l2 h2 : Int} (ho : op = 6 ∨ op = 7 ∨ op = 8) (hl : N32 l) (hh : N32 h) (hl2 : N32 l2) (hh2 : N32 h2) : W (fun k => impl_rangeBits.f k op l h l2 h2) (· = rbits op l h l2 h2) := by
  have ft : Fit op l2 := ⟨fun h => absurd h (by omega), fun h => absurd h (by omega)⟩
  have hm : mx h h2 ≤ 2147483647 := by unfold N32 at hh hh2; unfold mx; split <;> omega
  have key : ∀ b : Bool, (b = true ↔ (l = h ∧ l2 = h2)) → W (fun k => impl_rangeBits.j0 k op b l h l2 h2) (· = rbits op l h l2 h2) := by
    intro b hb
    refine W.step (fun k => by simp only [impl_rangeBits.j0]; rfl) ?_
    refine W.ite (fun h1 => ?_) (fun h1 => ?_)
    · refine W.bind (iExact (by omega) (by omega) hl hl2 ft) ?_
      rintro _ rfl
      exact W.ret (by unfold rbits; rw [if_pos (hb.1 h1)])
    have h1' : ¬ (l = h ∧ l2 = h2) := fun z => h1 (hb.2 z)
    unfold rbits
    rw [if_neg h1']
    refine W.ite (fun g2 => ?_) (fun g2 => ?_)
    · rw [if_pos g2]
      have t : ∀ c : Bool, (c = true ↔ (l ≥ 0 ∧ l2 ≥ 0)) → W (fun k => impl_rangeBits.j1 k c l h l2 h2) (· = (if l ≥ 0 ∧ l2 ≥ 0 then (0, mn h h2) else if l ≥ 0 then (0, h) else if l2 ≥ 0 then (0, h2) else (-2147483648, 2147483647))) := by
        intro c hc
        refine W.step (fun k => by simp only [impl_rangeBits.j1]; rfl) ?_
        refine W.ite (fun h3 => W.ret (by rw [if_pos (hc.1 h3)])) (fun h3 => ?_)
        rw [if_neg (fun z => h3 (hc.2 z))]
        refine W.ite (fun h4 => W.ret (by rw [if_pos h4])) (fun h4 => ?_)
        rw [if_neg h4]
        exact W.ite (fun h5 => W.ret (by rw [if_pos h5])) (fun h5 => W.ret (by rw [if_neg h5]))
      refine W.ite (fun h3 => t _ ?_) (fun h3 => t _ ?_)
      · simp [h3]
      · simp [h3]
    · rw [if_neg g2]
      have fin : ∀ z : Int, W (fun k => impl_rangeBits.j3 k l h l2 h2 z 0) (· = (z, msk (mx h h2))) := by
        intro z
        refine W.step (fun k => by simp only [impl_rangeBits.j3]; rfl) ?_
        exact msk_loop (g := fun _ _ _ => True) _ hm l h l2 h2 z rfl 32 0 (by omega) (by decide) (by omega)
      have t : ∀ c : Bool, (c = true ↔ (l < 0 ∨ l2 < 0)) → W (fun k => impl_rangeBits.j2 k op c l h l2 h2) (· = (if l < 0 ∨ l2 < 0 then (-2147483648, 2147483647) else (if op = 7 then mx l l2 else 0, msk (mx h h2)))) := by
        intro c hc
        refine W.step (fun k => by simp only [impl_rangeBits.j2]; rfl) ?_
        refine W.ite (fun h3 => W.ret (by rw [if_pos (hc.1 h3)])) (fun h3 => ?_)
        rw [if_neg (fun z => h3 (hc.2 z))]
        refine W.ite (fun h4 => ?_) (fun h4 => ?_)
        · rw [if_pos h4]; exact fin _
        · rw [if_neg h4]; exact fin _
      refine W.ite (fun h3 => t _ ?_) (fun h3 => t _ ?_)
      · simp [h3]
      · simp [h3]
  unfold impl_rangeBits.f
  simp only [impl_Range_single.f, Option.bind_some]
  refine W.ite (fun h1 => key _ ?_) (fun h1 => key _ ?_)
  · simp only [beq_iff_eq] at h1
    simp [h1]
  · simp only [beq_iff_eq] at h1
    simp [h1]
/-! ### all of them -/
def badDo (op l h l2 h2 : Int) : Prop := ¬ (1 ≤ op ∧ op ≤ 13) ∨ ¬ okR l h ∨ ¬ okR l2 h2 ∨ l > h ∨ l2 > h2
instance (op l h l2 h2 : Int) : Decidable (badDo op l h l2 h2) := by unfold badDo; exact inferInstance
def rangeDo (op l h l2 h2 : Int) : Int × Int × List Int :=
  if badDo op l h l2 h2 then (1, 0, []) else
  if op ≤ 3 then ((cut (crn op l h l2 h2).1 (crn op l h l2 h2).2).1, (cut (crn op l h l2 h2).1 (crn op l h l2 h2).2).2, if (crn op l h l2 h2).1 < -2147483648 ∨ (crn op l h l2 h2).2 > 2147483647 then [1] else [])
  else if op ≥ 11 then ((rwrap op l h l2 h2).1, (rwrap op l h l2 h2).2, [])
  else if op ≥ 9 then rshift op l h l2 h2
  else if op = 4 then rdiv l h l2 h2
  else if op = 5 then rrem l h l2 h2
  else ((rbits op l h l2 h2).1, (rbits op l h l2 h2).2, [])
theorem okR_N32 {l h : Int} (o : okR l h) : N32 l ∧ N32 h := by unfold okR at o; unfold N32; omega
theorem iRangeDo (op l h l2 h2 : Int) : W (fun k => impl_RangeDo.f k op l h l2 h2) (· = rangeDo op l h l2 h2) := by
  have bad : badDo op l h l2 h2 → W (fun k => impl_RangeDo.j0 k op true l h l2 h2) (· = rangeDo op l h l2 h2) := by
    intro hb
    refine W.step (fun k => by simp only [impl_RangeDo.j0, impl_rangeNone.f, Option.bind_some]; rfl) ?_
    refine W.pos (by trivial) (W.ret ?_)
    unfold rangeDo; rw [if_pos hb]
  have good : ¬ badDo op l h l2 h2 → W (fun k => impl_RangeDo.j0 k op false l h l2 h2) (· = rangeDo op l h l2 h2) := by
    intro hb
    have hb0 := hb
    unfold badDo at hb
    have ho : 1 ≤ op ∧ op ≤ 13 := by omega
    have o1 : okR l h := Decidable.byContradiction fun z => hb (.inr (.inl z))
    have o2 : okR l2 h2 := Decidable.byContradiction fun z => hb (.inr (.inr (.inl z)))
    obtain ⟨hl, hh⟩ := okR_N32 o1
    obtain ⟨hl2, hh2⟩ := okR_N32 o2
    unfold rangeDo
    rw [if_neg hb0]
    refine W.step (fun k => by simp only [impl_RangeDo.j0]; rfl) ?_
    refine W.neg (by decide) ?_
    have t4 : ∀ c : Bool, (c = true ↔ (op = 9 ∨ op = 10)) → ¬ op ≤ 3 → ¬ op ≥ 11 → W (fun k => impl_RangeDo.j4 k op op c l h l2 h2) (· = if op ≥ 9 then rshift op l h l2 h2 else if op = 4 then rdiv l h l2 h2 else if op = 5 then rrem l h l2 h2 else ((rbits op l h l2 h2).1, (rbits op l h l2 h2).2, [])) := by
      intro c hc n1 n2
      refine W.step (fun k => by simp only [impl_RangeDo.j4]; rfl) ?_
      refine W.ite (fun h1 => ?_) (fun h1 => ?_)
      · have := hc.1 h1
        rw [if_pos (by omega)]
        refine W.bind (iShift this hl hh) ?_
        rintro _ rfl
        exact W.ret rfl
      · have : ¬ (op = 9 ∨ op = 10) := fun z => h1 (hc.2 z)
        rw [if_neg (by omega)]
        refine W.ite (fun h2 => ?_) (fun h2 => ?_)
        · rw [if_pos h2]
          refine W.bind (iDiv hl hh) ?_
          rintro _ rfl
          exact W.ret rfl
        rw [if_neg h2]
        refine W.ite (fun h3 => ?_) (fun h3 => ?_)
        · rw [if_pos h3]
          refine W.bind iRem ?_
          rintro _ rfl
          exact W.ret rfl
        rw [if_neg h3]
        refine W.bind (iBits (by omega) hl hh hl2 hh2) ?_
        rintro _ rfl
        exact W.ret rfl
    have t3 : ∀ c : Bool, (c = true ↔ (op ≥ 11)) → ¬ op ≤ 3 → W (fun k => impl_RangeDo.j3 k op op c l h l2 h2) (· = if op ≥ 11 then ((rwrap op l h l2 h2).1, (rwrap op l h l2 h2).2, []) else if op ≥ 9 then rshift op l h l2 h2 else if op = 4 then rdiv l h l2 h2 else if op = 5 then rrem l h l2 h2 else ((rbits op l h l2 h2).1, (rbits op l h l2 h2).2, [])) := by
      intro c hc n1
      refine W.step (fun k => by simp only [impl_RangeDo.j3]; rfl) ?_
      refine W.ite (fun h1 => ?_) (fun h1 => ?_)
      · have := hc.1 h1
        rw [if_pos this]
        refine W.bind (iWrap (by omega) (by omega) hl hh hl2 hh2) ?_
        rintro _ rfl
        exact W.ret rfl
      · have : ¬ (op ≥ 11) := fun z => h1 (hc.2 z)
        rw [if_neg this]
        refine W.ite (fun h2 => t4 _ ?_ n1 this) (fun h2 => t4 _ ?_ n1 this)
        · simp [h2]
        · simp only [beq_iff_eq]; omega
    have t1 : ∀ c : Bool, (c = true ↔ (op ≤ 3)) → W (fun k => impl_RangeDo.j1 k op op c l h l2 h2) (· = if op ≤ 3 then ((cut (crn op l h l2 h2).1 (crn op l h l2 h2).2).1, (cut (crn op l h l2 h2).1 (crn op l h l2 h2).2).2, if (crn op l h l2 h2).1 < -2147483648 ∨ (crn op l h l2 h2).2 > 2147483647 then [1] else [])
        else if op ≥ 11 then ((rwrap op l h l2 h2).1, (rwrap op l h l2 h2).2, []) else if op ≥ 9 then rshift op l h l2 h2 else if op = 4 then rdiv l h l2 h2 else if op = 5 then rrem l h l2 h2 else ((rbits op l h l2 h2).1, (rbits op l h l2 h2).2, [])) := by
      intro c hc
      refine W.step (fun k => by simp only [impl_RangeDo.j1]; rfl) ?_
      refine W.ite (fun h1 => ?_) (fun h1 => ?_)
      · have h3 := hc.1 h1
        rw [if_pos h3]
        have ft : ∀ b, Fit op b := fun b => ⟨fun h => absurd h (by omega), fun h => absurd h (by omega)⟩
        refine W.bind (iCorners (by omega) (by omega) hl hh hl2 hh2 (ft _) (ft _)) ?_
        rintro _ rfl
        have t2 : ∀ b : Bool, (b = true ↔ ((crn op l h l2 h2).1 < -2147483648 ∨ (crn op l h l2 h2).2 > 2147483647)) → W (fun k => impl_RangeDo.j2 k (crn op l h l2 h2).1 (crn op l h l2 h2).2 b) (· = ((cut (crn op l h l2 h2).1 (crn op l h l2 h2).2).1, (cut (crn op l h l2 h2).1 (crn op l h l2 h2).2).2, if (crn op l h l2 h2).1 < -2147483648 ∨ (crn op l h l2 h2).2 > 2147483647 then [1] else [])) := by
          intro b hb
          refine W.step (fun k => by simp only [impl_RangeDo.j2, iFrom, Option.bind_some]; rfl) ?_
          refine W.ite (fun h4 => W.ret ?_) (fun h4 => W.ret ?_)
          · rw [if_pos (hb.1 h4)]
          · rw [if_neg (fun z => h4 (hb.2 z))]
        refine W.ite (fun h4 => t2 _ ?_) (fun h4 => t2 _ ?_)
        · simp [h4]
        · simp only [decide_eq_true_iff]; omega
      · have h3 : ¬ op ≤ 3 := fun z => h1 (hc.2 z)
        rw [if_neg h3]
        refine W.ite (fun h4 => t3 _ ?_ h3) (fun h4 => W.ite (fun h5 => t3 _ ?_ h3) (fun h5 => t3 _ ?_ h3))
        · simp [h4]
        · simp [h5]
        · simp only [beq_iff_eq]; omega
    refine W.ite (fun h4 => t1 _ ?_) (fun h4 => W.ite (fun h5 => t1 _ ?_) (fun h5 => t1 _ ?_))
    · simp [h4]
    · simp [h5]
    · simp only [beq_iff_eq]; omega
  unfold impl_RangeDo.f
  simp only [iNumOp, iRangeOk, impl_Range_empty.f, Option.bind_some]
  refine W.dec (fun h1 => W.dec (fun h3 => W.dec (fun h4 => W.dec (fun h5 => bad ?_) (fun h5 => ?_)) (fun h4 => bad ?_)) (fun h3 => bad ?_)) (fun h1 => bad ?_)
  · exact .inr (.inr (.inr (.inl h5)))
  · by_cases h6 : l2 > h2
    · rw [decide_eq_true h6]; exact bad (.inr (.inr (.inr (.inr h6))))
    · rw [decide_eq_false h6]
      refine good ?_
      unfold badDo
      simp only [h3, h4, not_true, false_or]
      omega
  · exact .inr (.inr (.inl h4))
  · exact .inr (.inl h3)
  · exact .inl h1

theorem sameInts_one (x : Int) : W (fun k => laws_sameInts.f k [x] [x]) (· = true) := by
  refine ⟨_, rfl, 3, fun k hk => ?_⟩
  obtain ⟨m, rfl⟩ : ∃ m, k = m + 3 := ⟨k - 3, by omega⟩
  simp [laws_sameInts.f, laws_sameInts.l0, wrap64]
theorem crn_one (op a b : Int) : crn op a a b b = (exactV op a b, exactV op a b) := by
  unfold crn; simp only [mn_self, mx_self]
theorem rmeet_one {b x y : Int} (hb : N32 b) (o : okR x y) (n : ¬ isNone x y) : rmeet b b x y = if x ≤ b ∧ b ≤ y then (b, b) else (1, 0) := by
  unfold rmeet
  have o1 : okR b b := by unfold okR; unfold N32 at hb; omega
  have n1 : ¬ isNone b b := by unfold isNone; omega
  rw [if_neg (by simp [o, o1, n, n1])]
  unfold N32 at hb; unfold okR at o; unfold isNone at n
  have h1 := mx_cases b x; have h2 := mx_cases (mx b x) (-2147483648); have h3 := mn_cases b y; have h4 := mn_cases (mn b y) 2147483647
  unfold cut
  by_cases c : x ≤ b ∧ b ≤ y
  · rw [if_pos c, if_neg (by omega)]
    exact Prod.ext (by simp only; omega) (by simp only; omega)
  · rw [if_neg c, if_pos (by omega)]
theorem cut_one (v : Int) : cut v v = if N32 v then (v, v) else (1, 0) := by
  have h2 := mx_cases v (-2147483648); have h4 := mn_cases v 2147483647
  unfold cut
  by_cases c : N32 v
  · have c0 := c
    unfold N32 at c0
    rw [if_pos c, if_neg (by omega)]
    exact Prod.ext (by simp only; omega) (by simp only; omega)
  · have c0 := c
    unfold N32 at c0
    rw [if_neg c, if_pos (by omega)]
theorem hasR_one {b v : Int} (hb : N32 b) : hasR b b v = decide (b = v) := by
  unfold hasR
  have o1 : okR b b := by unfold okR; unfold N32 at hb; omega
  apply decide_eq_decide.2
  constructor
  · intro h; omega
  · rintro rfl; exact ⟨o1, by omega, by omega⟩
theorem numLow {op a b : Int} (ho : 1 ≤ op ∧ op ≤ 10) (ha : N32 a) (hb : N32 b) (hf : Fit op b) : numDo op a b = if N32 (exactV op a b) then (exactV op a b, 0) else (0, 1) := by
  rw [numDo_main (by omega) ha hb hf, if_neg (by omega)]
  rfl
theorem tdiv_one {a b : Int} (ha : N32 a) (hb : N32 b) (h0 : b ≠ 0) : N32 (a.tdiv b) ↔ ¬ (a = -2147483648 ∧ b = -1) := by
  have hd := tdiv_bound (b := b) ha
  constructor
  · rintro h ⟨rfl, rfl⟩
    exact absurd h (by decide)
  · intro h
    unfold N32 at ha hb ⊢
    refine ⟨hd.1, ?_⟩
    have e : (a.tdiv b).natAbs = a.natAbs / b.natAbs := Int.natAbs_tdiv a b
    by_cases h1 : 2 ≤ b.natAbs
    · have h2 : a.natAbs / b.natAbs ≤ a.natAbs / 2 := Nat.div_le_div_left h1 (by omega)
      omega
    · have h3 : b = 1 ∨ b = -1 := by omega
      rcases h3 with rfl | rfl
      · rw [Int.tdiv_one]; omega
      · have h4 : (-1 : Int).natAbs = 1 := rfl
        rw [h4, Nat.div_one] at e
        omega
theorem tmod_one {a b : Int} (hb : N32 b) (h0 : b ≠ 0) : N32 (a.tmod b) := by
  have e : (a.tmod b).natAbs = a.natAbs % b.natAbs := Int.natAbs_tmod a b
  have h1 : a.natAbs % b.natAbs < b.natAbs := Nat.mod_lt _ (by omega)
  unfold N32 at hb ⊢
  omega
theorem bits_one {op a b : Int} (ho : op = 6 ∨ op = 7 ∨ op = 8) : N32 (exactV op a b) := by
  have h1 := u32_lt a; have h2 := u32_lt b
  rcases ho with rfl | rfl | rfl
  · exact s32_ok (and_lt h1)
  · exact s32_ok (or_lt h1 h2)
  · exact s32_ok (xor_lt h1 h2)
/-- Of single numbers a range is what the numbers make. -/
theorem oneDo {op a b : Int} (ho : 1 ≤ op ∧ op ≤ 13) (ha : N32 a) (hb : N32 b) : rangeDo op a a b b = if (numDo op a b).2 = 0 then ((numDo op a b).1, (numDo op a b).1, []) else (1, 0, [(numDo op a b).2]) := by
  have hg : ¬ badDo op a a b b := by
    unfold badDo okR; unfold N32 at ha hb; omega
  have fit : ¬ op = 4 → ¬ op = 5 → ¬ op = 9 → ¬ op = 10 → Fit op b := fun a b c d => ⟨fun z => absurd z (by omega), fun z => absurd z (by omega)⟩
  unfold rangeDo
  rw [if_neg hg]
  by_cases h1 : op ≤ 3
  · rw [if_pos h1, crn_one, numLow (by omega) ha hb (fit (by omega) (by omega) (by omega) (by omega))]
    simp only [cut_one]
    by_cases hv : N32 (exactV op a b)
    · have hv0 := hv
      unfold N32 at hv0
      simp only [if_pos hv, if_true]
      rw [if_neg (by omega)]
    · have hv0 := hv
      unfold N32 at hv0
      simp only [if_neg hv]
      rw [if_pos (by omega), if_neg (by decide)]
  rw [if_neg h1]
  by_cases h2 : op ≥ 11
  · rw [if_pos h2, numDo_main ho ha hb (fit (by omega) (by omega) (by omega) (by omega)), if_pos h2]
    unfold rwrap
    rw [crn_one, if_neg (by simp only; omega)]
    rfl
  rw [if_neg h2]
  by_cases h3 : op ≥ 9
  · rw [if_pos h3]
    unfold rshift
    rw [rmeet_one hb (x := 0) (y := 31) (by unfold okR; omega) (by unfold isNone; omega)]
    by_cases h4 : 0 ≤ b ∧ b ≤ 31
    · rw [if_pos h4]
      simp only [crn_one, cut_one]
      rw [if_neg (by omega), numLow (by omega) ha hb ⟨fun z => absurd z (by omega), fun _ => h4⟩]
      have hoff : offB b b b b = false := by simp [offB]
      rw [hoff]
      by_cases hv : N32 (exactV op a b)
      · have hv0 := hv
        unfold N32 at hv0
        rw [if_neg (show ¬ (exactV op a b < -2147483648 ∨ exactV op a b > 2147483647) by omega)]
        simp [if_pos hv]
      · have hv0 := hv
        unfold N32 at hv0
        rw [if_pos (show (exactV op a b < -2147483648 ∨ exactV op a b > 2147483647) by omega)]
        simp [if_neg hv]
    · rw [if_neg h4, if_pos (by decide)]
      have e : numDo op a b = (0, 3) := by
        unfold numDo
        unfold N32 at ha hb
        rw [if_neg (by omega), if_neg (by omega), if_pos (by omega)]
      rw [e]
      have : offB (1, 0).1 (1, 0).2 b b = true := by
        unfold offB
        have : ¬ (1 = b ∧ 0 = b) := by omega
        simp; omega
      rw [this]
      rfl
  rw [if_neg h3]
  have m1 := rmeet_one hb (x := -2147483648) (y := -1) (by unfold okR; omega) (by unfold isNone; omega)
  have m2 := rmeet_one hb (x := 1) (y := 2147483647) (by unfold okR; omega) (by unfold isNone; omega)
  by_cases h4 : op = 4
  · subst h4
    rw [if_pos rfl]
    unfold rdiv
    rw [m1, m2, hasR_one ha, hasR_one hb, hasR_one hb]
    unfold N32 at ha hb
    by_cases hz : b = 0
    · subst hz
      have e : numDo 4 a 0 = (0, 2) := by
        unfold numDo
        rw [if_neg (by omega), if_pos (by omega)]
      rw [e]
      simp
    · rw [numLow (by omega) ha hb ⟨fun _ => hz, fun z => absurd z (by omega)⟩]
      have e4 : exactV 4 a b = a.tdiv b := by simp [exactV]
      have ht := tdiv_one (a := a) (b := b) ha hb hz
      have fin : ∀ c : Int × Int, c = cut (a.tdiv b) (a.tdiv b) → (c.1, c.2, (if (decide (a = -2147483648) && decide (b = -1)) = true then [1] else []) ++ (if decide (b = 0) = true then [2] else [])) = if (if N32 (exactV 4 a b) then (exactV 4 a b, (0 : Int)) else (0, 1)).2 = 0 then ((if N32 (exactV 4 a b) then (exactV 4 a b, (0 : Int)) else (0, 1)).1, (if N32 (exactV 4 a b) then (exactV 4 a b, (0 : Int)) else (0, 1)).1, []) else (1, 0, [(if N32 (exactV 4 a b) then (exactV 4 a b, (0 : Int)) else (0, 1)).2]) := by
        rintro _ rfl
        rw [e4, cut_one]
        by_cases hv : N32 (a.tdiv b)
        · have := ht.1 hv
          simp only [if_pos hv]
          simp [hz]
          exact fun h5 h6 => this ⟨h5, h6⟩
        · have hx : a = -2147483648 ∧ b = -1 := Decidable.byContradiction fun z => hv (ht.2 z)
          simp only [if_neg hv]
          simp [hx.1, hx.2]
      by_cases hn : b ≤ -1
      · rw [if_pos (show -2147483648 ≤ b ∧ b ≤ -1 by omega), if_neg (show ¬ (1 ≤ b ∧ b ≤ 2147483647) by omega)]
        refine fin _ ?_
        simp only [crn_one]
        rw [if_neg (by omega), if_pos (by omega), e4]
      · rw [if_neg (show ¬ (-2147483648 ≤ b ∧ b ≤ -1) by omega), if_pos (show 1 ≤ b ∧ b ≤ 2147483647 by omega)]
        refine fin _ ?_
        simp only [crn_one]
        rw [if_pos (by omega), if_neg (by omega), e4]
  rw [if_neg h4]
  by_cases h5 : op = 5
  · subst h5
    rw [if_pos rfl]
    unfold rrem
    by_cases hz : b = 0
    · subst hz
      rw [if_neg (by omega), m1, m2, hasR_one hb]
      unfold N32 at ha
      have e : numDo 5 a 0 = (0, 2) := by
        unfold numDo
        rw [if_neg (by omega), if_pos (by omega)]
      rw [e]
      simp
    · rw [if_pos ⟨rfl, rfl, hz⟩, numLow (by omega) ha hb ⟨fun _ => hz, fun z => absurd z (by omega)⟩]
      have e5 : exactV 5 a b = a.tmod b := by simp [exactV]
      rw [e5, if_pos (tmod_one hb hz)]
      rfl
  rw [if_neg h5, numLow (by omega) ha hb (fit h4 h5 (by omega) (by omega)), if_pos (bits_one (by omega))]
  unfold rbits
  rw [if_pos ⟨rfl, rfl⟩]
  rfl

theorem FnRangeOne : laws_FnRangeOne.Pure := by
  intro code _ _ hb
  apply W.eq
  unfold laws_FnRangeOne.f
  refine W.ite (fun _ => W.ret rfl) (fun _ => ?_)
  refine W.bind (drawNumDo_ok code hb) ?_
  rintro ⟨op, a, b⟩ -
  simp only
  refine W.bind (iRangeDo op a a b b) ?_
  rintro _ rfl
  refine W.bind (iNumDo op a b) ?_
  rintro _ rfl
  refine W.bind (sNumDo op a b) ?_
  rintro _ rfl
  refine W.pos rfl ?_
  rw [show ((numDo op a b).2 != (numDo op a b).2) = false by simp]
  refine W.step (fun k => by simp only [laws_FnRangeOne.j0, nsNumOk, Option.bind_some]; rfl) ?_
  refine W.neg (by decide) ?_
  have bad : ¬ ((1 ≤ op ∧ op ≤ 13) ∧ N32 a ∧ N32 b) → W (fun k => laws_FnRangeOne.j1 k (rangeDo op a a b b).2.2 (numDo op a b).1 (numDo op a b).2 true (rangeDo op a a b b).1 (rangeDo op a a b b).2.1) (· = true) := by
    intro h
    have e : rangeDo op a a b b = (1, 0, []) := by
      unfold rangeDo
      rw [if_pos]
      unfold badDo
      by_cases h1 : 1 ≤ op ∧ op ≤ 13
      · by_cases h2 : N32 a
        · have h3 : ¬ N32 b := fun z => h ⟨h1, h2, z⟩
          refine .inr (.inr (.inl ?_))
          unfold okR; unfold N32 at h3; omega
        · refine .inr (.inl ?_)
          unfold okR; unfold N32 at h2; omega
      · exact .inl h1
    rw [e]
    refine W.step (fun k => by simp only [laws_FnRangeOne.j1]; rfl) ?_
    exact W.pos (by trivial) (W.pos (by rfl) (W.ret (by decide)))
  refine W.dec (fun h1 => W.dec (fun h2 => W.ite (fun h3 => bad (fun z => by omega)) (fun h3 => ?_)) (fun h2 => bad (fun z => h2 z.2.2))) (fun h1 => bad (fun z => h1 z.2.1))
  by_cases h4 : op > 13
  · rw [decide_eq_true h4]; exact bad (fun z => by omega)
  rw [decide_eq_false h4, oneDo (by omega) h1 h2]
  refine W.step (fun k => by simp only [laws_FnRangeOne.j1]; rfl) ?_
  refine W.neg (by decide) ?_
  refine W.ite (fun h5 => ?_) (fun h5 => ?_)
  · rw [if_pos h5]
    exact W.pos (by rfl) (W.ret (by simp))
  · rw [if_neg h5]
    refine W.bind (sameInts_one _) ?_
    rintro _ rfl
    exact W.pos (by trivial) (W.ret (by rfl))

end Go.Proofs.Ythbkakcchgnhpaa.Pure
