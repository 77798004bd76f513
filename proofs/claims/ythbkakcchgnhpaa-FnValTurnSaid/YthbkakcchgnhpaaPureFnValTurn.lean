/- The pure statement of the law FnValTurn: for every input the printed function answers true. -/
import Derived.Test.YthbkakcchgnhpaaPFnValTurnx0
import Derived.Test.YthbkakcchgnhpaaPFnValTurnx1
import Derived.Test.YthbkakcchgnhpaaPFnValTurnx2
import Derived.Test.YthbkakcchgnhpaaPFnValTurnx3
import Derived.Test.YthbkakcchgnhpaaPFnValTurnx4
import Derived.Test.YthbkakcchgnhpaaPFnValTurnx5
import Derived.Test.YthbkakcchgnhpaaPFnValTurnx6
import Derived.Test.YthbkakcchgnhpaaPFnValTurnx7
import Derived.Test.YthbkakcchgnhpaaPFnValTurnx8
import Derived.Test.YthbkakcchgnhpaaPFnValTurnx9
import Derived.Test.YthbkakcchgnhpaaLv
namespace Go.Proofs.Ythbkakcchgnhpaa.Pure
open Go Go.RowKit Go.Proofs.Ythbkakcchgnhpaa.PFnValTurn Go.Proofs.YthbkakcchgnhpaaV.PrintWords Go.Proofs.YthbkakcchgnhpaaV.PrintLast Go.Proofs.YthbkakcchgnhpaaV.PrintMore Go.Proofs.Ythbkakcchgnhpaa.Lib
set_option linter.unusedVariables false
set_option linter.unusedSimpArgs false

def okN (v : Int) : Prop := -2147483648 ≤ v ∧ v ≤ 2147483647
instance (v : Int) : Decidable (okN v) := by unfold okN; exact inferInstance
theorem sNumOk (v : Int) : spec_NumOk.f v = some (decide (okN v)) := by
  simp only [spec_NumOk.f, spec_l1In.f, okN]
  by_cases h : v ≥ -2147483648 <;> simp [h]
theorem iNumOk (v : Int) : impl_NumOk.f v = some (decide (okN v)) := by
  simp only [impl_NumOk.f, okN]
  by_cases h : v ≥ -2147483648 <;> simp [h]

theorem tmod_pos {a n : Int} (h : 0 ≤ a) (hn : 1 ≤ n) : 0 ≤ a.tmod n ∧ a.tmod n < n := by
  rw [Int.tmod_eq_emod_of_nonneg h]
  exact ⟨Int.emod_nonneg _ (by omega), Int.emod_lt_of_pos _ (by omega)⟩

theorem power_loop (n : Int) (hn : n ≤ 61) (d : Nat) : ∀ i : Int, 0 ≤ i → i ≤ n → n - i = d → W (fun k => spec_l1Power.l0 k n (2 ^ i.toNat) i) (· = 2 ^ n.toNat) := by
  induction d with
  | zero =>
    intro i h0 h1 hd
    refine W.step (fun k => by simp only [spec_l1Power.l0]; rfl) ?_
    exact W.neg (by omega) (W.ret (by rw [show i = n by omega]))
  | succ d ih =>
    intro i h0 h1 hd
    refine W.step (fun k => by simp only [spec_l1Power.l0]; rfl) ?_
    refine W.pos (by omega) ?_
    have hp : (2 : Int) ^ i.toNat ≤ 2 ^ 61 := pow_mono (by omega)
    have hq := pow_pos' i.toNat
    have h := ih (i + 1) (by omega) (by omega) (by omega)
    rw [show (i + 1).toNat = i.toNat + 1 by omega, Int.pow_succ, Int.mul_comm] at h
    rw [wrap64_id (n := i + 1) (by omega) (by omega), wrap64_id (n := 2 * 2 ^ i.toNat) (by omega) (by omega)]
    exact h
theorem power_ok (n : Int) (h0 : 0 ≤ n) (hn : n ≤ 61) : W (fun k => spec_l1Power.f k n) (· = 2 ^ n.toNat) := by
  unfold spec_l1Power.f
  exact power_loop n hn n.toNat 0 (by omega) h0 (by omega)

theorem sNumWrap (a : Int) (h0 : -9223372036854775808 ≤ a) (h1 : a ≤ 9223372036854775807) : spec_NumWrap.f a = some (wrap32 a) := by
  simp only [spec_NumWrap.f, spec_l1Mod.f]
  have e := tmod_up (n := a) (m := 4294967296) (by omega)
  have b := tmod_bounds (n := a) (m := 4294967296) (by omega)
  rw [if_neg (by omega)]
  by_cases hn : a.tmod 4294967296 < 0
  · rw [if_pos hn] at e ⊢
    rw [wrap64_id (by omega) (by omega), e]
    simp only [Option.bind_some]
    by_cases hm : a % 4294967296 > 2147483647
    · rw [if_pos hm]
      congr 1; unfold wrap64 wrap32; omega
    · rw [if_neg hm]
      congr 1; unfold wrap32; omega
  · rw [if_neg hn] at e ⊢
    rw [e]
    simp only [Option.bind_some]
    by_cases hm : a % 4294967296 > 2147483647
    · rw [if_pos hm]
      congr 1; unfold wrap64 wrap32; omega
    · rw [if_neg hm]
      congr 1; unfold wrap32; omega
theorem wrap32_ok (a : Int) : -2147483648 ≤ wrap32 a ∧ wrap32 a ≤ 2147483647 := by unfold wrap32; omega
theorem wrap64_ok (a : Int) : -9223372036854775808 ≤ wrap64 a ∧ wrap64 a ≤ 9223372036854775807 := by unfold wrap64; omega


/-! ### the reader of codes -/
theorem rd_byte {b : List Int} (hb : ∀ x ∈ b, 0 ≤ x ∧ x ≤ 255) (i : Int) : 0 ≤ rd b i ∧ rd b i ≤ 255 := by
  unfold rd
  rw [List.getD_eq_getElem?_getD]
  by_cases h : i.toNat < b.length
  · rw [List.getElem?_eq_getElem h]; exact hb _ (List.getElem_mem h)
  · rw [List.getElem?_eq_none (by omega)]; simp
theorem xor64 {a b : Int} (h0 : 0 ≤ a) (h1 : a ≤ 9223372036854775807) (h2 : 0 ≤ b) (h3 : b ≤ 9223372036854775807) : 0 ≤ Go.bits .xor .i64 a b := by
  show 0 ≤ IntKind.i64.wrap ((BitVec.ofInt 64 a ^^^ BitVec.ofInt 64 b).toNat : Int)
  rw [wrap64_bv]
  have e : ∀ x : Int, 0 ≤ x → x ≤ 9223372036854775807 → (BitVec.ofInt 64 x).toNat = x.toNat := by
    intro x g0 g1
    rw [BitVec.toNat_ofInt]; congr 1; exact Int.emod_eq_of_lt g0 (by omega)
  rw [BitVec.toInt_eq_toNat_cond, BitVec.toNat_xor, e a h0 h1, e b h2 h3]
  have := Nat.xor_lt_two_pow (n := 63) (x := a.toNat) (y := b.toNat) (by omega) (by omega)
  rw [if_pos (by omega)]
  omega
def Pick (p n : Int) (r : Int × Int) : Prop := r.2 = p + 1 ∧ (1 ≤ n → 0 ≤ r.1 ∧ r.1 < n)
theorem pick_ok {b : List Int} (hb : ∀ x ∈ b, 0 ≤ x ∧ x ≤ 255) (hl : b.length ≤ 2000) (p n : Int) (hp : 0 ≤ p) (hq : p ≤ 1000000) : W (fun k => spec_l1Rd_pick.f k b p n) (Pick p n) := by
  unfold spec_l1Rd_pick.f
  rw [wrap64_id (n := p + 1) (by omega) (by omega)]
  refine W.ite (fun h => ?_) (fun h => ?_)
  · exact W.step (f := fun _ => some (0, p + 1)) (fun k => by simp only [spec_l1Rd_pick.j0, if_true]) (W.ret ⟨rfl, fun h1 => by omega⟩)
  · by_cases hz : b.length = 0
    · exact W.step (f := fun _ => some (0, p + 1)) (fun k => by simp only [spec_l1Rd_pick.j0, hz]; rfl) (W.ret ⟨rfl, fun h1 => by simp only; omega⟩)
    · have e : ((b.length : Int) == 0) = false := by simpa using hz
      rw [e]
      refine W.step (fun k => by simp only [spec_l1Rd_pick.j0]; rfl) ?_
      rw [show p + 1 - 1 = p by omega, wrap64_id (n := p) (by omega) (by omega)]
      refine W.neg (by decide) ?_
      have hn0 : ¬ n = 0 := by omega
      have ht : ∀ x : Int, 0 ≤ x → Pick p n (x.tmod n, p + 1) := fun x hx => ⟨rfl, fun h1 => tmod_pos hx h1⟩
      refine W.ite (fun h1 => ?_) (fun h1 => ?_)
      · refine W.pos hp (W.neg hn0 (W.ret ?_))
        have := rd_byte hb p
        rw [wrap64_id (by omega) (by omega)]
        exact ht _ this.1
      · have hL : (1 : Int) ≤ b.length := by omega
        refine W.neg (by omega) ?_
        have t1 := tmod_pos (a := p) hp hL
        have t2 := tmod_pos (a := p * 7 + 3) (by omega) hL
        rw [wrap64_id (n := p * 7) (by omega) (by omega), wrap64_id (n := p * 7 + 3) (by omega) (by omega)]
        refine W.pos t1.1 (W.pos t1.2 (W.pos t2.1 (W.pos t2.2 (W.neg hn0 (W.ret ?_)))))
        have r1 := rd_byte hb (Int.tmod p b.length)
        have r2 := rd_byte hb (Int.tmod (p * 7 + 3) b.length)
        have d1 : 0 ≤ Int.tdiv p b.length ∧ Int.tdiv p b.length ≤ p := by
          rw [Int.tdiv_eq_ediv_of_nonneg hp]
          exact ⟨Int.ediv_nonneg hp (by omega), Int.ediv_le_self _ hp⟩
        generalize rd b (Int.tmod p b.length) = c1 at *
        generalize rd b (Int.tmod (p * 7 + 3) b.length) = c2 at *
        generalize Int.tdiv p b.length = c3 at *
        rw [wrap64_id (n := c1) (by omega) (by omega), wrap64_id (n := c2) (by omega) (by omega), wrap64_id (n := c3) (by omega) (by omega), wrap64_id (n := c1 * 131) (by omega) (by omega), wrap64_id (n := c2 * 1117) (by omega) (by omega),
          wrap64_id (n := c1 * 131 + c2 * 1117) (by omega) (by omega), wrap64_id (n := p * 29) (by omega) (by omega), wrap64_id (n := c1 * 131 + c2 * 1117 + p * 29) (by omega) (by omega), wrap64_id (n := c3 * 53) (by omega) (by omega),
          wrap64_id (n := c1 * 131 + c2 * 1117 + p * 29 + c3 * 53) (by omega) (by omega)]
        refine ht _ (xor64 (by omega) (by omega) ?_ ?_)
        · rw [Int.tdiv_eq_ediv_of_nonneg (by omega), wrap64_id (by omega) (by omega)]; omega
        · rw [Int.tdiv_eq_ediv_of_nonneg (by omega), wrap64_id (by omega) (by omega)]; omega

def Num (p m : Int) (r : Int × Int) : Prop := (-2147483648 ≤ r.1 ∧ r.1 ≤ 2147483647) ∧ p ≤ r.2 ∧ r.2 ≤ p + m
theorem num_loop {b : List Int} (hb : ∀ x ∈ b, 0 ≤ x ∧ x ≤ 255) (hl : b.length ≤ 2000) (d : Nat) : ∀ (v i p : Int), 0 ≤ i → i ≤ 4 → 4 - i = d → 0 ≤ p → p + d ≤ 999000 → W (fun k => spec_l1Rd_num.l0 k v i b p) (Num p d) := by
  induction d with
  | zero =>
    intro v i p h0 h1 hd hp hq
    refine W.step (fun k => by simp only [spec_l1Rd_num.l0]; rfl) ?_
    refine W.neg (by omega) ?_
    by_cases hv : -9223372036854775808 ≤ v ∧ v ≤ 9223372036854775807
    · refine W.bind (W.const (sNumWrap v hv.1 hv.2) rfl) ?_
      rintro _ rfl
      exact W.ret ⟨wrap32_ok v, by simp only; omega, by simp only; omega⟩
    · have he : spec_NumWrap.f v = spec_NumWrap.f v := rfl
      obtain ⟨r, hr, ho⟩ : ∃ r, spec_NumWrap.f v = some r ∧ (-2147483648 ≤ r ∧ r ≤ 2147483647) := by
        simp only [spec_NumWrap.f, spec_l1Mod.f]
        have e := tmod_up (n := v) (m := 4294967296) (by omega)
        have b := tmod_bounds (n := v) (m := 4294967296) (by omega)
        rw [if_neg (by omega)]
        by_cases hn : v.tmod 4294967296 < 0
        · rw [if_pos hn] at e ⊢
          rw [wrap64_id (by omega) (by omega), e]
          simp only [Option.bind_some]
          by_cases hm : v % 4294967296 > 2147483647
          · rw [if_pos hm]; exact ⟨_, rfl, by rw [wrap64_id (by omega) (by omega)]; omega⟩
          · rw [if_neg hm]; exact ⟨_, rfl, by omega⟩
        · rw [if_neg hn] at e ⊢
          rw [e]
          simp only [Option.bind_some]
          by_cases hm : v % 4294967296 > 2147483647
          · rw [if_pos hm]; exact ⟨_, rfl, by rw [wrap64_id (by omega) (by omega)]; omega⟩
          · rw [if_neg hm]; exact ⟨_, rfl, by omega⟩
      refine W.bind (W.const hr rfl) ?_
      rintro _ rfl
      exact W.ret ⟨ho, by simp only; omega, by simp only; omega⟩
  | succ d ih =>
    intro v i p h0 h1 hd hp hq
    refine W.step (fun k => by simp only [spec_l1Rd_num.l0]; rfl) ?_
    refine W.pos (by omega) ?_
    refine W.bind (pick_ok hb hl p 256 hp (by omega)) ?_
    rintro ⟨c, q⟩ ⟨rfl, _⟩
    rw [wrap64_id (n := i + 1) (by omega) (by omega)]
    refine (ih _ (i + 1) (p + 1) (by omega) (by omega) (by omega) (by omega) (by omega)).mono ?_
    rintro r ⟨h1, h2, h3⟩
    exact ⟨h1, by omega, by omega⟩
theorem num_ok {b : List Int} (hb : ∀ x ∈ b, 0 ≤ x ∧ x ≤ 255) (hl : b.length ≤ 2000) (p : Int) (hp : 0 ≤ p) (hq : p ≤ 900000) : W (fun k => spec_l1Rd_num.f k b p) (Num p 6) := by
  unfold spec_l1Rd_num.f
  refine W.bind (pick_ok hb hl p 10 hp (by omega)) ?_
  rintro ⟨c, q⟩ ⟨rfl, _⟩
  simp only
  refine W.ite (fun _ => ?_) (fun _ => W.ite (fun _ => ?_) (fun _ => W.ite (fun _ => ?_) (fun _ => W.ite (fun _ => ?_) (fun _ => W.ite (fun _ => ?_) (fun _ => ?_)))))
  · refine W.bind (pick_ok hb hl (p + 1) 21 (by omega) (by omega)) ?_
    rintro ⟨c, q⟩ ⟨rfl, h⟩
    have h := h (by omega)
    simp only at h
    exact W.ret ⟨by simp only; rw [wrap64_id (by omega) (by omega)]; omega, by simp only; omega, by simp only; omega⟩
  · refine W.bind (pick_ok hb hl (p + 1) 3 (by omega) (by omega)) ?_
    rintro ⟨c, q⟩ ⟨rfl, h⟩
    have h := h (by omega)
    simp only at h
    exact W.ret ⟨by simp only; rw [wrap64_id (by omega) (by omega)]; omega, by simp only; omega, by simp only; omega⟩
  · refine W.bind (pick_ok hb hl (p + 1) 3 (by omega) (by omega)) ?_
    rintro ⟨c, q⟩ ⟨rfl, h⟩
    have h := h (by omega)
    simp only at h
    exact W.ret ⟨by simp only; rw [wrap64_id (by omega) (by omega)]; omega, by simp only; omega, by simp only; omega⟩
  · refine W.bind (pick_ok hb hl (p + 1) 31 (by omega) (by omega)) ?_
    rintro ⟨c, q⟩ ⟨rfl, h⟩
    have h := h (by omega)
    simp only at h
    refine W.bind (power_ok c (by omega) (by omega)) ?_
    rintro _ rfl
    have hp1 : (2 : Int) ^ c.toNat ≤ 2 ^ 30 := pow_mono (by omega)
    have hp2 := pow_pos' c.toNat
    refine W.bind (pick_ok hb hl (p + 1 + 1) 3 (by omega) (by omega)) ?_
    rintro ⟨c2, q⟩ ⟨rfl, h⟩
    have h := h (by omega)
    simp only at h
    refine W.ret ⟨?_, by simp only; omega, by simp only; omega⟩
    simp only
    rw [wrap64_id (n := 2 ^ c.toNat + c2) (by omega) (by omega), wrap64_id (by omega) (by omega)]; omega
  · refine W.bind (pick_ok hb hl (p + 1) 31 (by omega) (by omega)) ?_
    rintro ⟨c, q⟩ ⟨rfl, h⟩
    have h := h (by omega)
    simp only at h
    refine W.bind (power_ok c (by omega) (by omega)) ?_
    rintro _ rfl
    have hp1 : (2 : Int) ^ c.toNat ≤ 2 ^ 30 := pow_mono (by omega)
    have hp2 := pow_pos' c.toNat
    refine W.bind (pick_ok hb hl (p + 1 + 1) 3 (by omega) (by omega)) ?_
    rintro ⟨c2, q⟩ ⟨rfl, h⟩
    have h := h (by omega)
    simp only at h
    refine W.ret ⟨?_, by simp only; omega, by simp only; omega⟩
    simp only
    rw [wrap64_id (n := -2 ^ c.toNat) (by omega) (by omega), wrap64_id (n := -2 ^ c.toNat + c2) (by omega) (by omega), wrap64_id (by omega) (by omega)]; omega
  · refine (num_loop hb hl 4 0 0 (p + 1) (by omega) (by omega) (by omega) (by omega) (by omega)).mono ?_
    rintro r ⟨h1, h2, h3⟩
    exact ⟨h1, by omega, by omega⟩
theorem open_ok (code : List Int) (hb : ∀ x ∈ code, (Lit.int .u8 x).wf = true) : ∃ b, spec_l1Open.f code = some (b, 0) ∧ b.length ≤ 2000 ∧ ∀ x ∈ b, 0 ≤ x ∧ x ≤ 255 := by
  unfold spec_l1Open.f
  by_cases h : (code.length : Int) > 2000
  · rw [if_pos h, if_pos (by omega)]
    exact ⟨_, rfl, by simp; omega, fun x hx => u8_wf (hb x (List.mem_of_mem_take hx))⟩
  · rw [if_neg h]
    exact ⟨_, rfl, by omega, fun x hx => u8_wf (hb x hx)⟩

/-! ### what an operator makes of two numbers -/
def exactV (op a b : Int) : Int :=
  if op = 1 ∨ op = 11 then a + b else if op = 2 ∨ op = 12 then a - b else if op = 3 ∨ op = 13 then a * b else if op = 4 then a.tdiv b else if op = 5 then a.tmod b
  else if op = 6 then s32 (u32 a &&& u32 b) else if op = 7 then s32 (u32 a ||| u32 b) else if op = 8 then s32 (u32 a ^^^ u32 b) else if op = 9 then a * 2 ^ b.toNat else if op = 10 then a / 2 ^ b.toNat else 0
theorem mul_bound {a b : Int} (ha : -2147483648 ≤ a ∧ a ≤ 2147483647) (hb : -2147483648 ≤ b ∧ b ≤ 2147483647) : -4611686018427387904 ≤ a * b ∧ a * b ≤ 4611686018427387904 := by
  have h : (a * b).natAbs ≤ 2147483648 * 2147483648 := by
    rw [Int.natAbs_mul]; exact Nat.mul_le_mul (by omega) (by omega)
  omega
theorem mul_bound2 {a b : Int} (ha : -2147483648 ≤ a ∧ a ≤ 2147483647) (hb : 0 ≤ b ∧ b ≤ 2147483648) : -4611686018427387904 ≤ a * b ∧ a * b ≤ 4611686018427387904 := by
  have h : (a * b).natAbs ≤ 2147483648 * 2147483648 := by
    rw [Int.natAbs_mul]; exact Nat.mul_le_mul (by omega) (by omega)
  omega
theorem pow31 {b : Int} (h : b ≤ 31) : (2 : Int) ^ b.toNat ≤ 2147483648 := pow_mono (b := 31) (by omega)
theorem tdiv_bound {a b : Int} (ha : -2147483648 ≤ a ∧ a ≤ 2147483647) : -2147483648 ≤ a.tdiv b ∧ a.tdiv b ≤ 2147483648 := by
  have h : (a.tdiv b).natAbs ≤ a.natAbs := by rw [Int.natAbs_tdiv]; exact Nat.div_le_self _ _
  omega
theorem u64_small {i : Int} (h0 : 0 ≤ i) (h1 : i ≤ 1000) : IntKind.u64.wrap i = i := by
  simp [IntKind.wrap, IntKind.bits, IntKind.signed]; omega
theorem i64wrap {n : Int} (h0 : -9223372036854775808 ≤ n) (h1 : n ≤ 9223372036854775807) : IntKind.i64.wrap n = n := by
  simp [IntKind.wrap, IntKind.bits, IntKind.signed]; omega
theorem shl_id {x i : Int} (h0 : 0 ≤ i) (h1 : i ≤ 63) (hx : -9223372036854775808 ≤ x * 2 ^ i.toNat) (hy : x * 2 ^ i.toNat ≤ 9223372036854775807) : shl .i64 x i = x * 2 ^ i.toNat := by
  unfold shl
  rw [show min i.toNat IntKind.i64.bits = i.toNat by simp [IntKind.bits]; omega]
  exact i64wrap hx hy
theorem shr_id {x i : Int} (h0 : 0 ≤ i) (h1 : i ≤ 63) : shr .i64 x i = x / 2 ^ i.toNat := by
  unfold shr
  rw [show min i.toNat IntKind.i64.bits = i.toNat by simp [IntKind.bits]; omega]
/-- What the quotients, rests and shifts ask ahead. -/
def Fit (op b : Int) : Prop := (op = 4 ∨ op = 5 → b ≠ 0) ∧ (op = 9 ∨ op = 10 → 0 ≤ b ∧ b ≤ 31)
theorem ops {op : Int} (h : 1 ≤ op) (h1 : op ≤ 13) : op = 1 ∨ op = 2 ∨ op = 3 ∨ op = 4 ∨ op = 5 ∨ op = 6 ∨ op = 7 ∨ op = 8 ∨ op = 9 ∨ op = 10 ∨ op = 11 ∨ op = 12 ∨ op = 13 := by omega
theorem iExact {op a b : Int} (h : 1 ≤ op) (h1 : op ≤ 13) (ha : -2147483648 ≤ a ∧ a ≤ 2147483647) (hb : -2147483648 ≤ b ∧ b ≤ 2147483647) (hf : Fit op b) : W (fun k => impl_numExact.f k op a b) (· = exactV op a b) := by
  refine ⟨_, rfl, 3, fun k hk => ?_⟩
  obtain ⟨m, rfl⟩ : ∃ m, k = m + 3 := ⟨k - 3, by omega⟩
  obtain ⟨f1, f2⟩ := hf
  rcases ops h h1 with rfl | rfl | rfl | rfl | rfl | rfl | rfl | rfl | rfl | rfl | rfl | rfl | rfl
  · simp [impl_numExact.f, impl_numExact.j0, exactV]; exact wrap64_id (by omega) (by omega)
  · simp [impl_numExact.f, impl_numExact.j0, impl_numExact.j1, exactV]; exact wrap64_id (by omega) (by omega)
  · have := mul_bound ha hb; simp [impl_numExact.f, impl_numExact.j0, impl_numExact.j1, impl_numExact.j2, exactV]; exact wrap64_id (by omega) (by omega)
  · have := tdiv_bound (b := b) ha; have := f1 (by omega); simp [impl_numExact.f, impl_numExact.j0, impl_numExact.j1, impl_numExact.j2, exactV, this]; exact wrap64_id (by omega) (by omega)
  · have := f1 (by omega); simp [impl_numExact.f, impl_numExact.j0, impl_numExact.j1, impl_numExact.j2, exactV, this]
  · simp [impl_numExact.f, impl_numExact.j0, impl_numExact.j1, impl_numExact.j2, exactV]; exact bits_and ha.1 ha.2 hb.1 hb.2
  · simp [impl_numExact.f, impl_numExact.j0, impl_numExact.j1, impl_numExact.j2, exactV]; exact bits_or ha.1 ha.2 hb.1 hb.2
  · simp [impl_numExact.f, impl_numExact.j0, impl_numExact.j1, impl_numExact.j2, exactV]; exact bits_xor ha.1 ha.2 hb.1 hb.2
  · have hb' := f2 (by omega)
    have hw := u64_small hb'.1 (by omega)
    have hp := mul_bound2 ha ⟨Int.le_of_lt (pow_pos' b.toNat), pow31 hb'.2⟩
    simp [impl_numExact.f, impl_numExact.j0, impl_numExact.j1, impl_numExact.j2, exactV, hw, hb'.1]; exact shl_id hb'.1 (by omega) (by omega) (by omega)
  · have hb' := f2 (by omega)
    have hw := u64_small hb'.1 (by omega)
    simp [impl_numExact.f, impl_numExact.j0, impl_numExact.j1, impl_numExact.j2, exactV, hw, hb'.1]; exact shr_id hb'.1 (by omega)
  · simp [impl_numExact.f, impl_numExact.j0, exactV]; exact wrap64_id (by omega) (by omega)
  · simp [impl_numExact.f, impl_numExact.j0, impl_numExact.j1, exactV]; exact wrap64_id (by omega) (by omega)
  · have := mul_bound ha hb; simp [impl_numExact.f, impl_numExact.j0, impl_numExact.j1, impl_numExact.j2, exactV]; exact wrap64_id (by omega) (by omega)

theorem nsMod {a : Int} (m : Int) (h0 : 0 < m) (h1 : m ≤ 4294967296) : spec_l1Mod.f a m = some (a % m) := by
  simp only [spec_l1Mod.f]
  have e := tmod_up (n := a) (m := m) h0
  have b := tmod_bounds (n := a) (m := m) h0
  rw [if_neg (by omega)]
  by_cases hn : a.tmod m < 0
  · rw [if_pos hn] at e ⊢
    rw [wrap64_id (by omega) (by omega), e]
  · rw [if_neg hn] at e ⊢
    rw [e]
theorem u32_cast (a : Int) : a % 4294967296 = (u32 a : Int) := by unfold u32; omega
theorem bit_cast (A n : Nat) : Int.tmod ((A : Int) / 2 ^ n) 2 = ((A / 2 ^ n % 2 : Nat) : Int) := by
  have : (A : Int) / 2 ^ n = ((A / 2 ^ n : Nat) : Int) := by norm_cast
  rw [this, Int.tmod_eq_emod_of_nonneg (Int.natCast_nonneg _)]; norm_cast
theorem bits_step {X n z : Nat} (hX : X < 4294967296) (hn : n < 32) (hz : X / 2 ^ n % 2 = z) : wrap64 (((X % 2 ^ n : Nat) : Int) + shl .i64 (z : Int) (n : Int)) = ((X % 2 ^ (n + 1) : Nat) : Int) := by
  have hz2 : z < 2 := by omega
  have h1 : X % 2 ^ (n + 1) ≤ X := Nat.mod_le _ _
  have e := mod_succ X n
  rw [hz] at e
  have hp : (2 : Nat) ^ n ≤ 2 ^ 31 := Nat.pow_le_pow_right (by omega) (by omega)
  have hs : (z : Int) * 2 ^ ((n : Int)).toNat = ((2 ^ n * z : Nat) : Int) := by
    rw [Int.toNat_natCast, Nat.mul_comm]; norm_cast
  have hb : 2 ^ n * z ≤ 2 ^ 31 * 1 := Nat.mul_le_mul hp (by omega)
  rw [shl_id (by omega) (by omega) (by rw [hs]; omega) (by rw [hs]; omega), hs, wrap64_id (by omega) (by omega)]
  omega
theorem ediv_bound {a p : Int} (ha : -2147483648 ≤ a ∧ a ≤ 2147483647) (hp : 0 < p) : -2147483648 ≤ a / p ∧ a / p ≤ 2147483647 := by
  constructor
  · rw [Int.le_ediv_iff_mul_le hp]
    have := Int.mul_le_mul_of_nonpos_left (a := -2147483648) (by omega) (show (1 : Int) ≤ p by omega)
    omega
  · rcases Int.le_total 0 a with h | h
    · have := Int.ediv_le_self p h; omega
    · have := Int.ediv_le_ediv hp h; simp at this; omega
theorem floor_eq {a p : Int} (hp : 0 < p) : (a - a % p).tdiv p = a / p := by
  have := Int.mul_ediv_add_emod a p
  rw [show a - a % p = p * (a / p) by omega, Int.mul_tdiv_cancel_left _ (by omega)]
theorem nsNumOk (v : Int) : spec_NumOk.f v = some (decide (-2147483648 ≤ v ∧ v ≤ 2147483647)) := by
  simp only [spec_NumOk.f, spec_l1In.f]
  by_cases h : v ≥ -2147483648 <;> simp [h]
theorem niNumOk (v : Int) : impl_NumOk.f v = some (decide (-2147483648 ≤ v ∧ v ≤ 2147483647)) := by
  simp only [impl_NumOk.f]
  by_cases h : v ≥ -2147483648 <;> simp [h]
theorem nsIn (v a b : Int) : spec_l1In.f v a b = some (decide (a ≤ v ∧ v ≤ b)) := by
  simp only [spec_l1In.f]
  by_cases h : v ≥ a <;> simp [h]
theorem iNumOp (v : Int) : impl_numOp.f v = some (decide (1 ≤ v ∧ v ≤ 13)) := by
  simp only [impl_numOp.f]
  by_cases h : v ≥ 1 <;> simp [h]
theorem iNumWrap (v : Int) : impl_NumWrap.f v = some (wrap32 v) := by
  simp only [impl_NumWrap.f]
  have := wrap32_ok v
  rw [wrap64_id (by omega) (by omega)]
def numDo (op a b : Int) : Int × Int :=
  if ¬ (1 ≤ op ∧ op ≤ 13) ∨ ¬ (-2147483648 ≤ a ∧ a ≤ 2147483647) ∨ ¬ (-2147483648 ≤ b ∧ b ≤ 2147483647) then (0, 0)
  else if (op = 4 ∨ op = 5) ∧ b = 0 then (0, 2)
  else if (op = 9 ∨ op = 10) ∧ ¬ (0 ≤ b ∧ b ≤ 31) then (0, 3)
  else if op ≥ 11 then (wrap32 (exactV op a b), 0)
  else if -2147483648 ≤ exactV op a b ∧ exactV op a b ≤ 2147483647 then (exactV op a b, 0) else (0, 1)
theorem exact_i64 {op a b : Int} (ha : -2147483648 ≤ a ∧ a ≤ 2147483647) (hb : -2147483648 ≤ b ∧ b ≤ 2147483647) (hf : Fit op b) : -9223372036854775808 ≤ exactV op a b ∧ exactV op a b ≤ 9223372036854775807 := by
  unfold exactV
  have h1 := mul_bound ha hb
  have h2 := tdiv_bound (b := b) ha
  have h3 : -2147483648 ≤ a.tmod b ∧ a.tmod b ≤ 2147483647 := by
    have h : (a.tmod b).natAbs ≤ a.natAbs := by rw [Int.natAbs_tmod]; exact Nat.mod_le _ _
    rcases Int.le_total 0 a with g | g
    · have := Int.tmod_nonneg b g
      omega
    · have := Int.tmod_nonneg b (show 0 ≤ -a by omega)
      rw [Int.neg_tmod] at this
      omega
  have h4 := s32_ok (and_lt (A := u32 a) (B := u32 b) (u32_lt a)); have h5 := s32_ok (or_lt (u32_lt a) (u32_lt b)); have h6 := s32_ok (xor_lt (u32_lt a) (u32_lt b))
  split
  · omega
  split
  · omega
  split
  · omega
  split
  · omega
  split
  · omega
  split
  · omega
  split
  · omega
  split
  · omega
  split
  · rename_i h
    have := hf.2 (by omega)
    have := mul_bound2 ha ⟨Int.le_of_lt (pow_pos' b.toNat), pow31 this.2⟩
    omega
  split
  · have := ediv_bound (p := 2 ^ b.toNat) ha (pow_pos' _)
    omega
  · omega
theorem numDo_main {op a b : Int} (h : 1 ≤ op ∧ op ≤ 13) (ha : -2147483648 ≤ a ∧ a ≤ 2147483647) (hb : -2147483648 ≤ b ∧ b ≤ 2147483647) (hf : Fit op b) : numDo op a b = if op ≥ 11 then (wrap32 (exactV op a b), 0) else if -2147483648 ≤ exactV op a b ∧ exactV op a b ≤ 2147483647 then (exactV op a b, 0) else (0, 1) := by
  unfold numDo
  rw [if_neg (by omega), if_neg (fun hc => hf.1 hc.1 hc.2), if_neg (fun hc => hc.2 (hf.2 hc.1))]
theorem iNumDo_tail {op a b : Int} (h : 1 ≤ op ∧ op ≤ 13) (ha : -2147483648 ≤ a ∧ a ≤ 2147483647) (hb : -2147483648 ≤ b ∧ b ≤ 2147483647) (hf : Fit op b) : W (fun k => impl_NumDo.j3 k op a b) (· = numDo op a b) := by
  have hd : numDo op a b = if op ≥ 11 then (wrap32 (exactV op a b), 0) else if -2147483648 ≤ exactV op a b ∧ exactV op a b ≤ 2147483647 then (exactV op a b, 0) else (0, 1) := by
    unfold numDo
    rw [if_neg (by omega), if_neg (fun hc => hf.1 hc.1 hc.2), if_neg (fun hc => hc.2 (hf.2 hc.1))]
  rw [hd]
  refine W.step (fun k => by simp only [impl_NumDo.j3]; rfl) ?_
  refine W.bind (iExact h.1 h.2 ha hb hf) ?_
  rintro _ rfl
  have hw : ∀ c : Int, op ≥ 11 → W (fun k => impl_NumDo.j4 k (exactV op a b) true) (· = if op ≥ 11 then (wrap32 (exactV op a b), 0) else if -2147483648 ≤ exactV op a b ∧ exactV op a b ≤ 2147483647 then (exactV op a b, 0) else (0, 1)) := by
    intro c hop
    refine W.step (fun k => by simp only [impl_NumDo.j4, iNumWrap, Option.bind_some]; rfl) ?_
    exact W.pos (by trivial) (W.ret (by rw [if_pos hop]))
  by_cases h1 : op = 11
  · refine W.pos h1 ?_
    rw [show (op == 11) = true by simpa using h1]; exact hw 0 (by omega)
  refine W.neg h1 ?_
  by_cases h2 : op = 12
  · refine W.pos h2 ?_
    rw [show (op == 12) = true by simpa using h2]; exact hw 0 (by omega)
  refine W.neg h2 ?_
  by_cases h3 : op = 13
  · rw [show (op == 13) = true by simpa using h3]; exact hw 0 (by omega)
  rw [show (op == 13) = false by simpa using h3]
  refine W.step (fun k => by simp only [impl_NumDo.j4, niNumOk, Option.bind_some]; rfl) ?_
  refine W.neg (by decide) ?_
  rw [if_neg (show ¬ op ≥ 11 by omega)]
  by_cases ho : -2147483648 ≤ exactV op a b ∧ exactV op a b ≤ 2147483647
  · exact W.pos (by simpa using ho) (W.ret (by rw [if_pos ho]))
  · exact W.neg (by simpa using ho) (W.ret (by rw [if_neg ho]))
theorem iNumDo (op a b : Int) : W (fun k => impl_NumDo.f k op a b) (· = numDo op a b) := by
  have bad : ∀ hc : (¬ (1 ≤ op ∧ op ≤ 13) ∨ ¬ (-2147483648 ≤ a ∧ a ≤ 2147483647) ∨ ¬ (-2147483648 ≤ b ∧ b ≤ 2147483647)), W (fun k => impl_NumDo.j0 k op a b true) (· = numDo op a b) := by
    intro hc
    refine W.step (fun k => by simp only [impl_NumDo.j0]; rfl) ?_
    exact W.pos (by trivial) (W.ret (by unfold numDo; rw [if_pos hc]))
  unfold impl_NumDo.f
  simp only [iNumOp, niNumOk, Option.bind_some]
  by_cases h : 1 ≤ op ∧ op ≤ 13
  · refine W.pos (by simpa using h) ?_
    by_cases ha : -2147483648 ≤ a ∧ a ≤ 2147483647
    · refine W.pos (by simpa using ha) ?_
      by_cases hb : -2147483648 ≤ b ∧ b ≤ 2147483647
      · rw [show (!decide (-2147483648 ≤ b ∧ b ≤ 2147483647)) = false by rw [decide_eq_true hb]; rfl]
        refine W.step (fun k => by simp only [impl_NumDo.j0]; rfl) ?_
        refine W.neg (by decide) ?_
        have z1 : (op = 4 ∨ op = 5) → W (fun k => impl_NumDo.j1 k op a b op true) (· = numDo op a b) := by
          intro ho
          refine W.step (fun k => by simp only [impl_NumDo.j1]; rfl) ?_
          refine W.pos (by trivial) ?_
          by_cases hz : b = 0
          · exact W.pos hz (W.ret (by unfold numDo; rw [if_neg (by omega), if_pos ⟨ho, hz⟩]))
          · exact W.neg hz (iNumDo_tail h ha hb ⟨fun _ => hz, fun hc => by omega⟩)
        have z2 : (op = 9 ∨ op = 10) → W (fun k => impl_NumDo.j2 k op a b true) (· = numDo op a b) := by
          intro ho
          refine W.step (fun k => by simp only [impl_NumDo.j2]; rfl) ?_
          refine W.pos (by trivial) ?_
          by_cases h1 : b < 0
          · exact W.pos h1 (W.ret (by unfold numDo; rw [if_neg (by omega), if_neg (by omega), if_pos ⟨ho, by omega⟩]))
          refine W.neg h1 ?_
          by_cases h2 : b > 31
          · exact W.pos h2 (W.ret (by unfold numDo; rw [if_neg (by omega), if_neg (by omega), if_pos ⟨ho, by omega⟩]))
          · exact W.neg h2 (iNumDo_tail h ha hb ⟨fun hc => by omega, fun _ => by omega⟩)
        have z3 : ¬ (op = 4 ∨ op = 5) → W (fun k => impl_NumDo.j1 k op a b op false) (· = numDo op a b) := by
          intro ho
          refine W.step (fun k => by simp only [impl_NumDo.j1]; rfl) ?_
          refine W.neg (by decide) ?_
          by_cases h9 : op = 9
          · refine W.pos h9 ?_
            rw [show (op == 9) = true by simpa using h9]; exact z2 (.inl h9)
          refine W.neg h9 ?_
          by_cases h10 : op = 10
          · rw [show (op == 10) = true by simpa using h10]; exact z2 (.inr h10)
          rw [show (op == 10) = false by simpa using h10]
          refine W.step (fun k => by simp only [impl_NumDo.j2]; rfl) ?_
          exact W.neg (by decide) (iNumDo_tail h ha hb ⟨fun hc => absurd hc ho, fun hc => by omega⟩)
        by_cases h4 : op = 4
        · refine W.pos h4 ?_
          rw [show (op == 4) = true by simpa using h4]; exact z1 (.inl h4)
        refine W.neg h4 ?_
        by_cases h5 : op = 5
        · rw [show (op == 5) = true by simpa using h5]; exact z1 (.inr h5)
        rw [show (op == 5) = false by simpa using h5]
        exact z3 (by omega)
      · rw [show (!decide (-2147483648 ≤ b ∧ b ≤ 2147483647)) = true by rw [decide_eq_false hb]; rfl]
        exact bad (by omega)
    · exact W.neg (by simpa using ha) (bad (by omega))
  · exact W.neg (by simpa using h) (bad (by omega))
theorem numDo_facts (op a b : Int) : (-2147483648 ≤ (numDo op a b).1 ∧ (numDo op a b).1 ≤ 2147483647) ∧ ((numDo op a b).2 = 0 ∨ (numDo op a b).1 = 0) ∧ (0 ≤ (numDo op a b).2 ∧ (numDo op a b).2 ≤ 3) ∧ (op ≥ 11 → (numDo op a b).2 = 0) := by
  unfold numDo
  have hw := wrap32_ok (exactV op a b)
  split
  · simp
  split
  · simp; omega
  split
  · simp; omega
  split
  · simp; omega
  split
  · rename_i h; simp [h]
  · simp; omega
theorem numDo_comm {op : Int} (a b : Int) (h : op = 1 ∨ op = 3 ∨ op = 8) : numDo op b a = numDo op a b := by
  have he : exactV op b a = exactV op a b := by
    rcases h with rfl | rfl | rfl
    · simp only [exactV]; simp; omega
    · simp only [exactV]; simp; exact Int.mul_comm ..
    · simp only [exactV]; simp; rw [Nat.xor_comm]
  by_cases h1 : ¬ (1 ≤ op ∧ op ≤ 13) ∨ ¬ (-2147483648 ≤ a ∧ a ≤ 2147483647) ∨ ¬ (-2147483648 ≤ b ∧ b ≤ 2147483647)
  · unfold numDo; rw [if_pos (by omega), if_pos h1]
  · rw [numDo_main (by omega) (by omega) (by omega) ⟨fun h => by omega, fun h => by omega⟩, numDo_main (a := a) (b := b) (by omega) (by omega) (by omega) ⟨fun h => by omega, fun h => by omega⟩, he]

/-! ### ranges: whether they are as they must be -/
def okR (l h : Int) : Prop := (l = 1 ∧ h = 0) ∨ (-2147483648 ≤ l ∧ l ≤ h ∧ h ≤ 2147483647)
instance (l h : Int) : Decidable (okR l h) := by unfold okR; exact inferInstance
theorem sRangeOk (l h : Int) : spec_RangeOk.f l h = some (decide (okR l h)) := by
  simp only [spec_RangeOk.f, spec_l8None.f, sNumOk, Option.bind_some]
  by_cases h1 : l = 1 ∧ h = 0
  · obtain ⟨rfl, rfl⟩ := h1; rfl
  · have : (l == 1 && h == 0) = false := by simpa using h1
    rw [this]; simp only [Bool.false_eq_true, if_false, okR, okN]
    by_cases h2 : -2147483648 ≤ l ∧ l ≤ 2147483647
    · by_cases h3 : -2147483648 ≤ h ∧ h ≤ 2147483647
      · simp only [h2, h3, and_self, true_and, and_true, decide_true, if_true]; congr 1; apply decide_eq_decide.2; omega
      · simp only [h2, h3, and_self, decide_true, decide_false, if_true, Bool.false_eq_true, if_false]; congr 1; symm; apply decide_eq_false; omega
    · simp only [h2, decide_false, Bool.false_eq_true, if_false]; congr 1; symm; apply decide_eq_false; omega
theorem iRangeOk (l h : Int) : impl_RangeOk.f l h = some (decide (okR l h)) := by
  simp only [impl_RangeOk.f, impl_rangeNone.f, iNumOk, Option.bind_some]
  by_cases h1 : l = 1 ∧ h = 0
  · obtain ⟨rfl, rfl⟩ := h1; rfl
  · have : (l == 1 && h == 0) = false := by simpa using h1
    rw [this]; simp only [Bool.false_eq_true, if_false, okR, okN]
    by_cases h2 : -2147483648 ≤ l ∧ l ≤ 2147483647
    · by_cases h3 : -2147483648 ≤ h ∧ h ≤ 2147483647
      · simp only [h2, h3, and_self, true_and, and_true, decide_true, if_true]; congr 1; apply decide_eq_decide.2; omega
      · simp only [h2, h3, and_self, decide_true, decide_false, if_true, Bool.false_eq_true, if_false]; congr 1; symm; apply decide_eq_false; omega
    · simp only [h2, decide_false, Bool.false_eq_true, if_false]; congr 1; symm; apply decide_eq_false; omega

/-! ### ranges: cut, joined, met -/
def cut (l h : Int) : Int × Int := if mx l (-2147483648) > mn h 2147483647 then (1, 0) else (mx l (-2147483648), mn h 2147483647)
def isNone (l h : Int) : Prop := l = 1 ∧ h = 0
instance (l h : Int) : Decidable (isNone l h) := by unfold isNone; exact inferInstance
theorem okR_gt {l h : Int} (o : okR l h) : l > h ↔ isNone l h := by unfold okR at o; unfold isNone; omega
theorem bIsNone (l h : Int) : (l == 1 && h == 0) = decide (isNone l h) := by
  rw [Bool.eq_iff_iff, decide_eq_true_iff]; unfold isNone; simp

theorem sMin (a b : Int) : spec_l8Min.f a b = some (mn a b) := by unfold spec_l8Min.f mn; split <;> split <;> first | rfl | (congr 1; omega)
theorem sMax (a b : Int) : spec_l8Max.f a b = some (mx a b) := by unfold spec_l8Max.f mx; split <;> split <;> first | rfl | (congr 1; omega)

theorem sCut (l h : Int) : spec_l8Cut.f l h = some (cut l h) := by
  unfold spec_l8Cut.f cut
  simp only [sMin, sMax, spec_l8None.f, Option.bind_some]
  split <;> rfl
theorem iFrom (l h : Int) : impl_rangeFrom.f l h = some (cut l h) := by
  unfold impl_rangeFrom.f cut
  simp only [impl_rangeNone.f, Option.bind_some]
  split <;> rfl
theorem cut_ok (l h : Int) : (cut l h = (1, 0)) ∨ ((cut l h).1 ≤ (cut l h).2 ∧ -2147483648 ≤ (cut l h).1 ∧ (cut l h).2 ≤ 2147483647) := by
  unfold cut mx mn
  by_cases h1 : l < -2147483648 <;> by_cases h2 : 2147483647 < h <;> simp only [h1, h2, if_true, if_false] <;> split <;> first | (left; rfl) | (right; simp only; omega)
theorem cut_okR (l h : Int) : okR (cut l h).1 (cut l h).2 := by
  rcases cut_ok l h with e | e
  · rw [e]; exact .inl ⟨rfl, rfl⟩
  · exact .inr ⟨by omega, by omega, by omega⟩

def rmeet (l h l2 h2 : Int) : Int × Int := if ¬ okR l h ∨ ¬ okR l2 h2 ∨ isNone l h ∨ isNone l2 h2 then (1, 0) else cut (mx l l2) (mn h h2)
theorem iRangeMeet (l h l2 h2 : Int) : W (fun k => impl_RangeMeet.f k l h l2 h2) (· = rmeet l h l2 h2) := by
  unfold impl_RangeMeet.f
  simp only [iRangeOk, impl_Range_empty.f, Option.bind_some]
  have bad : ¬ okR l h ∨ ¬ okR l2 h2 ∨ isNone l h ∨ isNone l2 h2 → W (fun k => impl_RangeMeet.j0 k true l h l2 h2) (· = rmeet l h l2 h2) := by
    intro hb
    refine W.step (fun k => by simp only [impl_RangeMeet.j0, impl_rangeNone.f, Option.bind_some]; rfl) ?_
    exact W.pos (by trivial) (W.ret (by unfold rmeet; rw [if_pos hb]))
  refine W.dec (fun h1 => W.dec (fun h3 => W.dec (fun h4 => ?_) (fun h4 => ?_)) (fun h3 => bad (.inr (.inl h3)))) (fun h1 => bad (.inl h1))
  · exact bad (.inr (.inr (.inl ((okR_gt h1).1 h4))))
  · by_cases h5 : l2 > h2
    · rw [decide_eq_true h5]; exact bad (.inr (.inr (.inr ((okR_gt h3).1 h5))))
    · rw [decide_eq_false h5]
      refine W.step (fun k => by simp only [impl_RangeMeet.j0, impl_rangeNone.f, Option.bind_some, iFrom]; rfl) ?_
      exact W.neg (by decide) (W.ret (by unfold rmeet; rw [if_neg (by rw [← okR_gt h1, ← okR_gt h3]; simp only [h1, h3, not_true, false_or]; omega)]))
theorem rmeet_ok (l h l2 h2 : Int) : okR (rmeet l h l2 h2).1 (rmeet l h l2 h2).2 := by
  unfold rmeet
  split
  · exact .inl ⟨rfl, rfl⟩
  · exact cut_okR _ _

def rjoin (l h l2 h2 : Int) : Int × Int := if ¬ okR l h ∨ ¬ okR l2 h2 then (1, 0) else if isNone l h then (l2, h2) else if isNone l2 h2 then (l, h) else (mn l l2, mx h h2)
theorem sRangeJoin (l h l2 h2 : Int) : W (fun k => spec_RangeJoin.f k l h l2 h2) (· = rjoin l h l2 h2) := by
  unfold spec_RangeJoin.f
  simp only [sRangeOk, Option.bind_some]
  have bad : ¬ okR l h ∨ ¬ okR l2 h2 → W (fun k => spec_RangeJoin.j0 k true l h l2 h2) (· = rjoin l h l2 h2) := by
    intro hb
    refine W.step (fun k => by simp only [spec_RangeJoin.j0, spec_l8None.f, Option.bind_some]; rfl) ?_
    (try refine W.pos (by trivial) ?_)
    exact W.ret (by unfold rjoin; rw [if_pos hb])
  refine W.dec (fun h1 => ?_) (fun h1 => bad (.inl h1))
  by_cases h3 : okR l2 h2
  · rw [ndt h3]
    refine W.step (fun k => by simp only [spec_RangeJoin.j0, spec_l8None.f, Option.bind_some, sMin, sMax, bIsNone]; rfl) ?_
    unfold rjoin
    have hk : ¬ (¬ okR l h ∨ ¬ okR l2 h2) := by simp [h1, h3]
    rw [if_neg hk]
    (try refine W.neg (by decide) ?_)
    refine W.dec (fun h4 => W.ret (by rw [if_pos h4])) (fun h4 => ?_)
    rw [if_neg h4]
    exact W.dec (fun h5 => W.ret (by rw [if_pos h5])) (fun h5 => W.ret (by rw [if_neg h5]))
  · rw [ndf h3]; exact bad (.inr h3)
theorem iRangeJoin (l h l2 h2 : Int) : W (fun k => impl_RangeJoin.f k l h l2 h2) (· = rjoin l h l2 h2) := by
  unfold impl_RangeJoin.f
  simp only [iRangeOk, Option.bind_some]
  have bad : ¬ okR l h ∨ ¬ okR l2 h2 → W (fun k => impl_RangeJoin.j0 k true l h l2 h2) (· = rjoin l h l2 h2) := by
    intro hb
    refine W.step (fun k => by simp only [impl_RangeJoin.j0, impl_rangeNone.f, Option.bind_some]; rfl) ?_
    (try refine W.pos (by trivial) ?_)
    exact W.ret (by unfold rjoin; rw [if_pos hb])
  refine W.dec (fun h1 => ?_) (fun h1 => bad (.inl h1))
  by_cases h3 : okR l2 h2
  · rw [ndt h3]
    refine W.step (fun k => by simp only [impl_RangeJoin.j0, impl_rangeNone.f, impl_Range_empty.f, Option.bind_some]; rfl) ?_
    unfold rjoin
    have hk : ¬ (¬ okR l h ∨ ¬ okR l2 h2) := by simp [h1, h3]
    rw [if_neg hk]
    (try refine W.neg (by decide) ?_)
    refine W.dec (fun h4 => W.ret (by rw [if_pos ((okR_gt h1).1 h4)])) (fun h4 => ?_)
    rw [if_neg (fun hc => h4 ((okR_gt h1).2 hc))]
    exact W.dec (fun h5 => W.ret (by rw [if_pos ((okR_gt h3).1 h5)])) (fun h5 => W.ret (by rw [if_neg (fun hc => h5 ((okR_gt h3).2 hc))]))
  · rw [ndf h3]; exact bad (.inr h3)
theorem rjoin_ok (l h l2 h2 : Int) : okR (rjoin l h l2 h2).1 (rjoin l h l2 h2).2 := by
  unfold rjoin
  split
  · exact .inl ⟨rfl, rfl⟩
  rename_i hb
  have o1 : okR l h := Decidable.byContradiction fun h => hb (.inl h)
  have o2 : okR l2 h2 := Decidable.byContradiction fun h => hb (.inr h)
  split
  · exact o2
  split
  · exact o1
  · rename_i n1 n2
    unfold okR at o1 o2 ⊢; unfold isNone at n1 n2; unfold mn mx
    right; simp only
    split <;> split <;> omega

theorem sRangeHas (l h v : Int) : spec_RangeHas.f l h v = some (decide (okR l h ∧ l ≤ v ∧ v ≤ h)) := by
  simp only [spec_RangeHas.f, spec_l1In.f, sRangeOk, Option.bind_some]
  by_cases h1 : okR l h
  · by_cases h2 : l ≤ v
    · simp [h1, h2]
    · simp [h1, h2]
  · simp [h1]
theorem iRangeHas (l h v : Int) : impl_RangeHas.f l h v = some (decide (okR l h ∧ l ≤ v ∧ v ≤ h)) := by
  simp only [impl_RangeHas.f, iRangeOk, Option.bind_some]
  by_cases h1 : okR l h
  · by_cases h2 : l ≤ v
    · simp [h1, h2]
    · simp [h1, h2]
  · simp [h1]

/-! ### rests -/
def okS (m t : Int) : Prop := (m = 0 ∧ okN t) ∨ (1 ≤ m ∧ m ≤ 65536 ∧ 0 ≤ t ∧ t < m)
instance (m t : Int) : Decidable (okS m t) := by unfold okS; exact inferInstance
theorem sIn (v a b : Int) : spec_l1In.f v a b = some (decide (a ≤ v ∧ v ≤ b)) := by
  simp only [spec_l1In.f]
  by_cases h : v ≥ a <;> simp [h]
theorem sRestOk (m t : Int) : spec_RestOk.f m t = some (decide (okS m t)) := by
  simp only [spec_RestOk.f, sNumOk, sIn, Option.bind_some]
  by_cases h0 : m = 0
  · subst h0; rw [if_pos rfl]; congr 1; apply decide_eq_decide.2; unfold okS okN; omega
  · rw [if_neg h0]
    by_cases h1 : 1 ≤ m ∧ m ≤ 65536
    · rw [if_pos (decide_eq_true h1), wrap64_id (by omega) (by omega)]; congr 1; apply decide_eq_decide.2; unfold okS; omega
    · rw [if_neg (by rw [decide_eq_true_iff]; exact h1)]; congr 1; symm; apply decide_eq_false; unfold okS; omega
theorem iRestOk (m t : Int) : impl_RestOk.f m t = some (decide (okS m t)) := by
  simp only [impl_RestOk.f, iNumOk, Option.bind_some]
  by_cases h0 : m = 0
  · subst h0; rw [if_pos rfl]; congr 1; apply decide_eq_decide.2; unfold okS okN; omega
  · rw [if_neg h0]
    split
    · split
      · split
        · congr 1; apply decide_eq_decide.2; unfold okS; omega
        · congr 1; symm; apply decide_eq_false; unfold okS; omega
      · congr 1; symm; apply decide_eq_false; unfold okS; omega
    · congr 1; symm; apply decide_eq_false; unfold okS; omega

theorem sMod {a : Int} (m : Int) (h0 : 0 < m) (h1 : m ≤ 4294967296) : spec_l1Mod.f a m = some (a % m) := by
  simp only [spec_l1Mod.f]
  have e := tmod_up (n := a) (m := m) h0
  have b := tmod_bounds (n := a) (m := m) h0
  rw [if_neg (by omega)]
  by_cases hn : a.tmod m < 0
  · rw [if_pos hn] at e ⊢
    rw [wrap64_id (by omega) (by omega), e]
  · rw [if_neg hn] at e ⊢
    rw [e]
theorem iMod {a : Int} (m : Int) (h0 : 0 < m) (h1 : m ≤ 4294967296) : impl_restMod.f a m = some (a % m) := by
  simp only [impl_restMod.f]
  have e := tmod_up (n := a) (m := m) h0
  have b := tmod_bounds (n := a) (m := m) h0
  rw [if_neg (by omega)]
  by_cases hn : a.tmod m < 0
  · rw [if_pos hn] at e ⊢
    rw [wrap64_id (by omega) (by omega), e]
  · rw [if_neg hn] at e ⊢
    rw [e]

theorem okS_pos {m t : Int} (h : okS m t) (h0 : m ≠ 0) : 1 ≤ m ∧ m ≤ 65536 ∧ 0 ≤ t ∧ t < m := by unfold okS at h; omega

/-! ### vals -/
def mkV (l h m t : Int) : Int × Int × Int × Int :=
  if ¬ okR l h ∨ ¬ okS m t ∨ isNone l h then (1, 0, 0, 0)
  else if m = 0 then (if l ≤ t ∧ t ≤ h then (t, t, 0, t) else (1, 0, 0, 0))
  else if l + (t - l) % m > h - (h - t) % m then (1, 0, 0, 0)
  else if l + (t - l) % m = h - (h - t) % m then (l + (t - l) % m, l + (t - l) % m, 0, l + (t - l) % m)
  else (l + (t - l) % m, h - (h - t) % m, m, t)
theorem sValMake (l h m t : Int) : W (fun k => spec_ValMake.f k l h m t) (· = mkV l h m t) := by
  unfold spec_ValMake.f
  simp only [sRangeOk, sRestOk, spec_l8None.f, Option.bind_some, bIsNone]
  have bad : ¬ okR l h ∨ ¬ okS m t ∨ isNone l h → W (fun k => spec_ValMake.j0 k true l h m t) (· = mkV l h m t) := by
    intro hb
    refine W.step (fun k => by simp only [spec_ValMake.j0, spec_l10None.f, Option.bind_some]; rfl) ?_
    (try refine W.pos (by trivial) ?_)
    exact W.ret (by unfold mkV; rw [if_pos hb])
  refine W.dec (fun h1 => W.dec (fun h2 => ?_) (fun h2 => bad (.inr (.inl h2)))) (fun h1 => bad (.inl h1))
  by_cases h3 : isNone l h
  · rw [decide_eq_true h3]; exact bad (.inr (.inr h3))
  · rw [decide_eq_false h3]
    have hk : ¬ (¬ okR l h ∨ ¬ okS m t ∨ isNone l h) := by simp [h1, h2, h3]
    unfold mkV
    rw [if_neg hk]
    refine W.step (fun k => by simp only [spec_ValMake.j0, spec_l10None.f, spec_l10One.f, sRangeHas, Option.bind_some]; rfl) ?_
    (try refine W.neg (by decide) ?_)
    refine W.ite (fun h4 => ?_) (fun h4 => ?_)
    · rw [if_pos h4]
      refine W.dec (fun h5 => W.ret (by rw [if_pos h5.2])) (fun h5 => W.ret (by rw [if_neg (fun hc => h5 ⟨h1, hc⟩)]))
    · rw [if_neg h4]
      have o := okS_pos h2 h4
      have r : -2147483648 ≤ l ∧ l ≤ h ∧ h ≤ 2147483647 := by unfold okR at h1; unfold isNone at h3; omega
      have e1 := Int.emod_nonneg (t - l) (show m ≠ 0 by omega); have e2 := Int.emod_lt_of_pos (t - l) (show 0 < m by omega)
      have e3 := Int.emod_nonneg (h - t) (show m ≠ 0 by omega); have e4 := Int.emod_lt_of_pos (h - t) (show 0 < m by omega)
      rw [wrap64_id (n := t - l) (by omega) (by omega), wrap64_id (n := h - t) (by omega) (by omega), sMod m (by omega) (by omega), sMod m (by omega) (by omega)]
      simp only [Option.bind_some]
      rw [wrap64_id (n := l + (t - l) % m) (by omega) (by omega), wrap64_id (n := h - (h - t) % m) (by omega) (by omega)]
      refine W.ite (fun h5 => W.ret (by rw [if_pos h5])) (fun h5 => ?_)
      rw [if_neg h5]
      exact W.ite (fun h6 => W.ret (by rw [if_pos h6])) (fun h6 => W.ret (by rw [if_neg h6]))
theorem iValMake (l h m t : Int) : W (fun k => impl_ValMake.f k l h m t) (· = mkV l h m t) := by
  unfold impl_ValMake.f
  simp only [iRangeOk, iRestOk, impl_Range_empty.f, Option.bind_some]
  have bad : ¬ okR l h ∨ ¬ okS m t ∨ isNone l h → W (fun k => impl_ValMake.j0 k true l h m t) (· = mkV l h m t) := by
    intro hb
    refine W.step (fun k => by simp only [impl_ValMake.j0, impl_valNone.f, Option.bind_some]; rfl) ?_
    (try refine W.pos (by trivial) ?_)
    exact W.ret (by unfold mkV; rw [if_pos hb])
  refine W.dec (fun h1 => W.dec (fun h2 => ?_) (fun h2 => bad (.inr (.inl h2)))) (fun h1 => bad (.inl h1))
  by_cases h3 : l > h
  · rw [decide_eq_true h3]; exact bad (.inr (.inr ((okR_gt h1).1 h3)))
  · rw [decide_eq_false h3]
    have h3' : ¬ isNone l h := fun hc => h3 ((okR_gt h1).2 hc)
    have hk : ¬ (¬ okR l h ∨ ¬ okS m t ∨ isNone l h) := by simp [h1, h2, h3']
    unfold mkV
    rw [if_neg hk]
    refine W.step (fun k => by simp only [impl_ValMake.j0, impl_valNone.f, impl_valOne.f, iRangeHas, Option.bind_some]; rfl) ?_
    (try refine W.neg (by decide) ?_)
    refine W.ite (fun h4 => ?_) (fun h4 => ?_)
    · rw [if_pos h4]
      refine W.dec (fun h5 => W.ret (by rw [if_pos h5.2])) (fun h5 => W.ret (by rw [if_neg (fun hc => h5 ⟨h1, hc⟩)]))
    · rw [if_neg h4]
      have o := okS_pos h2 h4
      have r : -2147483648 ≤ l ∧ l ≤ h ∧ h ≤ 2147483647 := by unfold okR at h1; unfold isNone at h3'; omega
      have e1 := Int.emod_nonneg (t - l) (show m ≠ 0 by omega); have e2 := Int.emod_lt_of_pos (t - l) (show 0 < m by omega)
      have e3 := Int.emod_nonneg (h - t) (show m ≠ 0 by omega); have e4 := Int.emod_lt_of_pos (h - t) (show 0 < m by omega)
      rw [wrap64_id (n := t - l) (by omega) (by omega), wrap64_id (n := h - t) (by omega) (by omega), iMod m (by omega) (by omega), iMod m (by omega) (by omega)]
      simp only [Option.bind_some]
      rw [wrap64_id (n := l + (t - l) % m) (by omega) (by omega), wrap64_id (n := h - (h - t) % m) (by omega) (by omega)]
      refine W.ite (fun h5 => W.ret (by rw [if_pos h5])) (fun h5 => ?_)
      rw [if_neg h5]
      exact W.ite (fun h6 => W.ret (by rw [if_pos h6])) (fun h6 => W.ret (by rw [if_neg h6]))

def isNV (l h m t : Int) : Prop := l = 1 ∧ h = 0 ∧ m = 0 ∧ t = 0
instance (l h m t : Int) : Decidable (isNV l h m t) := by unfold isNV; exact inferInstance
theorem bNV (l h m t : Int) : (l == 1 && (h == 0 && (m == 0 && (t == 0)))) = decide (isNV l h m t) := by
  rw [Bool.eq_iff_iff, decide_eq_true_iff]; unfold isNV; simp
def okV (l h m t : Int) : Prop := (l, h, m, t) = mkV l h m t
instance (l h m t : Int) : Decidable (okV l h m t) := by unfold okV; exact inferInstance
theorem bEq4 (l h m t : Int) (x : Int × Int × Int × Int) : (l == x.1 && (h == x.2.1 && (m == x.2.2.1 && (t == x.2.2.2)))) = decide ((l, h, m, t) = x) := by
  obtain ⟨a, b, c, d⟩ := x
  rw [Bool.eq_iff_iff, decide_eq_true_iff]; simp
theorem okV_none {l h m t : Int} (hn : isNV l h m t) : okV l h m t := by
  obtain ⟨rfl, rfl, rfl, rfl⟩ := hn
  unfold okV mkV
  rw [if_pos (.inr (.inr ⟨rfl, rfl⟩))]
theorem okV_some {l h m t : Int} (ho : okV l h m t) (hn : ¬ isNV l h m t) : okR l h ∧ okS m t ∧ ¬ isNone l h := by
  unfold okV at ho
  refine Decidable.byContradiction fun hc => hn ?_
  have hk : ¬ okR l h ∨ ¬ okS m t ∨ isNone l h := by
    by_cases h1 : okR l h
    · by_cases h2 : okS m t
      · by_cases h3 : isNone l h
        · exact .inr (.inr h3)
        · exact absurd ⟨h1, h2, h3⟩ hc
      · exact .inr (.inl h2)
    · exact .inl h1
  unfold mkV at ho
  rw [if_pos hk] at ho
  simp only [Prod.mk.injEq] at ho
  exact ho
theorem okV_okR {l h m t : Int} (ho : okV l h m t) : okR l h := by
  by_cases hn : isNV l h m t
  · exact .inl ⟨hn.1, hn.2.1⟩
  · exact (okV_some ho hn).1
theorem isNV_iff {l h m t : Int} (ho : okV l h m t) : isNV l h m t ↔ isNone l h := by
  constructor
  · exact fun hn => ⟨hn.1, hn.2.1⟩
  · exact fun hc => Decidable.byContradiction fun hn => (okV_some ho hn).2.2 hc
theorem iValOk (l h m t : Int) : W (fun k => impl_ValOk.f k l h m t) (· = decide (okV l h m t)) := by
  unfold impl_ValOk.f
  simp only [impl_Val_span.f, impl_Val_rest.f, Option.bind_some]
  refine W.bind (iValMake l h m t) ?_
  rintro _ rfl
  exact W.ret (by rw [bEq4]; rfl)
theorem sValOk (l h m t : Int) : W (fun k => spec_ValOk.f k l h m t) (· = decide (okV l h m t)) := by
  unfold spec_ValOk.f
  simp only [spec_l10None.f, spec_l10Range.f, spec_l10Rest.f, sRangeOk, sRestOk, Option.bind_some, bNV]
  refine W.dec (fun h1 => W.ret (by symm; exact decide_eq_true (okV_none h1))) (fun h1 => ?_)
  refine W.dec (fun h2 => W.dec (fun h3 => ?_) (fun h3 => W.ret ?_)) (fun h2 => W.ret ?_)
  · refine W.bind (sValMake l h m t) ?_
    rintro _ rfl
    exact W.ret (by rw [bEq4]; rfl)
  · symm; exact decide_eq_false fun ho => h3 (okV_some ho h1).2.1
  · symm; exact decide_eq_false fun ho => h2 (okV_some ho h1).1

theorem iVal_none (l h m t : Int) : impl_Val_none.f l h m t = some (decide (isNV l h m t)) := by
  simp only [impl_Val_none.f, impl_valNone.f, Option.bind_some, bNV]

def hasS (m t v : Int) : Prop := okS m t ∧ okN v ∧ ((m = 0 ∧ v = t) ∨ (m ≠ 0 ∧ v % m = t))
instance (m t v : Int) : Decidable (hasS m t v) := by unfold hasS; exact inferInstance
theorem iRestHas (m t v : Int) : W (fun k => impl_RestHas.f k m t v) (· = decide (hasS m t v)) := by
  unfold impl_RestHas.f
  simp only [iRestOk, iNumOk, Option.bind_some]
  have bad : ¬ okS m t ∨ ¬ okN v → W (fun k => impl_RestHas.j0 k v true m t) (· = decide (hasS m t v)) := by
    intro hb
    refine W.step (fun k => by simp only [impl_RestHas.j0]; rfl) ?_
    (try refine W.pos (by trivial) ?_)
    exact W.ret (by symm; apply decide_eq_false; unfold hasS; intro hc; exact hb.elim (fun h => h hc.1) (fun h => h hc.2.1))
  refine W.dec (fun h1 => ?_) (fun h1 => bad (.inl h1))
  by_cases h3 : okN v
  · rw [ndt h3]
    refine W.step (fun k => by simp only [impl_RestHas.j0]; rfl) ?_
    (try refine W.neg (by decide) ?_)
    refine W.ite (fun h4 => W.ret ?_) (fun h4 => ?_)
    · subst h4; rw [Bool.eq_iff_iff, decide_eq_true_iff]; unfold hasS; simp [h1, h3]
    · have o := okS_pos h1 h4
      refine W.bind (W.const (iMod m (by omega) (by omega)) rfl) ?_
      rintro _ rfl
      refine W.ret ?_
      rw [Bool.eq_iff_iff, decide_eq_true_iff]; unfold hasS; simp [h1, h3, h4]
  · rw [ndf h3]; exact bad (.inr h3)

/-! ### greatest common divisors -/
theorem sGcd_loop (d : Nat) : ∀ a b : Int, 0 ≤ a → 0 ≤ b → b.natAbs ≤ d → W (fun k => spec_l9Gcd.l0 k a b) (· = (Int.gcd a b : Int)) := by
  induction d using Nat.strongRecOn with
  | _ d ih =>
    intro a b ha hb hd
    refine W.step (fun k => by simp only [spec_l9Gcd.l0]; rfl) ?_
    refine W.ite (fun h => W.ret ?_) (fun h => ?_)
    · subst h; rw [Int.gcd_zero_right]; omega
    · have hm := tmod_pos ha (n := b) (by omega)
      have := ih (a.tmod b).natAbs (by omega) b (a.tmod b) hb hm.1 (Nat.le_refl _)
      refine this.mono ?_
      rintro _ rfl
      unfold Int.gcd; rw [Int.natAbs_tmod, Nat.gcd_comm, ← Nat.gcd_rec, Nat.gcd_comm]
theorem sGcd (a b : Int) (ha : -9223372036854775807 ≤ a ∧ a ≤ 9223372036854775807) (hb : -9223372036854775807 ≤ b ∧ b ≤ 9223372036854775807) : W (fun k => spec_l9Gcd.f k a b) (· = (Int.gcd a b : Int)) := by
  have j1 : ∀ x y : Int, 0 ≤ x → 0 ≤ y → W (fun k => spec_l9Gcd.j1 k x y) (· = (Int.gcd x y : Int)) := by
    intro x y hx hy
    refine W.step (fun k => by simp only [spec_l9Gcd.j1]; rfl) ?_
    exact sGcd_loop _ x y hx hy (Nat.le_refl _)
  have j0 : ∀ x : Int, 0 ≤ x → W (fun k => spec_l9Gcd.j0 k x b) (· = (Int.gcd x b : Int)) := by
    intro x hx
    refine W.step (fun k => by simp only [spec_l9Gcd.j0]; rfl) ?_
    refine W.ite (fun h => ?_) (fun h => j1 x b hx (by omega))
    rw [wrap64_id (by omega) (by omega)]
    refine (j1 x (-b) hx (by omega)).mono ?_
    rintro _ rfl
    rw [Int.gcd_neg]
  unfold spec_l9Gcd.f
  refine W.ite (fun h => ?_) (fun h => j0 a (by omega))
  rw [wrap64_id (by omega) (by omega)]
  refine (j0 (-a) (by omega)).mono ?_
  rintro _ rfl
  rw [Int.neg_gcd]
/-- The greatest common divisor of some numbers, as the program goes through them. -/
def gl (g : Nat) (l : List Int) : Nat := l.foldl (fun g n => Int.gcd g n) g
theorem iGcd_in {xs : List Int} {len i : Int} {P : Int → Prop} (d : Nat) : ∀ g n : Int, n.natAbs ≤ d → i + 1 ≤ 9223372036854775807 → 0 ≤ i →
    (∀ g' : Int, g'.natAbs = Int.gcd g n → W (fun k => impl_restGcd.l0 k g' xs len (i + 1)) P) → W (fun k => impl_restGcd.l1 k g n xs len i) P := by
  induction d using Nat.strongRecOn with
  | _ d ih =>
    intro g n hd hi hi0 hk
    refine W.step (fun k => by simp only [impl_restGcd.l1]; rfl) ?_
    refine W.ite (fun h => ?_) (fun h => ?_)
    · rw [wrap64_id (by omega) (by omega)]
      exact hk g (by subst h; rw [Int.gcd_zero_right])
    · have hm : (g.tmod n).natAbs = g.natAbs % n.natAbs := Int.natAbs_tmod ..
      have hl : g.natAbs % n.natAbs < n.natAbs := Nat.mod_lt _ (by omega)
      refine ih (g.tmod n).natAbs (by omega) n (g.tmod n) (Nat.le_refl _) hi hi0 (fun g' hg => hk g' ?_)
      rw [hg]; unfold Int.gcd; rw [hm, Nat.gcd_comm, ← Nat.gcd_rec, Nat.gcd_comm]
theorem iGcd_loop {xs : List Int} (hx : xs.length ≤ 100) (hb : ∀ x ∈ xs, -9223372036854775807 ≤ x ∧ x ≤ 9223372036854775807) (d : Nat) : ∀ (i : Nat) (g : Int), i ≤ xs.length → xs.length - i = d → -9223372036854775807 ≤ g → g ≤ 9223372036854775807 →
    W (fun k => impl_restGcd.l0 k g xs (xs.length : Int) (i : Int)) (· = (gl g.natAbs (xs.drop i) : Int)) := by
  induction d with
  | zero =>
    intro i g hi hd g0 g1
    refine W.step (fun k => by simp only [impl_restGcd.l0]; rfl) ?_
    refine W.neg (by omega) ?_
    rw [List.drop_eq_nil_of_le (by omega)]
    refine W.ite (fun h => W.ret ?_) (fun h => W.ret ?_)
    · rw [wrap64_id (by omega) (by omega)]; simp only [gl, List.foldl_nil]; omega
    · simp only [gl, List.foldl_nil]; omega
  | succ d ih =>
    intro i g hi hd g0 g1
    have hlt : i < xs.length := by omega
    have hx0 := hb _ (List.getElem_mem hlt)
    have hr : rd xs (i : Int) = xs[i] := by simp [rd, List.getD_eq_getElem?_getD, List.getElem?_eq_getElem hlt]
    refine W.step (fun k => by simp only [impl_restGcd.l0]; rfl) ?_
    refine W.pos (by omega) (W.pos (by omega) (W.pos (by omega) ?_))
    rw [hr]
    refine iGcd_in _ g xs[i] (Nat.le_refl _) (by omega) (by omega) (fun g' hg => ?_)
    have hle : g'.natAbs ≤ 9223372036854775807 := by
      rw [hg]
      by_cases hz : xs[i] = 0
      · rw [hz, Int.gcd_zero_right]; omega
      · have := Nat.le_of_dvd (by omega) (show Int.gcd g xs[i] ∣ xs[i].natAbs from Nat.gcd_dvd_right _ _); omega
    have h := ih (i + 1) g' (by omega) (by omega) (by omega) (by omega)
    rw [show ((i + 1 : Nat) : Int) = (i : Int) + 1 by omega] at h
    refine h.mono ?_
    rintro _ rfl
    rw [List.drop_eq_getElem_cons hlt, hg]
    simp only [gl, List.foldl_cons]
    congr 2
theorem iGcd (xs : List Int) (hx : xs.length ≤ 100) (hb : ∀ x ∈ xs, -9223372036854775807 ≤ x ∧ x ≤ 9223372036854775807) : W (fun k => impl_restGcd.f k xs) (· = (gl 0 xs : Int)) := by
  unfold impl_restGcd.f
  exact iGcd_loop hx hb xs.length 0 0 (by omega) (by omega) (by omega) (by omega)
theorem gl2 (a b : Int) : gl 0 [a, b] = Int.gcd a b := by simp [gl, Int.gcd]
theorem gl3 (a b c : Int) : gl 0 [a, b, c] = Int.gcd (Int.gcd a b : Int) c := by simp [gl, Int.gcd]
theorem gcd_le {a b B : Int} (h0 : 0 ≤ B) (ha : -B ≤ a ∧ a ≤ B) (hb : -B ≤ b ∧ b ≤ B) : ((Int.gcd a b : Nat) : Int) ≤ B := by
  by_cases hz : a = 0
  · subst hz; rw [Int.gcd_zero_left]; omega
  · have := Nat.le_of_dvd (by omega) (show Int.gcd a b ∣ a.natAbs from Nat.gcd_dvd_left _ _); omega

/-- The rest of a number by a modulus from 0 on. -/
def mkS (n m : Int) : Int × Int := if m > 65536 then (((Int.gcd m 65536 : Nat) : Int), n % (Int.gcd m 65536 : Nat)) else if m = 0 then (0, n) else (m, n % m)
theorem gcd_small (m : Int) : 1 ≤ Int.gcd m 65536 ∧ Int.gcd m 65536 ≤ 65536 := by
  constructor
  · exact Nat.gcd_pos_of_pos_right _ (by decide)
  · exact Nat.le_of_dvd (by decide) (show Int.gcd m 65536 ∣ 65536 from Nat.gcd_dvd_right _ _)
theorem sMake (m n : Int) (h0 : 0 ≤ m) (h1 : m ≤ 9223372036854775807) : W (fun k => spec_l9Make.f k m n) (· = mkS n m) := by
  unfold spec_l9Make.f mkS
  have hg := gcd_small m
  refine W.ite (fun h => ?_) (fun h => ?_)
  · rw [if_pos h]
    refine W.bind (sGcd m 65536 (by omega) (by omega)) ?_
    rintro _ rfl
    refine W.neg (by omega) ?_
    rw [sMod _ (by omega) (by omega)]
    exact W.ret rfl
  · rw [if_neg h]
    refine W.ite (fun h2 => W.ret (by rw [if_pos h2])) (fun h2 => ?_)
    rw [if_neg h2, sMod _ (by omega) (by omega)]
    exact W.ret rfl
theorem iOf (m n : Int) (h0 : 0 ≤ m) (h1 : m ≤ 9223372036854775807) : W (fun k => impl_restOf.f k n m) (· = mkS n m) := by
  unfold impl_restOf.f mkS
  have hg := gcd_small m
  refine W.ite (fun h => ?_) (fun h => ?_)
  · rw [if_pos h]
    refine W.bind (iGcd [m, 65536] (by simp) (by simp; omega)) ?_
    rintro _ rfl
    rw [gl2]
    refine W.neg (by omega) ?_
    rw [iMod _ (by omega) (by omega)]
    exact W.ret rfl
  · rw [if_neg h]
    refine W.ite (fun h2 => W.ret (by rw [if_pos h2])) (fun h2 => ?_)
    rw [if_neg h2, iMod _ (by omega) (by omega)]
    exact W.ret rfl

def joinS (m t m2 t2 : Int) : Int × Int := if ¬ okS m t ∨ ¬ okS m2 t2 then (1, 0) else mkS t (Int.gcd (Int.gcd m m2 : Int) (t - t2) : Int)
theorem okS_range {m t : Int} (h : okS m t) : (0 ≤ m ∧ m ≤ 65536) ∧ (-2147483648 ≤ t ∧ t ≤ 2147483647) := by unfold okS okN at h; omega
theorem sRestJoin (m t m2 t2 : Int) : W (fun k => spec_RestJoin.f k m t m2 t2) (· = joinS m t m2 t2) := by
  unfold spec_RestJoin.f
  simp only [sRestOk, Option.bind_some]
  have bad : ¬ okS m t ∨ ¬ okS m2 t2 → W (fun k => spec_RestJoin.j0 k true m t m2 t2) (· = joinS m t m2 t2) := by
    intro hb
    refine W.step (fun k => by simp only [spec_RestJoin.j0, spec_l9All.f, Option.bind_some]; rfl) ?_
    (try refine W.pos (by trivial) ?_)
    exact W.ret (by unfold joinS; rw [if_pos hb])
  refine W.dec (fun h1 => ?_) (fun h1 => bad (.inl h1))
  by_cases h3 : okS m2 t2
  · rw [ndt h3]
    have r1 := okS_range h1; have r2 := okS_range h3
    have g1 := gcd_le (a := m) (b := m2) (B := 65536) (by omega) (by omega) (by omega)
    have g2 := gcd_le (a := (Int.gcd m m2 : Int)) (b := t - t2) (B := 4294967296) (by omega) (by omega) (by omega)
    refine W.step (fun k => by simp only [spec_RestJoin.j0]; rfl) ?_
    (try refine W.neg (by decide) ?_)
    refine W.bind (sGcd m m2 (by omega) (by omega)) ?_
    rintro _ rfl
    rw [wrap64_id (n := t - t2) (by omega) (by omega)]
    refine W.bind (sGcd _ _ (by omega) (by omega)) ?_
    rintro _ rfl
    refine W.bind (sMake _ _ (by omega) (by omega)) ?_
    rintro _ rfl
    exact W.ret (by unfold joinS; rw [if_neg (by simp [h1, h3])])
  · rw [ndf h3]; exact bad (.inr h3)
theorem iRestJoin (m t m2 t2 : Int) : W (fun k => impl_RestJoin.f k m t m2 t2) (· = joinS m t m2 t2) := by
  unfold impl_RestJoin.f
  simp only [iRestOk, Option.bind_some]
  have bad : ¬ okS m t ∨ ¬ okS m2 t2 → W (fun k => impl_RestJoin.j0 k true m t m2 t2) (· = joinS m t m2 t2) := by
    intro hb
    refine W.step (fun k => by simp only [impl_RestJoin.j0, impl_restAll.f, Option.bind_some]; rfl) ?_
    (try refine W.pos (by trivial) ?_)
    exact W.ret (by unfold joinS; rw [if_pos hb])
  refine W.dec (fun h1 => ?_) (fun h1 => bad (.inl h1))
  by_cases h3 : okS m2 t2
  · rw [ndt h3]
    have r1 := okS_range h1; have r2 := okS_range h3
    have g1 := gcd_le (a := m) (b := m2) (B := 65536) (by omega) (by omega) (by omega)
    have g2 := gcd_le (a := (Int.gcd m m2 : Int)) (b := t - t2) (B := 4294967296) (by omega) (by omega) (by omega)
    refine W.step (fun k => by simp only [impl_RestJoin.j0]; rfl) ?_
    (try refine W.neg (by decide) ?_)
    rw [wrap64_id (n := t - t2) (by omega) (by omega)]
    refine W.bind (iGcd [m, m2, t - t2] (by simp) (by simp; omega)) ?_
    rintro _ rfl
    rw [gl3]
    refine W.bind (iOf _ _ (by omega) (by omega)) ?_
    rintro _ rfl
    exact W.ret (by unfold joinS; rw [if_neg (by simp [h1, h3])])
  · rw [ndf h3]; exact bad (.inr h3)

/-! ### what two rests both have -/
def Sol (m t m2 t2 x : Int) : Prop := 0 ≤ x ∧ x < (Int.lcm m m2 : Int) ∧ x % m = t ∧ x % m2 = t2
theorem sol_one {m t m2 t2 x y : Int} (hm : 0 < m) (hm2 : 0 < m2) (hx : Sol m t m2 t2 x) (hy : Sol m t m2 t2 y) : x = y := by
  obtain ⟨x0, x1, x2, x3⟩ := hx
  obtain ⟨y0, y1, y2, y3⟩ := hy
  have e : ∀ z : Int, 0 ≤ z → ∀ q : Int, 0 < q → z % q = ((z.toNat % q.toNat : Nat) : Int) := by
    intro z hz q hq
    rw [Int.natCast_emod, Int.toNat_of_nonneg hz, Int.toNat_of_nonneg (by omega)]
  have h1 := e x x0 m hm; have h2 := e x x0 m2 hm2; have h3 := e y y0 m hm; have h4 := e y y0 m2 hm2
  have hl : Int.lcm m m2 = Nat.lcm m.toNat m2.toNat := by
    unfold Int.lcm; rw [show m.natAbs = m.toNat by omega, show m2.natAbs = m2.toNat by omega]
  have := crt_one (a := m.toNat) (b := m2.toNat) (x := x.toNat) (y := y.toNat) rfl (by omega) (by omega) (by omega) (by omega)
  omega
noncomputable def solX (m t m2 t2 : Int) : Int := Classical.epsilon (Sol m t m2 t2)
theorem sol_eq {m t m2 t2 x : Int} (hm : 0 < m) (hm2 : 0 < m2) (hx : Sol m t m2 t2 x) : x = solX m t m2 t2 := sol_one hm hm2 hx (Classical.epsilon_spec ⟨x, hx⟩)
theorem sol_turn {m t m2 t2 x : Int} (hx : Sol m t m2 t2 x) : Sol m2 t2 m t x := ⟨hx.1, by rw [Int.lcm_comm]; exact hx.2.1, hx.2.2.2, hx.2.2.1⟩
theorem solX_turn {m t m2 t2 x : Int} (hm : 0 < m) (hm2 : 0 < m2) (hx : Sol m t m2 t2 x) : solX m2 t2 m t = solX m t m2 t2 := by
  rw [← sol_eq hm hm2 hx, ← sol_eq hm2 hm (sol_turn hx)]
theorem prod_lcm {m m2 : Int} (hm : 1 ≤ m) (hm2 : 1 ≤ m2) : m.tdiv (Int.gcd m m2 : Int) * m2 = (Int.lcm m m2 : Int) := by
  obtain ⟨a, rfl⟩ := Int.eq_ofNat_of_zero_le (show 0 ≤ m by omega)
  obtain ⟨b, rfl⟩ := Int.eq_ofNat_of_zero_le (show 0 ≤ m2 by omega)
  rw [Int.tdiv_eq_ediv_of_nonneg (by omega)]
  show (a : Int) / ((Nat.gcd a b : Nat) : Int) * b = ((Nat.lcm a b : Nat) : Int)
  have hg : 0 < Nat.gcd a b := Nat.gcd_pos_of_pos_left _ (by omega)
  have : Nat.lcm a b = a / Nat.gcd a b * b := by
    unfold Nat.lcm
    rw [Nat.mul_comm a b, Nat.mul_div_assoc _ (Nat.gcd_dvd_left a b), Nat.mul_comm]
  rw [this]; norm_cast
/-- There is a place where the two meet, among the first of those that the loop comes to. -/
theorem reach {m t m2 t2 : Int} (hm : 1 ≤ m) (hm2 : 1 ≤ m2) (ht : 0 ≤ t ∧ t < m) (ht2 : 0 ≤ t2 ∧ t2 < m2) (h : (Int.gcd m m2 : Int) ∣ t - t2) : ∃ js : Nat, (t + m * js) % m2 = t2 ∧ t + m * js < (Int.lcm m m2 : Int) := by
  obtain ⟨a, rfl⟩ := Int.eq_ofNat_of_zero_le (show 0 ≤ m by omega)
  obtain ⟨b, rfl⟩ := Int.eq_ofNat_of_zero_le (show 0 ≤ m2 by omega)
  have h' : ((Nat.gcd a b : Nat) : Int) ∣ t2 - t := by
    have := Int.dvd_neg.2 h
    rwa [Int.neg_sub] at this
  obtain ⟨js, hk, he⟩ := meets (a := a) (b := b) (by omega) h'
  refine ⟨js, by rw [he]; exact Int.emod_eq_of_lt ht2.1 ht2.2, ?_⟩
  show t + (a : Int) * js < ((Nat.lcm a b : Nat) : Int)
  have hl : Nat.lcm a b = a * (b / Nat.gcd a b) := by
    unfold Nat.lcm; rw [Nat.mul_div_assoc _ (Nat.gcd_dvd_right a b)]
  have h1 : a * (js + 1) ≤ a * (b / Nat.gcd a b) := Nat.mul_le_mul_left a hk
  rw [hl]
  have h2 : ((a * (js + 1) : Nat) : Int) = (a : Int) * js + a := by rw [Nat.mul_add]; omega
  omega
noncomputable def meetS (m t m2 t2 : Int) : Int × Int × Bool :=
  if ¬ okS m t ∨ ¬ okS m2 t2 then (0, 0, false)
  else if m = 0 then (if hasS m2 t2 t then (m, t, true) else (0, 0, false))
  else if m2 = 0 then (if hasS m t t2 then (m2, t2, true) else (0, 0, false))
  else if ¬ ((Int.gcd m m2 : Int) ∣ t - t2) then (0, 0, false)
  else if (Int.lcm m m2 : Int) > 65536 then (if m2 > m then (m2, t2, true) else (m, t, true))
  else ((Int.lcm m m2 : Int), solX m t m2 t2, true)
theorem gcd_pos1 {m m2 : Int} (hm : 1 ≤ m) : 1 ≤ Int.gcd m m2 := Nat.gcd_pos_of_pos_left _ (by omega)
theorem gcd_le1 {m m2 : Int} (hm : 1 ≤ m) (h : m ≤ 65536) : Int.gcd m m2 ≤ 65536 := by
  have := Nat.le_of_dvd (by omega) (show Int.gcd m m2 ∣ m.natAbs from Nat.gcd_dvd_left _ _); omega
theorem tdiv_le1 {m g : Int} (hm : 1 ≤ m) (h : m ≤ 65536) : 0 ≤ m.tdiv g ∧ m.tdiv g ≤ 65536 ∨ m.tdiv g < 0 ∧ -65536 ≤ m.tdiv g := by
  have h : (m.tdiv g).natAbs ≤ m.natAbs := by rw [Int.natAbs_tdiv]; exact Nat.div_le_self _ _
  omega
theorem lcm_bound {m m2 : Int} (hm : 1 ≤ m ∧ m ≤ 65536) (hm2 : 1 ≤ m2 ∧ m2 ≤ 65536) : (Int.lcm m m2 : Int) ≤ 4294967296 := by
  have h1 : Int.lcm m m2 ≤ m.natAbs * m2.natAbs := by
    unfold Int.lcm Nat.lcm
    exact Nat.div_le_self _ _
  have h2 : m.natAbs * m2.natAbs ≤ 65536 * 65536 := Nat.mul_le_mul (by omega) (by omega)
  omega
theorem iMeet_loop {m t m2 t2 L : Int} (hm : 1 ≤ m ∧ m ≤ 65536) (ht : 0 ≤ t ∧ t < m) (hm2 : 1 ≤ m2 ∧ m2 ≤ 65536) (js : Nat) (hjs : (t + m * js) % m2 = t2) (hb : t + m * js < L) (hL : L ≤ 65536) (hLe : L = (Int.lcm m m2 : Int)) (d : Nat) :
    ∀ j : Nat, j ≤ js → js - j = d → W (fun k => impl_RestMeet.l0 k L (t + m * j) m t m2 t2) (fun r => r.1 = L ∧ r.2.2 = true ∧ Sol m t m2 t2 r.2.1) := by
  have hp : ∀ j : Nat, j ≤ js → 0 ≤ t + m * j ∧ t + m * j < L := by
    intro j hj
    have h1 : m * j ≤ m * js := Int.mul_le_mul_of_nonneg_left (by omega) (by omega)
    have h0 : 0 ≤ m * (j : Int) := Int.mul_nonneg (by omega) (by omega)
    omega
  have hs : ∀ j : Nat, j ≤ js → (t + m * j) % m2 = t2 → Sol m t m2 t2 (t + m * j) := by
    intro j hj he
    have hpj := hp j hj
    exact ⟨hpj.1, by rw [← hLe]; exact hpj.2, by rw [Int.add_mul_emod_self_left]; exact Int.emod_eq_of_lt ht.1 ht.2, he⟩
  induction d with
  | zero =>
    intro j hj hd
    obtain rfl : j = js := by omega
    refine W.step (fun k => by simp only [impl_RestMeet.l0]; rfl) ?_
    rw [iMod m2 (by omega) (by omega)]
    simp only [Option.bind_some]
    exact W.pos hjs (W.ret ⟨rfl, rfl, hs j hj hjs⟩)
  | succ d ih =>
    intro j hj hd
    have hpj := hp j hj
    have h := ih (j + 1) (by omega) (by omega)
    have e : t + m * ((j + 1 : Nat) : Int) = t + m * j + m := by rw [show ((j + 1 : Nat) : Int) = (j : Int) + 1 by omega, Int.mul_add, Int.mul_one]; omega
    rw [e] at h
    refine W.step (fun k => by simp only [impl_RestMeet.l0]; rfl) ?_
    rw [iMod m2 (by omega) (by omega)]
    simp only [Option.bind_some]
    refine W.ite (fun he => W.ret ⟨rfl, rfl, hs j hj he⟩) (fun he => ?_)
    rw [wrap64_id (by omega) (by omega)]
    exact h

theorem iRestMeet (m t m2 t2 : Int) : W (fun k => impl_RestMeet.f k m t m2 t2) (· = meetS m t m2 t2) := by
  have bad : ¬ okS m t ∨ ¬ okS m2 t2 → W (fun k => impl_RestMeet.j0 k true m t m2 t2) (· = meetS m t m2 t2) := by
    intro hb
    refine W.step (fun k => by simp only [impl_RestMeet.j0]; rfl) ?_
    (try refine W.pos (by trivial) ?_)
    exact W.ret (by unfold meetS; rw [if_pos hb])
  unfold impl_RestMeet.f
  simp only [iRestOk, Option.bind_some]
  refine W.dec (fun h1 => ?_) (fun h1 => bad (.inl h1))
  by_cases h3 : okS m2 t2
  · rw [ndt h3]
    have hk : ¬ (¬ okS m t ∨ ¬ okS m2 t2) := by simp [h1, h3]
    unfold meetS
    rw [if_neg hk]
    refine W.step (fun k => by simp only [impl_RestMeet.j0]; rfl) ?_
    (try refine W.neg (by decide) ?_)
    refine W.ite (fun h4 => ?_) (fun h4 => ?_)
    · rw [if_pos h4]
      refine W.bind (iRestHas m2 t2 t) ?_
      rintro _ rfl
      exact W.dec (fun h5 => W.ret (by rw [if_pos h5])) (fun h5 => W.ret (by rw [if_neg h5]))
    rw [if_neg h4]
    refine W.ite (fun h5 => ?_) (fun h5 => ?_)
    · rw [if_pos h5]
      refine W.bind (iRestHas m t t2) ?_
      rintro _ rfl
      exact W.dec (fun h5 => W.ret (by rw [if_pos h5])) (fun h5 => W.ret (by rw [if_neg h5]))
    rw [if_neg h5]
    have o1 := okS_pos h1 h4
    have o2 := okS_pos h3 h5
    refine W.bind (iGcd [m, m2] (by simp) (by simp; omega)) ?_
    rintro _ rfl
    rw [gl2]
    have g1 := gcd_pos1 (m2 := m2) o1.1; have g2 := gcd_le1 (m2 := m2) o1.1 o1.2.1
    rw [wrap64_id (n := t - t2) (by omega) (by omega)]
    refine W.neg (by omega) ?_
    refine W.ite (fun h6 => ?_) (fun h6 => W.ret (by rw [if_pos (show ¬ ((Int.gcd m m2 : Int) ∣ t - t2) from fun hd => h6 (tmod_zero_iff.2 hd))]))
    have hd := tmod_zero_iff.1 h6
    rw [if_neg (show ¬ ¬ ((Int.gcd m m2 : Int) ∣ t - t2) from fun hc => hc hd)]
    have lb := lcm_bound (m := m) (m2 := m2) (by omega) (by omega)
    have lb2 := lcm_bound (m := m2) (m2 := m) (by omega) (by omega)
    obtain ⟨js, hj1, hj2⟩ := reach (m := m) (m2 := m2) o1.1 o2.1 (by omega) (by omega) hd
    have hd2 : (Int.gcd m2 m : Int) ∣ t2 - t := by
      rw [Int.gcd_comm]; have := Int.dvd_neg.2 hd; rwa [Int.neg_sub] at this
    obtain ⟨ks, hk1, hk2⟩ := reach (m := m2) (m2 := m) o2.1 o1.1 (by omega) (by omega) hd2
    refine W.ite (fun h7 => ?_) (fun h7 => ?_)
    · have td := tdiv_le1 (g := (Int.gcd m m2 : Int)) o2.1 o2.2.1
      have pl := prod_lcm (m := m2) (m2 := m) o2.1 o1.1
      rw [Int.gcd_comm] at pl
      refine W.step (fun k => by simp only [impl_RestMeet.j1]; rfl) ?_
      refine W.neg (by omega) ?_
      rw [wrap64_id (n := m2.tdiv (Int.gcd m m2 : Int)) (by omega) (by omega), pl, wrap64_id (n := (Int.lcm m2 m : Int)) (by omega) (by omega)]
      rw [Int.lcm_comm m2 m]
      refine W.ite (fun h8 => W.ret (by rw [if_pos h8, if_pos h7])) (fun h8 => ?_)
      rw [if_neg h8]
      rw [Int.lcm_comm m2 m] at hk2
      have := iMeet_loop (m := m2) (t := t2) (m2 := m) (t2 := t) (L := (Int.lcm m m2 : Int)) (by omega) (by omega) (by omega) ks hk1 hk2 (by omega) (by rw [Int.lcm_comm]) ks 0 (by omega) (by omega)
      rw [show t2 + m2 * ((0 : Nat) : Int) = t2 by simp] at this
      refine this.mono ?_
      rintro ⟨a, b, c⟩ ⟨rfl, rfl, hs⟩
      rw [← sol_eq (by omega) (by omega) (sol_turn hs)]
    · have td := tdiv_le1 (g := (Int.gcd m m2 : Int)) o1.1 o1.2.1
      refine W.step (fun k => by simp only [impl_RestMeet.j1]; rfl) ?_
      refine W.neg (by omega) ?_
      rw [wrap64_id (n := m.tdiv (Int.gcd m m2 : Int)) (by omega) (by omega), prod_lcm o1.1 o2.1, wrap64_id (n := (Int.lcm m m2 : Int)) (by omega) (by omega)]
      refine W.ite (fun h8 => W.ret (by rw [if_pos h8, if_neg h7])) (fun h8 => ?_)
      rw [if_neg h8]
      have := iMeet_loop (m := m) (t := t) (m2 := m2) (t2 := t2) (L := (Int.lcm m m2 : Int)) (by omega) (by omega) (by omega) js hj1 hj2 (by omega) rfl js 0 (by omega) (by omega)
      rw [show t + m * ((0 : Nat) : Int) = t by simp] at this
      refine this.mono ?_
      rintro ⟨a, b, c⟩ ⟨rfl, rfl, hs⟩
      rw [← sol_eq (by omega) (by omega) hs]
  · rw [ndf h3]; exact bad (.inr h3)

noncomputable def meetV (l h m t l2 h2 m2 t2 : Int) : Int × Int × Int × Int :=
  if ¬ okV l h m t ∨ ¬ okV l2 h2 m2 t2 ∨ isNV l h m t ∨ isNV l2 h2 m2 t2 then (1, 0, 0, 0)
  else if (meetS m t m2 t2).2.2 = true then mkV (rmeet l h l2 h2).1 (rmeet l h l2 h2).2 (meetS m t m2 t2).1 (meetS m t m2 t2).2.1 else (1, 0, 0, 0)
theorem iValMeet (l h m t l2 h2 m2 t2 : Int) : W (fun k => impl_ValMeet.f k l h m t l2 h2 m2 t2) (· = meetV l h m t l2 h2 m2 t2) := by
  unfold impl_ValMeet.f
  simp only [iVal_none, Option.bind_some]
  have bad : ¬ okV l h m t ∨ ¬ okV l2 h2 m2 t2 ∨ isNV l h m t ∨ isNV l2 h2 m2 t2 → W (fun k => impl_ValMeet.j0 k true l h m t l2 h2 m2 t2) (· = meetV l h m t l2 h2 m2 t2) := by
    intro hb
    refine W.step (fun k => by simp only [impl_ValMeet.j0, impl_valNone.f, Option.bind_some]; rfl) ?_
    (try refine W.pos (by trivial) ?_)
    exact W.ret (by unfold meetV; rw [if_pos hb])
  refine W.bind (iValOk l h m t) ?_
  rintro _ rfl
  refine W.dec (fun h1 => ?_) (fun h1 => bad (.inl h1))
  refine W.bind (iValOk l2 h2 m2 t2) ?_
  rintro _ rfl
  refine W.dec (fun h3 => W.dec (fun h4 => bad (.inr (.inr (.inl h4)))) (fun h4 => ?_)) (fun h3 => bad (.inr (.inl h3)))
  by_cases h5 : isNV l2 h2 m2 t2
  · rw [decide_eq_true h5]; exact bad (.inr (.inr (.inr h5)))
  · rw [decide_eq_false h5]
    unfold meetV
    rw [if_neg (by simp [h1, h3, h4, h5])]
    refine W.step (fun k => by simp only [impl_ValMeet.j0, impl_valNone.f, impl_Val_span.f, impl_Val_rest.f, Option.bind_some]; rfl) ?_
    (try refine W.neg (by decide) ?_)
    refine W.bind (iRestMeet m t m2 t2) ?_
    rintro _ rfl
    refine W.ite (fun h6 => ?_) (fun h6 => W.ret (by rw [if_neg h6]))
    rw [if_pos h6]
    refine W.bind (iRangeMeet l h l2 h2) ?_
    rintro _ rfl
    refine W.bind (iValMake _ _ _ _) ?_
    rintro _ rfl
    exact W.ret rfl

/-! ### what an operator makes of two rests -/
def wOf (op : Int) : Int := if op ≥ 11 then 4294967296 else 0
def doS (op m t m2 t2 : Int) : Int × Int :=
  if ¬ (1 ≤ op ∧ op ≤ 13) ∨ ¬ okS m t ∨ ¬ okS m2 t2 then (1, 0)
  else if m = 0 ∧ m2 = 0 then (if (numDo op t t2).2 = 0 then (0, (numDo op t t2).1) else (1, 0))
  else if op = 1 ∨ op = 11 then mkS (t + t2) (Int.gcd (Int.gcd m m2 : Int) (wOf op) : Int)
  else if op = 2 ∨ op = 12 then mkS (t - t2) (Int.gcd (Int.gcd m m2 : Int) (wOf op) : Int)
  else if op = 3 ∨ op = 13 then (if (Int.gcd (Int.gcd (m * m2) (m * t2) : Int) (m2 * t) : Int) = 0 then (0, 0) else mkS (t * t2) (Int.gcd (Int.gcd (Int.gcd (m * m2) (m * t2) : Int) (m2 * t) : Int) (wOf op) : Int))
  else if op = 9 then (if m2 = 0 ∧ 0 ≤ t2 ∧ t2 ≤ 31 then mkS (t * 2 ^ t2.toNat) (m * 2 ^ t2.toNat) else (1, 0))
  else if op = 5 then (if (Int.gcd (Int.gcd m m2 : Int) t2 : Int) = 0 then (1, 0) else mkS t (Int.gcd (Int.gcd m m2 : Int) t2 : Int))
  else (1, 0)
theorem gcd_assoc' (a b c : Int) : Int.gcd a (Int.gcd b c : Int) = Int.gcd (Int.gcd a b : Int) c := by
  unfold Int.gcd; simp [Nat.gcd_assoc]
theorem iDo_1 {m t m2 t2 : Int} (o1 : okS m t) (o2 : okS m2 t2) : W (fun k => impl_RestDo.j1 k 1 false m t m2 t2) (· = mkS (t + t2) (Int.gcd (Int.gcd m m2 : Int) (wOf 1) : Int)) := by
  have r1 := okS_range o1; have r2 := okS_range o2
  have g1 := gcd_le (a := m) (b := m2) (B := 65536) (by omega) (by omega) (by omega)
  have g2 := gcd_le (a := (Int.gcd m m2 : Int)) (b := wOf 1) (B := 4294967296) (by omega) (by omega) (by simp [wOf])
  have hw : wOf 1 = 0 := by simp [wOf]
  rw [hw] at g2 ⊢
  refine W.steps 3 (fun k => by simp only [impl_RestDo.j1, impl_RestDo.j2, impl_RestDo.j3, impl_RestDo.j4, impl_RestDo.j5, impl_restAll.f, Option.bind_some, ↓reduceIte, Int.reduceEq, Int.reduceGE, Int.reduceBEq, Bool.false_eq_true, beq_self_eq_true]; rfl) ?_
  rw [wrap64_id (n := t + t2) (by omega) (by omega)]
  refine W.bind (iGcd [m, m2, 0] (by simp) (by simp; omega)) ?_
  rintro _ rfl
  rw [gl3]
  refine W.bind (iOf _ _ (by omega) (by omega)) ?_
  rintro _ rfl
  exact W.ret rfl
theorem iDo_11 {m t m2 t2 : Int} (o1 : okS m t) (o2 : okS m2 t2) : W (fun k => impl_RestDo.j1 k 11 false m t m2 t2) (· = mkS (t + t2) (Int.gcd (Int.gcd m m2 : Int) (wOf 11) : Int)) := by
  have r1 := okS_range o1; have r2 := okS_range o2
  have g1 := gcd_le (a := m) (b := m2) (B := 65536) (by omega) (by omega) (by omega)
  have g2 := gcd_le (a := (Int.gcd m m2 : Int)) (b := wOf 11) (B := 4294967296) (by omega) (by omega) (by simp [wOf])
  have hw : wOf 11 = 4294967296 := by simp [wOf]
  rw [hw] at g2 ⊢
  refine W.steps 3 (fun k => by simp only [impl_RestDo.j1, impl_RestDo.j2, impl_RestDo.j3, impl_RestDo.j4, impl_RestDo.j5, impl_restAll.f, Option.bind_some, ↓reduceIte, Int.reduceEq, Int.reduceGE, Int.reduceBEq, Bool.false_eq_true, beq_self_eq_true]; rfl) ?_
  rw [wrap64_id (n := t + t2) (by omega) (by omega)]
  refine W.bind (iGcd [m, m2, 4294967296] (by simp) (by simp; omega)) ?_
  rintro _ rfl
  rw [gl3]
  refine W.bind (iOf _ _ (by omega) (by omega)) ?_
  rintro _ rfl
  exact W.ret rfl
theorem iDo_2 {m t m2 t2 : Int} (o1 : okS m t) (o2 : okS m2 t2) : W (fun k => impl_RestDo.j1 k 2 false m t m2 t2) (· = mkS (t - t2) (Int.gcd (Int.gcd m m2 : Int) (wOf 2) : Int)) := by
  have r1 := okS_range o1; have r2 := okS_range o2
  have g1 := gcd_le (a := m) (b := m2) (B := 65536) (by omega) (by omega) (by omega)
  have g2 := gcd_le (a := (Int.gcd m m2 : Int)) (b := wOf 2) (B := 4294967296) (by omega) (by omega) (by simp [wOf])
  have hw : wOf 2 = 0 := by simp [wOf]
  rw [hw] at g2 ⊢
  refine W.steps 4 (fun k => by simp only [impl_RestDo.j1, impl_RestDo.j2, impl_RestDo.j3, impl_RestDo.j4, impl_RestDo.j5, impl_restAll.f, Option.bind_some, ↓reduceIte, Int.reduceEq, Int.reduceGE, Int.reduceBEq, Bool.false_eq_true, beq_self_eq_true]; rfl) ?_
  rw [wrap64_id (n := t - t2) (by omega) (by omega)]
  refine W.bind (iGcd [m, m2, 0] (by simp) (by simp; omega)) ?_
  rintro _ rfl
  rw [gl3]
  refine W.bind (iOf _ _ (by omega) (by omega)) ?_
  rintro _ rfl
  exact W.ret rfl
theorem iDo_12 {m t m2 t2 : Int} (o1 : okS m t) (o2 : okS m2 t2) : W (fun k => impl_RestDo.j1 k 12 false m t m2 t2) (· = mkS (t - t2) (Int.gcd (Int.gcd m m2 : Int) (wOf 12) : Int)) := by
  have r1 := okS_range o1; have r2 := okS_range o2
  have g1 := gcd_le (a := m) (b := m2) (B := 65536) (by omega) (by omega) (by omega)
  have g2 := gcd_le (a := (Int.gcd m m2 : Int)) (b := wOf 12) (B := 4294967296) (by omega) (by omega) (by simp [wOf])
  have hw : wOf 12 = 4294967296 := by simp [wOf]
  rw [hw] at g2 ⊢
  refine W.steps 4 (fun k => by simp only [impl_RestDo.j1, impl_RestDo.j2, impl_RestDo.j3, impl_RestDo.j4, impl_RestDo.j5, impl_restAll.f, Option.bind_some, ↓reduceIte, Int.reduceEq, Int.reduceGE, Int.reduceBEq, Bool.false_eq_true, beq_self_eq_true]; rfl) ?_
  rw [wrap64_id (n := t - t2) (by omega) (by omega)]
  refine W.bind (iGcd [m, m2, 4294967296] (by simp) (by simp; omega)) ?_
  rintro _ rfl
  rw [gl3]
  refine W.bind (iOf _ _ (by omega) (by omega)) ?_
  rintro _ rfl
  exact W.ret rfl
theorem iDo_3 {m t m2 t2 : Int} (o1 : okS m t) (o2 : okS m2 t2) : W (fun k => impl_RestDo.j1 k 3 false m t m2 t2) (· = if (Int.gcd (Int.gcd (m * m2) (m * t2) : Int) (m2 * t) : Int) = 0 then (0, 0) else mkS (t * t2) (Int.gcd (Int.gcd (Int.gcd (m * m2) (m * t2) : Int) (m2 * t) : Int) (wOf 3) : Int)) := by
  have r1 := okS_range o1; have r2 := okS_range o2
  have b1 := mul_bound (a := m) (b := m2) (by omega) (by omega); have b2 := mul_bound (a := m) (b := t2) (by omega) (by omega)
  have b3 := mul_bound (a := m2) (b := t) (by omega) (by omega); have b4 := mul_bound (a := t) (b := t2) (by omega) (by omega)
  have g1 := gcd_le (a := m * m2) (b := m * t2) (B := 4611686018427387904) (by omega) (by omega) (by omega)
  have g2 := gcd_le (a := (Int.gcd (m * m2) (m * t2) : Int)) (b := m2 * t) (B := 4611686018427387904) (by omega) (by omega) (by omega)
  have g3 := gcd_le (a := (Int.gcd (Int.gcd (m * m2) (m * t2) : Int) (m2 * t) : Int)) (b := wOf 3) (B := 4611686018427387904) (by omega) (by omega) (by simp [wOf])
  have hw : wOf 3 = 0 := by simp [wOf]
  rw [hw] at g3 ⊢
  refine W.steps 5 (fun k => by simp only [impl_RestDo.j1, impl_RestDo.j2, impl_RestDo.j3, impl_RestDo.j4, impl_RestDo.j5, impl_restAll.f, Option.bind_some, ↓reduceIte, Int.reduceEq, Int.reduceGE, Int.reduceBEq, Bool.false_eq_true, beq_self_eq_true]; rfl) ?_
  rw [wrap64_id (n := m * m2) (by omega) (by omega), wrap64_id (n := m * t2) (by omega) (by omega), wrap64_id (n := m2 * t) (by omega) (by omega)]
  refine W.bind (iGcd [m * m2, m * t2, m2 * t] (by simp) (by simp; omega)) ?_
  rintro _ rfl
  rw [gl3]
  refine W.ite (fun h => W.ret (by rw [if_pos h])) (fun h => ?_)
  rw [if_neg h]
  refine W.bind (iGcd [_, 0] (by simp) (by simp; omega)) ?_
  rintro _ rfl
  rw [gl2, wrap64_id (n := t * t2) (by omega) (by omega)]
  refine W.bind (iOf _ _ (by omega) (by omega)) ?_
  rintro _ rfl
  exact W.ret rfl
theorem iDo_13 {m t m2 t2 : Int} (o1 : okS m t) (o2 : okS m2 t2) : W (fun k => impl_RestDo.j1 k 13 false m t m2 t2) (· = if (Int.gcd (Int.gcd (m * m2) (m * t2) : Int) (m2 * t) : Int) = 0 then (0, 0) else mkS (t * t2) (Int.gcd (Int.gcd (Int.gcd (m * m2) (m * t2) : Int) (m2 * t) : Int) (wOf 13) : Int)) := by
  have r1 := okS_range o1; have r2 := okS_range o2
  have b1 := mul_bound (a := m) (b := m2) (by omega) (by omega); have b2 := mul_bound (a := m) (b := t2) (by omega) (by omega)
  have b3 := mul_bound (a := m2) (b := t) (by omega) (by omega); have b4 := mul_bound (a := t) (b := t2) (by omega) (by omega)
  have g1 := gcd_le (a := m * m2) (b := m * t2) (B := 4611686018427387904) (by omega) (by omega) (by omega)
  have g2 := gcd_le (a := (Int.gcd (m * m2) (m * t2) : Int)) (b := m2 * t) (B := 4611686018427387904) (by omega) (by omega) (by omega)
  have g3 := gcd_le (a := (Int.gcd (Int.gcd (m * m2) (m * t2) : Int) (m2 * t) : Int)) (b := wOf 13) (B := 4611686018427387904) (by omega) (by omega) (by simp [wOf])
  have hw : wOf 13 = 4294967296 := by simp [wOf]
  rw [hw] at g3 ⊢
  refine W.steps 5 (fun k => by simp only [impl_RestDo.j1, impl_RestDo.j2, impl_RestDo.j3, impl_RestDo.j4, impl_RestDo.j5, impl_restAll.f, Option.bind_some, ↓reduceIte, Int.reduceEq, Int.reduceGE, Int.reduceBEq, Bool.false_eq_true, beq_self_eq_true]; rfl) ?_
  rw [wrap64_id (n := m * m2) (by omega) (by omega), wrap64_id (n := m * t2) (by omega) (by omega), wrap64_id (n := m2 * t) (by omega) (by omega)]
  refine W.bind (iGcd [m * m2, m * t2, m2 * t] (by simp) (by simp; omega)) ?_
  rintro _ rfl
  rw [gl3]
  refine W.ite (fun h => W.ret (by rw [if_pos h])) (fun h => ?_)
  rw [if_neg h]
  refine W.bind (iGcd [_, 4294967296] (by simp) (by simp; omega)) ?_
  rintro _ rfl
  rw [gl2, wrap64_id (n := t * t2) (by omega) (by omega)]
  refine W.bind (iOf _ _ (by omega) (by omega)) ?_
  rintro _ rfl
  exact W.ret rfl
theorem iDo_5 {m t m2 t2 : Int} (o1 : okS m t) (o2 : okS m2 t2) : W (fun k => impl_RestDo.j1 k 5 false m t m2 t2) (· = if (Int.gcd (Int.gcd m m2 : Int) t2 : Int) = 0 then (1, 0) else mkS t (Int.gcd (Int.gcd m m2 : Int) t2 : Int)) := by
  have r1 := okS_range o1; have r2 := okS_range o2
  have g1 := gcd_le (a := m) (b := m2) (B := 65536) (by omega) (by omega) (by omega)
  have g2 := gcd_le (a := (Int.gcd m m2 : Int)) (b := t2) (B := 4294967296) (by omega) (by omega) (by omega)
  have g3 := gcd_le (a := m2) (b := t2) (B := 4294967296) (by omega) (by omega) (by omega)
  refine W.steps 5 (fun k => by simp only [impl_RestDo.j1, impl_RestDo.j2, impl_RestDo.j3, impl_RestDo.j4, impl_RestDo.j5, impl_restAll.f, Option.bind_some, ↓reduceIte, Int.reduceEq, Int.reduceGE, Int.reduceBEq, Bool.false_eq_true, beq_self_eq_true]; rfl) ?_
  refine W.bind (iGcd [m, m2, t2] (by simp) (by simp; omega)) ?_
  rintro _ rfl
  rw [gl3]
  refine W.ite (fun h => W.ret (by rw [if_pos h])) (fun h => ?_)
  rw [if_neg h]
  refine W.bind (iOf _ _ (by omega) (by omega)) ?_
  rintro _ rfl
  exact W.ret rfl
theorem iDo_9 {m t m2 t2 : Int} (o1 : okS m t) (o2 : okS m2 t2) : W (fun k => impl_RestDo.j1 k 9 false m t m2 t2) (· = if m2 = 0 ∧ 0 ≤ t2 ∧ t2 ≤ 31 then mkS (t * 2 ^ t2.toNat) (m * 2 ^ t2.toNat) else (1, 0)) := by
  have r1 := okS_range o1; have r2 := okS_range o2
  refine W.steps 5 (fun k => by simp only [impl_RestDo.j1, impl_RestDo.j2, impl_RestDo.j3, impl_RestDo.j4, impl_RestDo.j5, impl_restAll.f, Option.bind_some, ↓reduceIte, Int.reduceEq, Int.reduceGE, Int.reduceBEq, Bool.false_eq_true, beq_self_eq_true]; rfl) ?_
  have no : ¬ (m2 = 0 ∧ 0 ≤ t2 ∧ t2 ≤ 31) → W (fun k => impl_RestDo.j6 k false m t m2 t2) (· = if m2 = 0 ∧ 0 ≤ t2 ∧ t2 ≤ 31 then mkS (t * 2 ^ t2.toNat) (m * 2 ^ t2.toNat) else (1, 0)) := by
    intro hn
    refine W.step (fun k => by simp only [impl_RestDo.j6, impl_restAll.f, Option.bind_some, ↓reduceIte, Int.reduceEq, Int.reduceGE, Int.reduceBEq, Bool.false_eq_true, beq_self_eq_true]; rfl) ?_
    (try refine W.neg (by decide) ?_)
    exact W.ret (by rw [if_neg hn])
  refine W.ite (fun h1 => W.ite (fun h2 => ?_) (fun h2 => no (fun hc => h2 hc.2.1))) (fun h1 => no (fun hc => h1 hc.1))
  by_cases h3 : t2 ≤ 31
  · rw [decide_eq_true h3, if_pos ⟨h1, h2, h3⟩]
    have hp := pow_pos' t2.toNat; have hq := pow31 h3
    have hu := u64_small (i := t2) (by omega) (by omega)
    have b1 := mul_bound2 (a := t) (b := 2 ^ t2.toNat) (by omega) (by omega); have b2 := mul_bound2 (a := m) (b := 2 ^ t2.toNat) (by omega) (by omega)
    have b3 : 0 ≤ m * 2 ^ t2.toNat := Int.mul_nonneg (by omega) (by omega)
    refine W.step (fun k => by simp only [impl_RestDo.j6]; rfl) ?_
    refine W.pos True.intro ?_
    rw [hu, shl_id (x := 1) (by omega) (by omega) (by omega) (by omega), Int.one_mul, wrap64_id (n := t * 2 ^ t2.toNat) (by omega) (by omega), wrap64_id (n := m * 2 ^ t2.toNat) (by omega) (by omega)]
    refine W.pos (by omega) ?_
    generalize t * 2 ^ t2.toNat = x1 at *
    generalize m * 2 ^ t2.toNat = x2 at *
    refine W.bind (iOf x2 x1 (by omega) (by omega)) ?_
    rintro _ rfl
    exact W.ret rfl
  · rw [decide_eq_false h3]; exact no (fun hc => h3 hc.2.2)
theorem iRestDo (op m t m2 t2 : Int) : W (fun k => impl_RestDo.f k op m t m2 t2) (· = doS op m t m2 t2) := by
  have bad : ¬ (1 ≤ op ∧ op ≤ 13) ∨ ¬ okS m t ∨ ¬ okS m2 t2 → W (fun k => impl_RestDo.j0 k op true m t m2 t2) (· = doS op m t m2 t2) := by
    intro hb
    refine W.step (fun k => by simp only [impl_RestDo.j0, impl_restAll.f, Option.bind_some, ↓reduceIte, Int.reduceEq, Int.reduceGE, Int.reduceBEq, Bool.false_eq_true, beq_self_eq_true]; rfl) ?_
    (try refine W.pos True.intro ?_)
    exact W.ret (by unfold doS; rw [if_pos hb])
  unfold impl_RestDo.f
  simp only [iNumOp, iRestOk, Option.bind_some]
  refine W.dec (fun h1 => W.dec (fun h2 => ?_) (fun h2 => bad (.inr (.inl h2)))) (fun h1 => bad (.inl h1))
  by_cases h3 : okS m2 t2
  · rw [ndt h3]
    unfold doS
    rw [if_neg (show ¬ (¬ (1 ≤ op ∧ op ≤ 13) ∨ ¬ okS m t ∨ ¬ okS m2 t2) from fun hc => hc.elim (fun x => x h1) (fun x => x.elim (fun y => y h2) (fun y => y h3)))]
    have main : ¬ (m = 0 ∧ m2 = 0) → W (fun k => impl_RestDo.j1 k op false m t m2 t2) (· = if m = 0 ∧ m2 = 0 then (if (numDo op t t2).2 = 0 then (0, (numDo op t t2).1) else (1, 0))
  else if op = 1 ∨ op = 11 then mkS (t + t2) (Int.gcd (Int.gcd m m2 : Int) (wOf op) : Int)
  else if op = 2 ∨ op = 12 then mkS (t - t2) (Int.gcd (Int.gcd m m2 : Int) (wOf op) : Int)
  else if op = 3 ∨ op = 13 then (if (Int.gcd (Int.gcd (m * m2) (m * t2) : Int) (m2 * t) : Int) = 0 then (0, 0) else mkS (t * t2) (Int.gcd (Int.gcd (Int.gcd (m * m2) (m * t2) : Int) (m2 * t) : Int) (wOf op) : Int))
  else if op = 9 then (if m2 = 0 ∧ 0 ≤ t2 ∧ t2 ≤ 31 then mkS (t * 2 ^ t2.toNat) (m * 2 ^ t2.toNat) else (1, 0))
  else if op = 5 then (if (Int.gcd (Int.gcd m m2 : Int) t2 : Int) = 0 then (1, 0) else mkS t (Int.gcd (Int.gcd m m2 : Int) t2 : Int))
  else (1, 0)) := by
      intro hz
      rw [if_neg hz]
      rcases ops h1.1 h1.2 with rfl | rfl | rfl | rfl | rfl | rfl | rfl | rfl | rfl | rfl | rfl | rfl | rfl
      · exact iDo_1 h2 h3
      · exact iDo_2 h2 h3
      · exact iDo_3 h2 h3
      · exact W.steps 5 (fun k => by simp only [impl_RestDo.j1, impl_RestDo.j2, impl_RestDo.j3, impl_RestDo.j4, impl_RestDo.j5, impl_restAll.f, Option.bind_some, ↓reduceIte, Int.reduceEq, Int.reduceGE, Int.reduceBEq, Bool.false_eq_true, beq_self_eq_true]; rfl) (W.ret rfl)
      · exact iDo_5 h2 h3
      · exact W.steps 5 (fun k => by simp only [impl_RestDo.j1, impl_RestDo.j2, impl_RestDo.j3, impl_RestDo.j4, impl_RestDo.j5, impl_restAll.f, Option.bind_some, ↓reduceIte, Int.reduceEq, Int.reduceGE, Int.reduceBEq, Bool.false_eq_true, beq_self_eq_true]; rfl) (W.ret rfl)
      · exact W.steps 5 (fun k => by simp only [impl_RestDo.j1, impl_RestDo.j2, impl_RestDo.j3, impl_RestDo.j4, impl_RestDo.j5, impl_restAll.f, Option.bind_some, ↓reduceIte, Int.reduceEq, Int.reduceGE, Int.reduceBEq, Bool.false_eq_true, beq_self_eq_true]; rfl) (W.ret rfl)
      · exact W.steps 5 (fun k => by simp only [impl_RestDo.j1, impl_RestDo.j2, impl_RestDo.j3, impl_RestDo.j4, impl_RestDo.j5, impl_restAll.f, Option.bind_some, ↓reduceIte, Int.reduceEq, Int.reduceGE, Int.reduceBEq, Bool.false_eq_true, beq_self_eq_true]; rfl) (W.ret rfl)
      · exact iDo_9 h2 h3
      · exact W.steps 5 (fun k => by simp only [impl_RestDo.j1, impl_RestDo.j2, impl_RestDo.j3, impl_RestDo.j4, impl_RestDo.j5, impl_restAll.f, Option.bind_some, ↓reduceIte, Int.reduceEq, Int.reduceGE, Int.reduceBEq, Bool.false_eq_true, beq_self_eq_true]; rfl) (W.ret rfl)
      · exact iDo_11 h2 h3
      · exact iDo_12 h2 h3
      · exact iDo_13 h2 h3
    refine W.step (fun k => by simp only [impl_RestDo.j0]; rfl) ?_
    (try refine W.neg (by decide) ?_)
    refine W.ite (fun h4 => ?_) (fun h4 => main (fun hc => h4 hc.1))
    by_cases h5 : m2 = 0
    · rw [show (m2 == 0) = true by simpa using h5, if_pos ⟨h4, h5⟩]
      refine W.step (fun k => by simp only [impl_RestDo.j1, impl_restAll.f, Option.bind_some, ↓reduceIte, Int.reduceEq, Int.reduceGE, Int.reduceBEq, Bool.false_eq_true, beq_self_eq_true]; rfl) ?_
      refine W.bind (iNumDo op t t2) ?_
      rintro _ rfl
      exact W.ite (fun h6 => W.ret (by rw [if_pos h6])) (fun h6 => W.ret (by rw [if_neg h6]))
    · rw [show (m2 == 0) = false by simpa using h5]
      exact main (fun hc => h5 hc.2)
  · rw [ndf h3]; exact bad (.inr (.inr h3))

/-! ### what an operator makes of two ranges: the program's -/
def N32 (a : Int) : Prop := -2147483648 ≤ a ∧ a ≤ 2147483647
instance (v : Int) : Decidable (N32 v) := by unfold N32; exact inferInstance
theorem mn_self (a : Int) : mn a a = a := by unfold mn; split <;> rfl
theorem mx_self (a : Int) : mx a a = a := by unfold mx; split <;> rfl
theorem mn_cases (a b : Int) : (mn a b = a ∧ a ≤ b) ∨ (mn a b = b ∧ b ≤ a) := by unfold mn; split <;> omega
theorem mx_cases (a b : Int) : (mx a b = a ∧ b ≤ a) ∨ (mx a b = b ∧ a ≤ b) := by unfold mx; split <;> omega
def crn (op l h l2 h2 : Int) : Int × Int :=
  (mn (mn (mn (exactV op l l2) (exactV op l h2)) (exactV op h l2)) (exactV op h h2), mx (mx (mx (exactV op l l2) (exactV op l h2)) (exactV op h l2)) (exactV op h h2))
theorem corners_loop (p q r s : Int) : W (fun k => impl_rangeCorners.l0 k p p 0 p q r s) (· = (mn (mn (mn p q) r) s, mx (mx (mx p q) r) s)) := by
  refine ⟨_, rfl, 5, fun k hk => ?_⟩
  obtain ⟨m, rfl⟩ : ∃ m, k = m + 5 := ⟨k - 5, by omega⟩
  simp [impl_rangeCorners.l0, wrap64, mn_self, mx_self]
theorem iCorners {op l h l2 h2 : Int} (ho : 1 ≤ op) (ho1 : op ≤ 13) (hl : N32 l) (hh : N32 h) (hl2 : N32 l2) (hh2 : N32 h2) (f1 : Fit op l2) (f2 : Fit op h2) : W (fun k => impl_rangeCorners.f k op l h l2 h2) (· = crn op l h l2 h2) := by
  unfold impl_rangeCorners.f
  refine W.bind (iExact ho ho1 hl hl2 f1) ?_
  rintro _ rfl
  refine W.bind (iExact ho ho1 hl hh2 f2) ?_
  rintro _ rfl
  refine W.bind (iExact ho ho1 hh hl2 f1) ?_
  rintro _ rfl
  refine W.bind (iExact ho ho1 hh hh2 f2) ?_
  rintro _ rfl
  exact corners_loop _ _ _ _
theorem crn_ends (op l h l2 h2 : Int) : ∃ x y x' y', (x = l ∨ x = h) ∧ (y = l2 ∨ y = h2) ∧ (x' = l ∨ x' = h) ∧ (y' = l2 ∨ y' = h2) ∧ (crn op l h l2 h2).1 = exactV op x y ∧ (crn op l h l2 h2).2 = exactV op x' y' := by
  have e1 : ∀ p q r s : Int, (mn (mn (mn p q) r) s = p) ∨ (mn (mn (mn p q) r) s = q) ∨ (mn (mn (mn p q) r) s = r) ∨ (mn (mn (mn p q) r) s = s) := by
    intro p q r s
    rcases mn_cases p q with ⟨a, _⟩ | ⟨a, _⟩ <;> rw [a] <;> rcases mn_cases _ r with ⟨b, _⟩ | ⟨b, _⟩ <;> rw [b] <;> rcases mn_cases _ s with ⟨c, _⟩ | ⟨c, _⟩ <;> rw [c] <;> simp
  have e2 : ∀ p q r s : Int, (mx (mx (mx p q) r) s = p) ∨ (mx (mx (mx p q) r) s = q) ∨ (mx (mx (mx p q) r) s = r) ∨ (mx (mx (mx p q) r) s = s) := by
    intro p q r s
    rcases mx_cases p q with ⟨a, _⟩ | ⟨a, _⟩ <;> rw [a] <;> rcases mx_cases _ r with ⟨b, _⟩ | ⟨b, _⟩ <;> rw [b] <;> rcases mx_cases _ s with ⟨c, _⟩ | ⟨c, _⟩ <;> rw [c] <;> simp
  have a := e1 (exactV op l l2) (exactV op l h2) (exactV op h l2) (exactV op h h2)
  have b := e2 (exactV op l l2) (exactV op l h2) (exactV op h l2) (exactV op h h2)
  unfold crn
  rcases a with a | a | a | a <;> rcases b with b | b | b | b <;> rw [a, b]
  · exact ⟨l, l2, l, l2, .inl rfl, .inl rfl, .inl rfl, .inl rfl, rfl, rfl⟩
  · exact ⟨l, l2, l, h2, .inl rfl, .inl rfl, .inl rfl, .inr rfl, rfl, rfl⟩
  · exact ⟨l, l2, h, l2, .inl rfl, .inl rfl, .inr rfl, .inl rfl, rfl, rfl⟩
  · exact ⟨l, l2, h, h2, .inl rfl, .inl rfl, .inr rfl, .inr rfl, rfl, rfl⟩
  · exact ⟨l, h2, l, l2, .inl rfl, .inr rfl, .inl rfl, .inl rfl, rfl, rfl⟩
  · exact ⟨l, h2, l, h2, .inl rfl, .inr rfl, .inl rfl, .inr rfl, rfl, rfl⟩
  · exact ⟨l, h2, h, l2, .inl rfl, .inr rfl, .inr rfl, .inl rfl, rfl, rfl⟩
  · exact ⟨l, h2, h, h2, .inl rfl, .inr rfl, .inr rfl, .inr rfl, rfl, rfl⟩
  · exact ⟨h, l2, l, l2, .inr rfl, .inl rfl, .inl rfl, .inl rfl, rfl, rfl⟩
  · exact ⟨h, l2, l, h2, .inr rfl, .inl rfl, .inl rfl, .inr rfl, rfl, rfl⟩
  · exact ⟨h, l2, h, l2, .inr rfl, .inl rfl, .inr rfl, .inl rfl, rfl, rfl⟩
  · exact ⟨h, l2, h, h2, .inr rfl, .inl rfl, .inr rfl, .inr rfl, rfl, rfl⟩
  · exact ⟨h, h2, l, l2, .inr rfl, .inr rfl, .inl rfl, .inl rfl, rfl, rfl⟩
  · exact ⟨h, h2, l, h2, .inr rfl, .inr rfl, .inl rfl, .inr rfl, rfl, rfl⟩
  · exact ⟨h, h2, h, l2, .inr rfl, .inr rfl, .inr rfl, .inl rfl, rfl, rfl⟩
  · exact ⟨h, h2, h, h2, .inr rfl, .inr rfl, .inr rfl, .inr rfl, rfl, rfl⟩
theorem mul_low {a b : Int} (ha : N32 a) (hb : N32 b) : -4611686016279904256 ≤ a * b := by
  unfold N32 at ha hb
  by_cases h1 : 0 ≤ a
  · by_cases h2 : 0 ≤ b
    · have := Int.mul_nonneg h1 h2; omega
    · have h : (a * b).natAbs ≤ 2147483647 * 2147483648 := by
        rw [Int.natAbs_mul]; exact Nat.mul_le_mul (by omega) (by omega)
      omega
  · by_cases h2 : 0 ≤ b
    · have h : (a * b).natAbs ≤ 2147483648 * 2147483647 := by
        rw [Int.natAbs_mul]; exact Nat.mul_le_mul (by omega) (by omega)
      omega
    · have h : 0 ≤ a * b := Int.mul_nonneg_of_nonpos_of_nonpos (by omega) (by omega)
      omega
/-- Operators that wrap make numbers that lie no further apart than a word holds. -/
theorem wrapV {op a b : Int} (h : 11 ≤ op) (h1 : op ≤ 13) (ha : N32 a) (hb : N32 b) : -4611686016279904256 ≤ exactV op a b ∧ exactV op a b ≤ 4611686018427387904 := by
  have hm := mul_low ha hb
  have hm2 := mul_bound ha hb
  unfold N32 at ha hb
  rcases (show op = 11 ∨ op = 12 ∨ op = 13 by omega) with rfl | rfl | rfl
  · simp only [exactV]; omega
  · simp only [exactV]; omega
  · simp only [exactV]; omega
def rwrap (op l h l2 h2 : Int) : Int × Int :=
  if (crn op l h l2 h2).2 - (crn op l h l2 h2).1 > 4294967295 ∨ wrap32 (crn op l h l2 h2).1 > wrap32 (crn op l h l2 h2).2 then (-2147483648, 2147483647) else (wrap32 (crn op l h l2 h2).1, wrap32 (crn op l h l2 h2).2)
theorem cut_id {l h : Int} (hl : N32 l) (hh : N32 h) (h0 : l ≤ h) : cut l h = (l, h) := by
  unfold N32 at hl hh
  unfold cut mx mn
  split <;> split <;> (try split) <;> first | rfl | omega | (congr 1 <;> omega)
theorem iWrap {op l h l2 h2 : Int} (ho : 11 ≤ op) (ho1 : op ≤ 13) (hl : N32 l) (hh : N32 h) (hl2 : N32 l2) (hh2 : N32 h2) : W (fun k => impl_rangeWrap.f k op l h l2 h2) (· = rwrap op l h l2 h2) := by
  have ft : ∀ b, Fit op b := fun b => ⟨fun h => absurd h (by omega), fun h => absurd h (by omega)⟩
  obtain ⟨x, y, x', y', hx, hy, hx', hy', e1, e2⟩ := crn_ends op l h l2 h2
  have b1 := wrapV (a := x) (b := y) ho ho1 (by rcases hx with rfl | rfl <;> assumption) (by rcases hy with rfl | rfl <;> assumption)
  have b2 := wrapV (a := x') (b := y') ho ho1 (by rcases hx' with rfl | rfl <;> assumption) (by rcases hy' with rfl | rfl <;> assumption)
  rw [← e1] at b1
  rw [← e2] at b2
  unfold impl_rangeWrap.f
  refine W.bind (iCorners (by omega) ho1 hl hh hl2 hh2 (ft _) (ft _)) ?_
  rintro _ rfl
  have bad : ((crn op l h l2 h2).2 - (crn op l h l2 h2).1 > 4294967295 ∨ wrap32 (crn op l h l2 h2).1 > wrap32 (crn op l h l2 h2).2) → W (fun k => impl_rangeWrap.j0 k (crn op l h l2 h2).1 (crn op l h l2 h2).2 true) (· = rwrap op l h l2 h2) := by
    intro hb
    refine W.step (fun k => by simp only [impl_rangeWrap.j0, iFrom, Option.bind_some]; try rfl) ?_
    refine W.pos (by trivial) (W.ret ?_)
    unfold rwrap; rw [if_pos hb]; try rfl
  rw [wrap64_id (n := (crn op l h l2 h2).2 - (crn op l h l2 h2).1) (by omega) (by omega)]
  refine W.ite (fun h1 => bad (.inl h1)) (fun h1 => ?_)
  simp only [iNumWrap, Option.bind_some]
  by_cases h3 : wrap32 (crn op l h l2 h2).1 > wrap32 (crn op l h l2 h2).2
  · rw [decide_eq_true h3]; exact bad (.inr h3)
  · rw [decide_eq_false h3]
    refine W.step (fun k => by simp only [impl_rangeWrap.j0, iNumWrap, iFrom, Option.bind_some]; try rfl) ?_
    refine W.neg (by decide) (W.ret ?_)
    rw [cut_id (wrap32_ok _) (wrap32_ok _) (by omega)]
    unfold rwrap; rw [if_neg (by omega)]
/-! ### shifts -/
def offB (x y l h : Int) : Bool := !(x == l) || (!(y == h))
def rshift (op l h l2 h2 : Int) : Int × Int × List Int :=
  if (rmeet l2 h2 0 31).1 > (rmeet l2 h2 0 31).2 then (1, 0, if offB (rmeet l2 h2 0 31).1 (rmeet l2 h2 0 31).2 l2 h2 then [3] else [])
  else ((cut (crn op l h (rmeet l2 h2 0 31).1 (rmeet l2 h2 0 31).2).1 (crn op l h (rmeet l2 h2 0 31).1 (rmeet l2 h2 0 31).2).2).1, (cut (crn op l h (rmeet l2 h2 0 31).1 (rmeet l2 h2 0 31).2).1 (crn op l h (rmeet l2 h2 0 31).1 (rmeet l2 h2 0 31).2).2).2,
    (if (crn op l h (rmeet l2 h2 0 31).1 (rmeet l2 h2 0 31).2).1 < -2147483648 ∨ (crn op l h (rmeet l2 h2 0 31).1 (rmeet l2 h2 0 31).2).2 > 2147483647 then [1] else []) ++ (if offB (rmeet l2 h2 0 31).1 (rmeet l2 h2 0 31).2 l2 h2 then [3] else []))
theorem rmeet_in (l h : Int) {x y : Int} (o : okR x y) (n : ¬ isNone x y) : (rmeet l h x y).1 > (rmeet l h x y).2 ∨ (x ≤ (rmeet l h x y).1 ∧ (rmeet l h x y).1 ≤ (rmeet l h x y).2 ∧ (rmeet l h x y).2 ≤ y ∧ l ≤ (rmeet l h x y).1 ∧ (rmeet l h x y).2 ≤ h) := by
  unfold rmeet
  split
  · left; simp
  · unfold okR at o; unfold isNone at n
    unfold cut
    split
    · left; simp
    · right
      have h1 := mx_cases l x; have h2 := mx_cases (mx l x) (-2147483648); have h3 := mn_cases h y; have h4 := mn_cases (mn h y) 2147483647
      simp only
      omega
theorem iShift {op l h l2 h2 : Int} (ho : op = 9 ∨ op = 10) (hl : N32 l) (hh : N32 h) : W (fun k => impl_rangeShift.f k op l h l2 h2) (· = rshift op l h l2 h2) := by
  unfold impl_rangeShift.f
  refine W.bind (iRangeMeet l2 h2 0 31) ?_
  rintro _ rfl
  simp only [impl_rangeNone.f, impl_Range_empty.f, Option.bind_some]
  have hm := rmeet_in l2 h2 (x := 0) (y := 31) (by unfold okR; omega) (by unfold isNone; omega)
  generalize hc : rmeet l2 h2 0 31 = c at hm ⊢
  refine W.dec (fun h1 => ?_) (fun h1 => ?_)
  · show W (fun k => if offB c.1 c.2 l2 h2 = true then _ else _) _
    unfold rshift
    rw [hc, if_pos h1]
    refine W.ite (fun h2 => ?_) (fun h2 => ?_)
    · exact W.pos (by decide) (W.ret (by rw [if_pos h2]; try rfl))
    · exact W.ret (by rw [if_neg h2])
  · have hm' := hm.resolve_left h1
    have ft : ∀ b, 0 ≤ b → b ≤ 31 → Fit op b := fun b h0 h1 => ⟨fun h => absurd h (by omega), fun _ => ⟨h0, h1⟩⟩
    refine W.bind (iCorners (l := l) (h := h) (l2 := c.1) (h2 := c.2) (by omega) (by omega) hl hh (by unfold N32; omega) (by unfold N32; omega) (ft _ (by omega) (by omega)) (ft _ (by omega) (by omega))) ?_
    rintro _ rfl
    simp only [iFrom, Option.bind_some]
    have key : ∀ b : Bool, (b = true ↔ ((crn op l h c.1 c.2).1 < -2147483648 ∨ (crn op l h c.1 c.2).2 > 2147483647)) → W (fun k => impl_rangeShift.j0 k [] b l2 h2 c.1 c.2 (cut (crn op l h c.1 c.2).1 (crn op l h c.1 c.2).2).1 (cut (crn op l h c.1 c.2).1 (crn op l h c.1 c.2).2).2) (· = rshift op l h l2 h2) := by
      intro b hb
      refine W.step (fun k => by simp only [impl_rangeShift.j0, Option.bind_some, List.nil_append]; try rfl) ?_
      unfold rshift
      rw [hc, if_neg h1]
      refine W.ite (fun h2 => ?_) (fun h2 => ?_)
      · rw [if_pos (hb.1 h2)]
        refine W.pos (by decide) ?_
        refine W.ite (fun h3 => ?_) (fun h3 => ?_)
        · refine W.pos (by decide) (W.ret ?_)
          rw [if_pos (show offB c.1 c.2 l2 _ = true from h3)]; try rfl
        · refine W.ret ?_
          rw [if_neg (show ¬ offB c.1 c.2 l2 _ = true from h3)]; try rfl
      · rw [if_neg (fun hx => h2 (hb.2 hx))]
        refine W.ite (fun h3 => ?_) (fun h3 => ?_)
        · refine W.pos (by decide) (W.ret ?_)
          rw [if_pos (show offB c.1 c.2 l2 _ = true from h3)]; try rfl
        · refine W.ret ?_
          rw [if_neg (show ¬ offB c.1 c.2 l2 _ = true from h3)]; try rfl
    refine W.ite (fun h2 => key true ?_) (fun h2 => key _ ?_)
    · simp [h2]
    · simp only [decide_eq_true_iff]; omega
/-! ### quotients -/
def hasR (l h v : Int) : Bool := decide (okR l h ∧ l ≤ v ∧ v ≤ h)
def rdiv (l h l2 h2 : Int) : Int × Int × List Int :=
  let n := rmeet l2 h2 (-2147483648) (-1)
  let p := rmeet l2 h2 1 2147483647
  let c := if n.1 > n.2 then (if p.1 > p.2 then (1, 0) else cut (crn 4 l h p.1 p.2).1 (crn 4 l h p.1 p.2).2)
    else if p.1 > p.2 then cut (crn 4 l h n.1 n.2).1 (crn 4 l h n.1 n.2).2
    else cut (mn (crn 4 l h p.1 p.2).1 (crn 4 l h n.1 n.2).1) (mx (crn 4 l h p.1 p.2).2 (crn 4 l h n.1 n.2).2)
  (c.1, c.2, (if hasR l h (-2147483648) && hasR l2 h2 (-1) then [1] else []) ++ (if hasR l2 h2 0 then [2] else []))
theorem iDiv_tail (l h l2 h2 : Int) (c : Int × Int) : W (fun k => impl_rangeDiv.j1 k l h l2 h2 c.1 c.2) (· = (c.1, c.2, (if hasR l h (-2147483648) && hasR l2 h2 (-1) then [1] else []) ++ (if hasR l2 h2 0 then [2] else []))) := by
  have key : ∀ b : Bool, W (fun k => impl_rangeDiv.j2 k [] b l2 h2 c.1 c.2) (· = (c.1, c.2, (if b then [1] else []) ++ (if hasR l2 h2 0 then [2] else []))) := by
    intro b
    refine W.step (fun k => by simp only [impl_rangeDiv.j2, iRangeHas, Option.bind_some, List.nil_append]; try rfl) ?_
    refine W.ite (fun h1 => ?_) (fun h1 => ?_)
    · rw [if_pos h1]
      refine W.pos (by decide) ?_
      refine W.ite (fun h2 => ?_) (fun h2 => ?_)
      · exact W.pos (by decide) (W.ret (by rw [if_pos (show hasR l2 _ 0 = true from h2)]; try rfl))
      · exact W.ret (by rw [if_neg (show ¬ hasR l2 _ 0 = true from h2)]; try rfl)
    · rw [if_neg h1]
      refine W.ite (fun h2 => ?_) (fun h2 => ?_)
      · exact W.pos (by decide) (W.ret (by rw [if_pos (show hasR l2 _ 0 = true from h2)]; try rfl))
      · exact W.ret (by rw [if_neg (show ¬ hasR l2 _ 0 = true from h2)]; try rfl)
  refine W.step (fun k => by simp only [impl_rangeDiv.j1, iRangeHas, Option.bind_some]; try rfl) ?_
  refine W.ite (fun h1 => ?_) (fun h1 => ?_)
  · have e : hasR l h (-2147483648) = true := h1
    have := key (hasR l2 h2 (-1))
    rw [e, Bool.true_and]
    exact this
  · have e : hasR l h (-2147483648) = false := Bool.eq_false_iff.mpr h1
    have := key false
    rw [e, Bool.false_and]
    exact this
theorem iDiv {l h l2 h2 : Int} (hl : N32 l) (hh : N32 h) : W (fun k => impl_rangeDiv.f k l h l2 h2) (· = rdiv l h l2 h2) := by
  have hn := rmeet_in l2 h2 (x := -2147483648) (y := -1) (by unfold okR; omega) (by unfold isNone; omega)
  have hp := rmeet_in l2 h2 (x := 1) (y := 2147483647) (by unfold okR; omega) (by unfold isNone; omega)
  unfold impl_rangeDiv.f impl_rangeSides.f
  refine W.bind (Q := (· = ((rmeet l2 h2 (-2147483648) (-1)).1, (rmeet l2 h2 (-2147483648) (-1)).2, (rmeet l2 h2 1 2147483647).1, (rmeet l2 h2 1 2147483647).2))) ?_ ?_
  · refine W.bind (iRangeMeet l2 h2 (-2147483648) (-1)) ?_
    rintro _ rfl
    refine W.bind (iRangeMeet l2 h2 1 2147483647) ?_
    rintro _ rfl
    exact W.ret rfl
  rintro _ rfl
  simp only
  unfold rdiv
  generalize rmeet l2 h2 (-2147483648) (-1) = n at hn ⊢
  generalize rmeet l2 h2 1 2147483647 = p at hp ⊢
  simp only
  have ft : ∀ b : Int, b ≠ 0 → Fit 4 b := fun b h0 => ⟨fun _ => h0, fun h => absurd h (by omega)⟩
  have fin : ∀ (x y : Int) (s : Bool) (i : Int), i = 2 → W (fun k => impl_rangeDiv.l0 k x y s i l h l2 h2 n.1 n.2 p.1 p.2) (· = ((if s then cut x y else (1, 0)).1, (if s then cut x y else (1, 0)).2, (if hasR l h (-2147483648) && hasR l2 h2 (-1) then [1] else []) ++ (if hasR l2 h2 0 then [2] else []))) := by
    rintro x y s _ rfl
    refine W.step (fun k => by simp only [impl_rangeDiv.l0, impl_rangeNone.f, iFrom, Option.bind_some]; try rfl) ?_
    refine W.neg (by decide) ?_
    refine W.ite (fun h1 => ?_) (fun h1 => ?_)
    · rw [if_pos h1]; exact iDiv_tail l h l2 h2 _
    · rw [if_neg h1]; exact iDiv_tail l h l2 h2 (1, 0)
  have two : ∀ (x y : Int) (s : Bool), W (fun k => impl_rangeDiv.l0 k x y s 1 l h l2 h2 n.1 n.2 p.1 p.2) (· = (let c := if p.1 > p.2 then (if s then cut x y else (1, 0)) else if s then cut (mn (crn 4 l h p.1 p.2).1 x) (mx (crn 4 l h p.1 p.2).2 y) else cut (crn 4 l h p.1 p.2).1 (crn 4 l h p.1 p.2).2
      (c.1, c.2, (if hasR l h (-2147483648) && hasR l2 h2 (-1) then [1] else []) ++ (if hasR l2 h2 0 then [2] else [])))) := by
    intro x y s
    refine W.step (fun k => by simp only [impl_rangeDiv.l0, impl_Range_empty.f, Option.bind_some]; try rfl) ?_
    refine W.pos (by decide) (W.neg (by decide) (W.pos True.intro ?_))
    refine W.dec (fun h1 => ?_) (fun h1 => ?_)
    · rw [if_pos h1]; exact fin x y s _ (by unfold wrap64; omega)
    · rw [if_neg h1]
      have hp' := hp.resolve_left h1
      refine W.bind (iCorners (l := l) (h := h) (l2 := p.1) (h2 := p.2) (by omega) (by omega) hl hh (by unfold N32; omega) (by unfold N32; omega) (ft _ (by omega)) (ft _ (by omega))) ?_
      rintro _ rfl
      refine W.ite (fun h2 => ?_) (fun h2 => ?_)
      · have := fin (mn (crn 4 l h p.1 p.2).1 x) (mx (crn 4 l h p.1 p.2).2 y) true _ (show wrap64 (1 + 1) = 2 by unfold wrap64; omega)
        rw [if_pos h2]; exact this
      · have := fin (crn 4 l h p.1 p.2).1 (crn 4 l h p.1 p.2).2 true _ (show wrap64 (1 + 1) = 2 by unfold wrap64; omega)
        rw [if_neg h2]; exact this
  refine W.step (fun k => by simp only [impl_rangeDiv.l0, impl_Range_empty.f, Option.bind_some]; try rfl) ?_
  refine W.pos (by decide) (W.pos True.intro ?_)
  have e1 : wrap64 (0 + 1) = 1 := by unfold wrap64; omega
  rw [e1]
  refine W.dec (fun h1 => ?_) (fun h1 => ?_)
  · rw [if_pos h1]; exact two 0 0 false
  · rw [if_neg h1]
    have hn' := hn.resolve_left h1
    refine W.bind (iCorners (l := l) (h := h) (l2 := n.1) (h2 := n.2) (by omega) (by omega) hl hh (by unfold N32; omega) (by unfold N32; omega) (ft _ (by omega)) (ft _ (by omega))) ?_
    rintro _ rfl
    refine W.neg (by decide) ?_
    exact two _ _ true

/-! ### rests -/
def remBy (l h x y : Int) : Int × Int := if l > -x ∧ h < x then (l, h) else (if l < 0 then mx l (1 - y) else 0, if h > 0 then mn h (y - 1) else 0)
theorem iRemBy {l h x y : Int} (hx : 0 ≤ x ∧ x ≤ 2147483648) (hy : 0 ≤ y ∧ y ≤ 2147483648) : W (fun k => impl_rangeRemBy.f k l h x y) (· = remBy l h x y) := by
  have e1 : wrap64 (-x) = -x := wrap64_id (by omega) (by omega)
  have e2 : wrap64 (1 - y) = 1 - y := wrap64_id (by omega) (by omega)
  have e3 : wrap64 (y - 1) = y - 1 := wrap64_id (by omega) (by omega)
  have key : ∀ b : Bool, (b = true ↔ (l > -x ∧ h < x)) → W (fun k => impl_rangeRemBy.j0 k y b l h) (· = remBy l h x y) := by
    intro b hb
    refine W.step (fun k => by simp only [impl_rangeRemBy.j0, e2, e3]; rfl) ?_
    refine W.ite (fun h1 => W.ret ?_) (fun h1 => ?_)
    · unfold remBy; rw [if_pos (hb.1 h1)]
    · have h1' : ¬ (l > -x ∧ h < x) := fun z => h1 (hb.2 z)
      unfold remBy
      rw [if_neg h1']
      refine W.ite (fun h2 => W.ite (fun h3 => W.ret ?_) (fun h3 => W.ret ?_)) (fun h2 => W.ite (fun h3 => W.ret ?_) (fun h3 => W.ret ?_))
      · rw [if_pos h2, if_pos h3]
      · rw [if_pos h2, if_neg h3]
      · rw [if_neg h2, if_pos h3]
      · rw [if_neg h2, if_neg h3]
  unfold impl_rangeRemBy.f
  rw [e1]
  refine W.ite (fun h1 => key _ ?_) (fun h1 => key _ ?_)
  · simp [h1]
  · simp only [Bool.false_eq_true, false_iff]; omega
def rrem (l h l2 h2 : Int) : Int × Int × List Int :=
  if l = h ∧ l2 = h2 ∧ l2 ≠ 0 then (l.tmod l2, l.tmod l2, []) else
  let n := rmeet l2 h2 (-2147483648) (-1)
  let p := rmeet l2 h2 1 2147483647
  let o := if n.1 > n.2 then (1, 0) else rjoin 1 0 (remBy l h (-n.2) (-n.1)).1 (remBy l h (-n.2) (-n.1)).2
  let q := if p.1 > p.2 then o else rjoin o.1 o.2 (remBy l h p.1 p.2).1 (remBy l h p.1 p.2).2
  (q.1, q.2, if hasR l2 h2 0 then [2] else [])
theorem iRem {l h l2 h2 : Int} : W (fun k => impl_rangeRem.f k l h l2 h2) (· = rrem l h l2 h2) := by
  have hn := rmeet_in l2 h2 (x := -2147483648) (y := -1) (by unfold okR; omega) (by unfold isNone; omega)
  have hp := rmeet_in l2 h2 (x := 1) (y := 2147483647) (by unfold okR; omega) (by unfold isNone; omega)
  have key : ∀ b : Bool, (b = true ↔ (l = h ∧ l2 = h2 ∧ l2 ≠ 0)) → W (fun k => impl_rangeRem.j0 k b l h l2 h2) (· = rrem l h l2 h2) := by
    intro b hb
    refine W.step (fun k => by simp only [impl_rangeRem.j0]; rfl) ?_
    refine W.ite (fun h1 => ?_) (fun h1 => ?_)
    · refine W.neg (hb.1 h1).2.2 (W.ret ?_)
      unfold rrem; rw [if_pos (hb.1 h1)]
    have h1' : ¬ (l = h ∧ l2 = h2 ∧ l2 ≠ 0) := fun z => h1 (hb.2 z)
    unfold rrem impl_rangeSides.f
    rw [if_neg h1']
    refine W.bind (Q := (· = ((rmeet l2 h2 (-2147483648) (-1)).1, (rmeet l2 h2 (-2147483648) (-1)).2, (rmeet l2 h2 1 2147483647).1, (rmeet l2 h2 1 2147483647).2))) ?_ ?_
    · refine W.bind (iRangeMeet l2 h2 (-2147483648) (-1)) ?_
      rintro _ rfl
      refine W.bind (iRangeMeet l2 h2 1 2147483647) ?_
      rintro _ rfl
      exact W.ret rfl
    rintro _ rfl
    simp only [impl_rangeNone.f, impl_Range_empty.f, Option.bind_some]
    generalize rmeet l2 h2 (-2147483648) (-1) = n at hn ⊢
    generalize rmeet l2 h2 1 2147483647 = p at hp ⊢
    have fin : ∀ o : Int × Int, W (fun k => impl_rangeRem.j1 k l h l2 h2 n.1 n.2 p.1 p.2 o.1 o.2) (· = ((if p.1 > p.2 then o else rjoin o.1 o.2 (remBy l h p.1 p.2).1 (remBy l h p.1 p.2).2).1, (if p.1 > p.2 then o else rjoin o.1 o.2 (remBy l h p.1 p.2).1 (remBy l h p.1 p.2).2).2, if hasR l2 h2 0 then [2] else [])) := by
      intro o
      refine W.step (fun k => by simp only [impl_rangeRem.j1, impl_Range_empty.f, iRangeHas, Option.bind_some]; rfl) ?_
      refine W.dec (fun h2 => ?_) (fun h2 => ?_)
      · rw [if_pos h2]
        refine W.ite (fun h3 => W.ret ?_) (fun h3 => W.ret ?_)
        · rw [if_pos (show hasR l2 _ 0 = true from h3)]
        · rw [if_neg (show ¬ hasR l2 _ 0 = true from h3)]
      · rw [if_neg h2]
        have hp' := hp.resolve_left h2
        refine W.bind (iRemBy (by omega) (by omega)) ?_
        rintro _ rfl
        refine W.bind (iRangeJoin _ _ _ _) ?_
        rintro _ rfl
        refine W.ite (fun h3 => W.ret ?_) (fun h3 => W.ret ?_)
        · rw [if_pos (show hasR l2 _ 0 = true from h3)]
        · rw [if_neg (show ¬ hasR l2 _ 0 = true from h3)]
    refine W.dec (fun h2 => ?_) (fun h2 => ?_)
    · rw [if_pos h2]; exact fin (1, 0)
    · rw [if_neg h2]
      have hn' := hn.resolve_left h2
      rw [wrap64_id (n := -n.2) (by omega) (by omega), wrap64_id (n := -n.1) (by omega) (by omega)]
      refine W.bind (iRemBy (by omega) (by omega)) ?_
      rintro _ rfl
      refine W.bind (iRangeJoin _ _ _ _) ?_
      rintro _ rfl
      exact fin _
  unfold impl_rangeRem.f
  simp only [impl_Range_single.f, Option.bind_some]
  refine W.ite (fun h1 => W.ite (fun h2 => key _ ?_) (fun h2 => key _ ?_)) (fun h1 => key _ ?_)
  · simp only [beq_iff_eq] at h1 h2
    simp [h1, h2]
  · simp only [beq_iff_eq] at h1 h2
    simp [h2]
  · simp only [beq_iff_eq] at h1
    simp [h1]
/-! ### bits -/
def mskL : Nat → Int → Int → Int
  | 0, x, _ => x
  | n + 1, x, m => if x < m then mskL n (2 * x + 1) m else x
/-- The least number of ones, in bits, that is at least m. -/
def msk (m : Int) : Int := mskL 32 0 m
theorem msk_loop {g : Nat → Int → Int × Int → Prop} (m : Int) (hm : m ≤ 2147483647) (l h l2 h2 z : Int) (e : mx h h2 = m) : ∀ (n : Nat) (x : Int), 0 ≤ x → x + 1 = 2 ^ (32 - n) → n ≤ 32 → W (fun k => impl_rangeBits.l0 k l h l2 h2 z x) (· = (z, mskL n x m)) := by
  intro n
  induction n with
  | zero =>
    intro x h0 hx _
    refine W.step (fun k => by simp only [impl_rangeBits.l0]; rfl) ?_
    refine W.neg (by rw [e]; simp at hx; omega) (W.ret rfl)
  | succ n ih =>
    intro x h0 hx hn
    refine W.step (fun k => by simp only [impl_rangeBits.l0]; rfl) ?_
    rw [e]
    unfold mskL
    refine W.ite (fun h1 => ?_) (fun h1 => W.ret (by rw [if_neg h1]))
    rw [if_pos h1, wrap64_id (n := 2 * x) (by omega) (by omega), wrap64_id (n := 2 * x + 1) (by omega) (by omega)]
    refine ih (2 * x + 1) (by omega) ?_ (by omega)
    rw [show 32 - n = (32 - (n + 1)) + 1 by omega, Int.pow_succ]
    omega
def rbits (op l h l2 h2 : Int) : Int × Int :=
  if l = h ∧ l2 = h2 then (exactV op l l2, exactV op l l2) else
  if op = 6 then (if l ≥ 0 ∧ l2 ≥ 0 then (0, mn h h2) else if l ≥ 0 then (0, h) else if l2 ≥ 0 then (0, h2) else (-2147483648, 2147483647))
  else if l < 0 ∨ l2 < 0 then (-2147483648, 2147483647) else (if op = 7 then mx l l2 else 0, msk (mx h h2))
theorem iBits {op l h l2 h2 : Int} (ho : op = 6 ∨ op = 7 ∨ op = 8) (hl : N32 l) (hh : N32 h) (hl2 : N32 l2) (hh2 : N32 h2) : W (fun k => impl_rangeBits.f k op l h l2 h2) (· = rbits op l h l2 h2) := by
  have ft : Fit op l2 := ⟨fun h => absurd h (by omega), fun h => absurd h (by omega)⟩
  have hm : mx h h2 ≤ 2147483647 := by unfold N32 at hh hh2; unfold mx; split <;> omega
  have key : ∀ b : Bool, (b = true ↔ (l = h ∧ l2 = h2)) → W (fun k => impl_rangeBits.j0 k op b l h l2 h2) (· = rbits op l h l2 h2) := by
    intro b hb
    refine W.step (fun k => by simp only [impl_rangeBits.j0]; rfl) ?_
    refine W.ite (fun h1 => ?_) (fun h1 => ?_)
    · refine W.bind (iExact (by omega) (by omega) hl hl2 ft) ?_
      rintro _ rfl
      exact W.ret (by unfold rbits; rw [if_pos (hb.1 h1)])
    have h1' : ¬ (l = h ∧ l2 = h2) := fun z => h1 (hb.2 z)
    unfold rbits
    rw [if_neg h1']
    refine W.ite (fun g2 => ?_) (fun g2 => ?_)
    · rw [if_pos g2]
      have t : ∀ c : Bool, (c = true ↔ (l ≥ 0 ∧ l2 ≥ 0)) → W (fun k => impl_rangeBits.j1 k c l h l2 h2) (· = (if l ≥ 0 ∧ l2 ≥ 0 then (0, mn h h2) else if l ≥ 0 then (0, h) else if l2 ≥ 0 then (0, h2) else (-2147483648, 2147483647))) := by
        intro c hc
        refine W.step (fun k => by simp only [impl_rangeBits.j1]; rfl) ?_
        refine W.ite (fun h3 => W.ret (by rw [if_pos (hc.1 h3)])) (fun h3 => ?_)
        rw [if_neg (fun z => h3 (hc.2 z))]
        refine W.ite (fun h4 => W.ret (by rw [if_pos h4])) (fun h4 => ?_)
        rw [if_neg h4]
        exact W.ite (fun h5 => W.ret (by rw [if_pos h5])) (fun h5 => W.ret (by rw [if_neg h5]))
      refine W.ite (fun h3 => t _ ?_) (fun h3 => t _ ?_)
      · simp [h3]
      · simp [h3]
    · rw [if_neg g2]
      have fin : ∀ z : Int, W (fun k => impl_rangeBits.j3 k l h l2 h2 z 0) (· = (z, msk (mx h h2))) := by
        intro z
        refine W.step (fun k => by simp only [impl_rangeBits.j3]; rfl) ?_
        exact msk_loop (g := fun _ _ _ => True) _ hm l h l2 h2 z rfl 32 0 (by omega) (by decide) (by omega)
      have t : ∀ c : Bool, (c = true ↔ (l < 0 ∨ l2 < 0)) → W (fun k => impl_rangeBits.j2 k op c l h l2 h2) (· = (if l < 0 ∨ l2 < 0 then (-2147483648, 2147483647) else (if op = 7 then mx l l2 else 0, msk (mx h h2)))) := by
        intro c hc
        refine W.step (fun k => by simp only [impl_rangeBits.j2]; rfl) ?_
        refine W.ite (fun h3 => W.ret (by rw [if_pos (hc.1 h3)])) (fun h3 => ?_)
        rw [if_neg (fun z => h3 (hc.2 z))]
        refine W.ite (fun h4 => ?_) (fun h4 => ?_)
        · rw [if_pos h4]; exact fin _
        · rw [if_neg h4]; exact fin _
      refine W.ite (fun h3 => t _ ?_) (fun h3 => t _ ?_)
      · simp [h3]
      · simp [h3]
  unfold impl_rangeBits.f
  simp only [impl_Range_single.f, Option.bind_some]
  refine W.ite (fun h1 => key _ ?_) (fun h1 => key _ ?_)
  · simp only [beq_iff_eq] at h1
    simp [h1]
  · simp only [beq_iff_eq] at h1
    simp [h1]
/-! ### all of them -/
def badDo (op l h l2 h2 : Int) : Prop := ¬ (1 ≤ op ∧ op ≤ 13) ∨ ¬ okR l h ∨ ¬ okR l2 h2 ∨ l > h ∨ l2 > h2
instance (op l h l2 h2 : Int) : Decidable (badDo op l h l2 h2) := by unfold badDo; exact inferInstance
def rangeDo (op l h l2 h2 : Int) : Int × Int × List Int :=
  if badDo op l h l2 h2 then (1, 0, []) else
  if op ≤ 3 then ((cut (crn op l h l2 h2).1 (crn op l h l2 h2).2).1, (cut (crn op l h l2 h2).1 (crn op l h l2 h2).2).2, if (crn op l h l2 h2).1 < -2147483648 ∨ (crn op l h l2 h2).2 > 2147483647 then [1] else [])
  else if op ≥ 11 then ((rwrap op l h l2 h2).1, (rwrap op l h l2 h2).2, [])
  else if op ≥ 9 then rshift op l h l2 h2
  else if op = 4 then rdiv l h l2 h2
  else if op = 5 then rrem l h l2 h2
  else ((rbits op l h l2 h2).1, (rbits op l h l2 h2).2, [])
theorem okR_N32 {l h : Int} (o : okR l h) : N32 l ∧ N32 h := by unfold okR at o; unfold N32; omega
theorem iRangeDo (op l h l2 h2 : Int) : W (fun k => impl_RangeDo.f k op l h l2 h2) (· = rangeDo op l h l2 h2) := by
  have bad : badDo op l h l2 h2 → W (fun k => impl_RangeDo.j0 k op true l h l2 h2) (· = rangeDo op l h l2 h2) := by
    intro hb
    refine W.step (fun k => by simp only [impl_RangeDo.j0, impl_rangeNone.f, Option.bind_some]; rfl) ?_
    refine W.pos (by trivial) (W.ret ?_)
    unfold rangeDo; rw [if_pos hb]
  have good : ¬ badDo op l h l2 h2 → W (fun k => impl_RangeDo.j0 k op false l h l2 h2) (· = rangeDo op l h l2 h2) := by
    intro hb
    have hb0 := hb
    unfold badDo at hb
    have ho : 1 ≤ op ∧ op ≤ 13 := by omega
    have o1 : okR l h := Decidable.byContradiction fun z => hb (.inr (.inl z))
    have o2 : okR l2 h2 := Decidable.byContradiction fun z => hb (.inr (.inr (.inl z)))
    obtain ⟨hl, hh⟩ := okR_N32 o1
    obtain ⟨hl2, hh2⟩ := okR_N32 o2
    unfold rangeDo
    rw [if_neg hb0]
    refine W.step (fun k => by simp only [impl_RangeDo.j0]; rfl) ?_
    refine W.neg (by decide) ?_
    have t4 : ∀ c : Bool, (c = true ↔ (op = 9 ∨ op = 10)) → ¬ op ≤ 3 → ¬ op ≥ 11 → W (fun k => impl_RangeDo.j4 k op op c l h l2 h2) (· = if op ≥ 9 then rshift op l h l2 h2 else if op = 4 then rdiv l h l2 h2 else if op = 5 then rrem l h l2 h2 else ((rbits op l h l2 h2).1, (rbits op l h l2 h2).2, [])) := by
      intro c hc n1 n2
      refine W.step (fun k => by simp only [impl_RangeDo.j4]; rfl) ?_
      refine W.ite (fun h1 => ?_) (fun h1 => ?_)
      · have := hc.1 h1
        rw [if_pos (by omega)]
        refine W.bind (iShift this hl hh) ?_
        rintro _ rfl
        exact W.ret rfl
      · have : ¬ (op = 9 ∨ op = 10) := fun z => h1 (hc.2 z)
        rw [if_neg (by omega)]
        refine W.ite (fun h2 => ?_) (fun h2 => ?_)
        · rw [if_pos h2]
          refine W.bind (iDiv hl hh) ?_
          rintro _ rfl
          exact W.ret rfl
        rw [if_neg h2]
        refine W.ite (fun h3 => ?_) (fun h3 => ?_)
        · rw [if_pos h3]
          refine W.bind iRem ?_
          rintro _ rfl
          exact W.ret rfl
        rw [if_neg h3]
        refine W.bind (iBits (by omega) hl hh hl2 hh2) ?_
        rintro _ rfl
        exact W.ret rfl
    have t3 : ∀ c : Bool, (c = true ↔ (op ≥ 11)) → ¬ op ≤ 3 → W (fun k => impl_RangeDo.j3 k op op c l h l2 h2) (· = if op ≥ 11 then ((rwrap op l h l2 h2).1, (rwrap op l h l2 h2).2, []) else if op ≥ 9 then rshift op l h l2 h2 else if op = 4 then rdiv l h l2 h2 else if op = 5 then rrem l h l2 h2 else ((rbits op l h l2 h2).1, (rbits op l h l2 h2).2, [])) := by
      intro c hc n1
      refine W.step (fun k => by simp only [impl_RangeDo.j3]; rfl) ?_
      refine W.ite (fun h1 => ?_) (fun h1 => ?_)
      · have := hc.1 h1
        rw [if_pos this]
        refine W.bind (iWrap (by omega) (by omega) hl hh hl2 hh2) ?_
        rintro _ rfl
        exact W.ret rfl
      · have : ¬ (op ≥ 11) := fun z => h1 (hc.2 z)
        rw [if_neg this]
        refine W.ite (fun h2 => t4 _ ?_ n1 this) (fun h2 => t4 _ ?_ n1 this)
        · simp [h2]
        · simp only [beq_iff_eq]; omega
    have t1 : ∀ c : Bool, (c = true ↔ (op ≤ 3)) → W (fun k => impl_RangeDo.j1 k op op c l h l2 h2) (· = if op ≤ 3 then ((cut (crn op l h l2 h2).1 (crn op l h l2 h2).2).1, (cut (crn op l h l2 h2).1 (crn op l h l2 h2).2).2, if (crn op l h l2 h2).1 < -2147483648 ∨ (crn op l h l2 h2).2 > 2147483647 then [1] else [])
        else if op ≥ 11 then ((rwrap op l h l2 h2).1, (rwrap op l h l2 h2).2, []) else if op ≥ 9 then rshift op l h l2 h2 else if op = 4 then rdiv l h l2 h2 else if op = 5 then rrem l h l2 h2 else ((rbits op l h l2 h2).1, (rbits op l h l2 h2).2, [])) := by
      intro c hc
      refine W.step (fun k => by simp only [impl_RangeDo.j1]; rfl) ?_
      refine W.ite (fun h1 => ?_) (fun h1 => ?_)
      · have h3 := hc.1 h1
        rw [if_pos h3]
        have ft : ∀ b, Fit op b := fun b => ⟨fun h => absurd h (by omega), fun h => absurd h (by omega)⟩
        refine W.bind (iCorners (by omega) (by omega) hl hh hl2 hh2 (ft _) (ft _)) ?_
        rintro _ rfl
        have t2 : ∀ b : Bool, (b = true ↔ ((crn op l h l2 h2).1 < -2147483648 ∨ (crn op l h l2 h2).2 > 2147483647)) → W (fun k => impl_RangeDo.j2 k (crn op l h l2 h2).1 (crn op l h l2 h2).2 b) (· = ((cut (crn op l h l2 h2).1 (crn op l h l2 h2).2).1, (cut (crn op l h l2 h2).1 (crn op l h l2 h2).2).2, if (crn op l h l2 h2).1 < -2147483648 ∨ (crn op l h l2 h2).2 > 2147483647 then [1] else [])) := by
          intro b hb
          refine W.step (fun k => by simp only [impl_RangeDo.j2, iFrom, Option.bind_some]; rfl) ?_
          refine W.ite (fun h4 => W.ret ?_) (fun h4 => W.ret ?_)
          · rw [if_pos (hb.1 h4)]
          · rw [if_neg (fun z => h4 (hb.2 z))]
        refine W.ite (fun h4 => t2 _ ?_) (fun h4 => t2 _ ?_)
        · simp [h4]
        · simp only [decide_eq_true_iff]; omega
      · have h3 : ¬ op ≤ 3 := fun z => h1 (hc.2 z)
        rw [if_neg h3]
        refine W.ite (fun h4 => t3 _ ?_ h3) (fun h4 => W.ite (fun h5 => t3 _ ?_ h3) (fun h5 => t3 _ ?_ h3))
        · simp [h4]
        · simp [h5]
        · simp only [beq_iff_eq]; omega
    refine W.ite (fun h4 => t1 _ ?_) (fun h4 => W.ite (fun h5 => t1 _ ?_) (fun h5 => t1 _ ?_))
    · simp [h4]
    · simp [h5]
    · simp only [beq_iff_eq]; omega
  unfold impl_RangeDo.f
  simp only [iNumOp, iRangeOk, impl_Range_empty.f, Option.bind_some]
  refine W.dec (fun h1 => W.dec (fun h3 => W.dec (fun h4 => W.dec (fun h5 => bad ?_) (fun h5 => ?_)) (fun h4 => bad ?_)) (fun h3 => bad ?_)) (fun h1 => bad ?_)
  · exact .inr (.inr (.inr (.inl h5)))
  · by_cases h6 : l2 > h2
    · rw [decide_eq_true h6]; exact bad (.inr (.inr (.inr (.inr h6))))
    · rw [decide_eq_false h6]
      refine good ?_
      unfold badDo
      simp only [h3, h4, not_true, false_or]
      omega
  · exact .inr (.inr (.inl h4))
  · exact .inr (.inl h3)
  · exact .inl h1

/-! ### ranges compared -/
def fin (x0 x1 y0 y1 : Int) : Int × Int × Int × Int := if isNone x0 x1 ∨ isNone y0 y1 then (1, 0, 1, 0) else (x0, x1, y0, y1)
def ne (a0 a1 b0 b1 : Int) : Int × Int := if b0 = b1 then (if a0 = b0 then cut (a0 + 1) a1 else if a1 = b0 then cut a0 (a1 - 1) else (a0, a1)) else (a0, a1)
def badC (a0 a1 b0 b1 : Int) : Prop := ¬ okR a0 a1 ∨ ¬ okR b0 b1 ∨ isNone a0 a1 ∨ isNone b0 b1
instance (a0 a1 b0 b1 : Int) : Decidable (badC a0 a1 b0 b1) := by unfold badC; exact inferInstance
def core (c a0 a1 b0 b1 : Int) : (Int × Int) × (Int × Int) :=
  if c = 1 then (rmeet a0 a1 b0 b1, rmeet a0 a1 b0 b1) else if c = 2 then (ne a0 a1 b0 b1, ne b0 b1 a0 a1) else if c = 3 then (cut a0 (mn a1 (b1 - 1)), cut (mx b0 (a0 + 1)) b1) else if c = 4 then (cut a0 (mn a1 b1), cut (mx b0 a0) b1) else ((1, 0), (1, 0))
def fin2 (r : (Int × Int) × (Int × Int)) : Int × Int × Int × Int := fin r.1.1 r.1.2 r.2.1 r.2.2
def rcmp0 (c a0 a1 b0 b1 : Int) : Int × Int × Int × Int := if badC a0 a1 b0 b1 then (1, 0, 1, 0) else fin2 (core c a0 a1 b0 b1)
def swp (r : Int × Int × Int × Int) : Int × Int × Int × Int := fin r.2.2.1 r.2.2.2 r.1 r.2.1
def rcmp (c a0 a1 b0 b1 : Int) : Int × Int × Int × Int := if badC a0 a1 b0 b1 then (1, 0, 1, 0) else if c = 5 then swp (rcmp0 3 b0 b1 a0 a1) else if c = 6 then swp (rcmp0 4 b0 b1 a0 a1) else rcmp0 c a0 a1 b0 b1
def okP (p : Int × Int) : Prop := okR p.1 p.2
theorem ne_ok {a0 a1 b0 b1 : Int} (h : okR a0 a1) : okP (ne a0 a1 b0 b1) := by
  unfold ne
  split
  · split
    · exact cut_okR _ _
    · split
      · exact cut_okR _ _
      · exact h
  · exact h
theorem core_ok {c a0 a1 b0 b1 : Int} (ha : okR a0 a1) (hb : okR b0 b1) : okP (core c a0 a1 b0 b1).1 ∧ okP (core c a0 a1 b0 b1).2 := by
  unfold core
  split
  · exact ⟨rmeet_ok _ _ _ _, rmeet_ok _ _ _ _⟩
  split
  · exact ⟨ne_ok ha, ne_ok hb⟩
  split
  · exact ⟨cut_okR _ _, cut_okR _ _⟩
  split
  · exact ⟨cut_okR _ _, cut_okR _ _⟩
  · exact ⟨.inl ⟨rfl, rfl⟩, .inl ⟨rfl, rfl⟩⟩
theorem fin_ok {x0 x1 y0 y1 : Int} (hx : okR x0 x1) (hy : okR y0 y1) : okR (fin x0 x1 y0 y1).1 (fin x0 x1 y0 y1).2.1 ∧ okR (fin x0 x1 y0 y1).2.2.1 (fin x0 x1 y0 y1).2.2.2 := by
  unfold fin
  split
  · exact ⟨.inl ⟨rfl, rfl⟩, .inl ⟨rfl, rfl⟩⟩
  · exact ⟨hx, hy⟩
theorem rcmp0_ok (c a0 a1 b0 b1 : Int) : okR (rcmp0 c a0 a1 b0 b1).1 (rcmp0 c a0 a1 b0 b1).2.1 ∧ okR (rcmp0 c a0 a1 b0 b1).2.2.1 (rcmp0 c a0 a1 b0 b1).2.2.2 := by
  unfold rcmp0
  split
  · exact ⟨.inl ⟨rfl, rfl⟩, .inl ⟨rfl, rfl⟩⟩
  · rename_i h
    have ha : okR a0 a1 := Decidable.byContradiction fun e => h (.inl e)
    have hb : okR b0 b1 := Decidable.byContradiction fun e => h (.inr (.inl e))
    exact fin_ok (core_ok ha hb).1 (core_ok ha hb).2
theorem badC_swap {a0 a1 b0 b1 : Int} : badC b0 b1 a0 a1 ↔ badC a0 a1 b0 b1 := by
  unfold badC
  constructor
  · rintro (h | h | h | h)
    · exact .inr (.inl h)
    · exact .inl h
    · exact .inr (.inr (.inr h))
    · exact .inr (.inr (.inl h))
  · rintro (h | h | h | h)
    · exact .inr (.inl h)
    · exact .inl h
    · exact .inr (.inr (.inr h))
    · exact .inr (.inr (.inl h))
theorem notBad {a0 a1 b0 b1 : Int} (h : ¬ badC a0 a1 b0 b1) : (-2147483648 ≤ a0 ∧ a0 ≤ a1 ∧ a1 ≤ 2147483647) ∧ (-2147483648 ≤ b0 ∧ b0 ≤ b1 ∧ b1 ≤ 2147483647) := by
  unfold badC okR isNone at h; omega
/-! #### the specification's -/
/-! #### the program's -/
theorem iFin {x0 x1 y0 y1 : Int} (hx : okR x0 x1) (hy : okR y0 y1) : W (fun k => impl_RangeCmp.j2 k x0 x1 y0 y1) (· = fin x0 x1 y0 y1) := by
  have one : isNone x0 x1 ∨ isNone y0 y1 → W (fun k => impl_RangeCmp.j3 k true x0 x1 y0 y1) (· = fin x0 x1 y0 y1) := by
    intro h
    refine W.step (fun k => by simp only [impl_RangeCmp.j3, impl_rangeNone.f, Option.bind_some]; rfl) ?_
    exact W.pos (by trivial) (W.ret (by unfold fin; rw [if_pos h]))
  refine W.step (fun k => by simp only [impl_RangeCmp.j2, impl_Range_empty.f, Option.bind_some]; rfl) ?_
  refine W.dec (fun h => one (.inl ((okR_gt hx).1 h))) (fun h => ?_)
  by_cases h2 : y0 > y1
  · rw [decide_eq_true h2]; exact one (.inr ((okR_gt hy).1 h2))
  · rw [decide_eq_false h2]
    refine W.step (fun k => by simp only [impl_RangeCmp.j3, impl_rangeNone.f, Option.bind_some]; rfl) ?_
    exact W.neg (by decide) (W.ret (by unfold fin; rw [if_neg (by rintro (e | e); exact h ((okR_gt hx).2 e); exact h2 ((okR_gt hy).2 e))]))
theorem iNe {a0 a1 : Int} (b0 b1 : Int) (h0 : -2147483648 ≤ a0) (h1 : a0 ≤ a1) (h2 : a1 ≤ 2147483647) : W (fun k => impl_rangeWithout.f k a0 a1 b0 b1) (· = ne a0 a1 b0 b1) := by
  unfold impl_rangeWithout.f ne
  simp only [impl_Range_single.f, Option.bind_some]
  by_cases hb : b0 = b1
  · rw [if_pos hb]
    refine W.pos (by simpa using hb) ?_
    by_cases ha : a0 = b0
    · rw [if_pos ha, show (b0 == a0) = true by simp [ha]]
      refine W.step (fun k => by simp only [impl_rangeWithout.j0]; rfl) ?_
      refine W.pos (by trivial) ?_
      rw [wrap64_id (n := a0 + 1) (by omega) (by omega)]
      refine W.bind (Q := (· = cut (a0 + 1) a1)) (W.const (iFrom _ _) rfl) ?_
      rintro _ rfl
      exact W.ret rfl
    · rw [if_neg ha, show (b0 == a0) = false by simpa using fun e => ha e.symm]
      refine W.step (fun k => by simp only [impl_rangeWithout.j0, impl_Range_single.f, Option.bind_some]; rfl) ?_
      refine W.neg (by decide) (W.pos (by simpa using hb) ?_)
      rw [wrap64_id (n := a1 - 1) (by omega) (by omega)]
      by_cases hc : a1 = b0
      · rw [if_pos hc]
        refine W.pos hc.symm ?_
        refine W.bind (Q := (· = cut a0 (a1 - 1))) (W.const (iFrom _ _) rfl) ?_
        rintro _ rfl
        exact W.ret rfl
      · rw [if_neg hc]
        exact W.neg (fun e => hc e.symm) (W.ret rfl)
  · rw [if_neg hb]
    refine W.neg (by simpa using hb) ?_
    refine W.step (fun k => by simp only [impl_rangeWithout.j0, impl_Range_single.f, Option.bind_some]; rfl) ?_
    exact W.neg (by decide) (W.neg (by simpa using hb) (W.ret rfl))
theorem iCore {c a0 a1 b0 b1 : Int} (h5 : c ≠ 5) (h6 : c ≠ 6) (hb : ¬ badC a0 a1 b0 b1) : W (fun k => impl_RangeCmp.j0 k c false a0 a1 b0 b1) (· = fin2 (core c a0 a1 b0 b1)) := by
  obtain ⟨⟨p0, p1, p2⟩, ⟨q0, q1, q2⟩⟩ := notBad hb
  have oa : okR a0 a1 := .inr ⟨p0, p1, p2⟩
  have ob : okR b0 b1 := .inr ⟨q0, q1, q2⟩
  refine W.step (fun k => by simp only [impl_RangeCmp.j0]; rfl) ?_
  refine W.neg (by decide) ?_
  unfold core
  refine W.ite (fun h1 => ?_) (fun h1 => ?_)
  · rw [if_pos h1]
    refine W.bind (iRangeMeet a0 a1 b0 b1) ?_
    rintro _ rfl
    exact iFin (rmeet_ok ..) (rmeet_ok ..)
  rw [if_neg h1]
  refine W.ite (fun h2 => ?_) (fun h2 => ?_)
  · rw [if_pos h2]
    refine W.bind (iNe b0 b1 p0 p1 p2) ?_
    rintro _ rfl
    refine W.bind (iNe a0 a1 q0 q1 q2) ?_
    rintro _ rfl
    exact iFin (ne_ok oa) (ne_ok ob)
  rw [if_neg h2]
  refine W.ite (fun h3 => ?_) (fun h3 => ?_)
  · rw [if_pos h3]
    rw [wrap64_id (n := b1 - 1) (by omega) (by omega), wrap64_id (n := a0 + 1) (by omega) (by omega)]
    refine W.bind (Q := (· = cut a0 (mn a1 (b1 - 1)))) (W.const (iFrom _ _) rfl) ?_
    rintro _ rfl
    refine W.bind (Q := (· = cut (mx b0 (a0 + 1)) b1)) (W.const (iFrom _ _) rfl) ?_
    rintro _ rfl
    exact iFin (cut_okR ..) (cut_okR ..)
  rw [if_neg h3]
  refine W.ite (fun h4 => ?_) (fun h4 => ?_)
  · rw [if_pos h4]
    refine W.bind (Q := (· = cut a0 (mn a1 b1))) (W.const (iFrom _ _) rfl) ?_
    rintro _ rfl
    refine W.bind (Q := (· = cut (mx b0 a0) b1)) (W.const (iFrom _ _) rfl) ?_
    rintro _ rfl
    exact iFin (cut_okR ..) (cut_okR ..)
  rw [if_neg h4]
  refine W.neg h5 ?_
  rw [show (c == 6) = false by simpa using h6]
  refine W.step (fun k => by simp only [impl_RangeCmp.j1, impl_rangeNone.f, Option.bind_some]; rfl) ?_
  exact W.neg (by decide) (W.ret rfl)
theorem iHead {R : Int × Int × Int × Int} (c a0 a1 b0 b1 : Int) (hbad : badC a0 a1 b0 b1 → R = (1, 0, 1, 0)) (hgood : ¬ badC a0 a1 b0 b1 → W (fun k => impl_RangeCmp.j0 k c false a0 a1 b0 b1) (· = R)) : W (fun k => impl_RangeCmp.f k c a0 a1 b0 b1) (· = R) := by
  have bad : badC a0 a1 b0 b1 → W (fun k => impl_RangeCmp.j0 k c true a0 a1 b0 b1) (· = R) := by
    intro h
    refine W.step (fun k => by simp only [impl_RangeCmp.j0, impl_rangeNone.f, Option.bind_some]; rfl) ?_
    exact W.pos (by trivial) (W.ret (hbad h).symm)
  refine W.step (fun k => by simp only [impl_RangeCmp.f, iRangeOk, impl_Range_empty.f, Option.bind_some]; rfl) ?_
  refine W.dec (fun h1 => W.dec (fun h3 => W.dec (fun h4 => bad (.inr (.inr (.inl ((okR_gt h1).1 h4))))) (fun h4 => ?_)) (fun h3 => bad (.inr (.inl h3)))) (fun h1 => bad (.inl h1))
  by_cases h5 : b0 > b1
  · rw [decide_eq_true h5]; exact bad (.inr (.inr (.inr ((okR_gt h3).1 h5))))
  · rw [decide_eq_false h5]
    exact hgood (by rintro (e | e | e | e); exact e h1; exact e h3; exact h4 ((okR_gt h1).2 e); exact h5 ((okR_gt h3).2 e))
theorem iBase {c : Int} (h5 : c ≠ 5) (h6 : c ≠ 6) (a0 a1 b0 b1 : Int) : W (fun k => impl_RangeCmp.f k c a0 a1 b0 b1) (· = rcmp0 c a0 a1 b0 b1) :=
  iHead c a0 a1 b0 b1 (fun h => by unfold rcmp0; rw [if_pos h]) (fun h => by unfold rcmp0; rw [if_neg h]; exact iCore h5 h6 h)
theorem iTurned {c d : Int} (hc : c = 5 ∧ d = 3 ∨ c = 6 ∧ d = 4) (a0 a1 b0 b1 : Int) : W (fun k => impl_RangeCmp.j0 k c false a0 a1 b0 b1) (· = swp (rcmp0 d b0 b1 a0 a1)) := by
  have ht : W (fun k => impl_CmpTurn.f k c) (· = d) := by
    rcases hc with ⟨rfl, rfl⟩ | ⟨rfl, rfl⟩
    · exact ⟨3, rfl, 1, fun k hk => by obtain ⟨m, rfl⟩ : ∃ m, k = m + 1 := ⟨k - 1, by omega⟩
                                       rfl⟩
    · exact ⟨4, rfl, 1, fun k hk => by obtain ⟨m, rfl⟩ : ∃ m, k = m + 1 := ⟨k - 1, by omega⟩
                                       rfl⟩
  have h5 : W (fun k => impl_RangeCmp.j1 k c true a0 a1 b0 b1) (· = swp (rcmp0 d b0 b1 a0 a1)) := by
    refine W.step (fun k => by simp only [impl_RangeCmp.j1]; rfl) ?_
    refine W.pos (by trivial) ?_
    refine W.bind ht ?_
    rintro _ rfl
    refine W.bind (iBase (by omega) (by omega) b0 b1 a0 a1) ?_
    rintro _ rfl
    exact iFin (rcmp0_ok ..).2 (rcmp0_ok ..).1
  refine W.step (fun k => by simp only [impl_RangeCmp.j0]; rfl) ?_
  refine W.neg (by decide) (W.neg (by omega) (W.neg (by omega) (W.neg (by omega) (W.neg (by omega) ?_))))
  refine W.ite (fun h => ?_) (fun h => ?_)
  · rw [show (c == 5) = true by simpa using h]; exact h5
  · rw [show (c == 6) = true by simp; omega]; exact h5
theorem iRangeCmp (c a0 a1 b0 b1 : Int) : W (fun k => impl_RangeCmp.f k c a0 a1 b0 b1) (· = rcmp c a0 a1 b0 b1) := by
  by_cases h5 : c = 5
  · exact iHead c a0 a1 b0 b1 (fun h => by unfold rcmp; rw [if_pos h]) (fun h => by unfold rcmp; rw [if_neg h, if_pos h5]; exact iTurned (.inl ⟨h5, rfl⟩) ..)
  by_cases h6 : c = 6
  · exact iHead c a0 a1 b0 b1 (fun h => by unfold rcmp; rw [if_pos h]) (fun h => by unfold rcmp; rw [if_neg h, if_neg h5, if_pos h6]; exact iTurned (.inr ⟨h6, rfl⟩) ..)
  have e : rcmp c a0 a1 b0 b1 = rcmp0 c a0 a1 b0 b1 := by
    unfold rcmp
    split
    · rename_i h; unfold rcmp0; rw [if_pos h]
    · first | rfl | rw [if_neg h5, if_neg h6]
  rw [e]
  exact iBase h5 h6 ..

def joinV (l h m t l2 h2 m2 t2 : Int) : Int × Int × Int × Int :=
  if ¬ okV l h m t ∨ ¬ okV l2 h2 m2 t2 then (1, 0, 0, 0) else if isNV l h m t then (l2, h2, m2, t2) else if isNV l2 h2 m2 t2 then (l, h, m, t)
  else mkV (rjoin l h l2 h2).1 (rjoin l h l2 h2).2 (joinS m t m2 t2).1 (joinS m t m2 t2).2
theorem iValJoin (l h m t l2 h2 m2 t2 : Int) : W (fun k => impl_ValJoin.f k l h m t l2 h2 m2 t2) (· = joinV l h m t l2 h2 m2 t2) := by
  unfold impl_ValJoin.f
  have bad : ¬ okV l h m t ∨ ¬ okV l2 h2 m2 t2 → W (fun k => impl_ValJoin.j0 k true l h m t l2 h2 m2 t2) (· = joinV l h m t l2 h2 m2 t2) := by
    intro hb
    refine W.step (fun k => by simp only [impl_ValJoin.j0, impl_valNone.f, Option.bind_some]; rfl) ?_
    (try refine W.pos (by trivial) ?_)
    exact W.ret (by unfold joinV; rw [if_pos hb])
  refine W.bind (iValOk l h m t) ?_
  rintro _ rfl
  refine W.dec (fun h1 => ?_) (fun h1 => bad (.inl h1))
  refine W.bind (iValOk l2 h2 m2 t2) ?_
  rintro _ rfl
  by_cases h3 : okV l2 h2 m2 t2
  · rw [ndt h3]
    have hk : ¬ (¬ okV l h m t ∨ ¬ okV l2 h2 m2 t2) := by simp [h1, h3]
    unfold joinV
    rw [if_neg hk]
    refine W.step (fun k => by simp only [impl_ValJoin.j0, iVal_none, impl_Val_span.f, impl_Val_rest.f, Option.bind_some]; rfl) ?_
    (try refine W.neg (by decide) ?_)
    refine W.dec (fun h4 => W.ret (by rw [if_pos h4])) (fun h4 => ?_)
    rw [if_neg h4]
    refine W.dec (fun h5 => W.ret (by rw [if_pos h5])) (fun h5 => ?_)
    rw [if_neg h5]
    refine W.bind (iRangeJoin l h l2 h2) ?_
    rintro _ rfl
    refine W.bind (iRestJoin m t m2 t2) ?_
    rintro _ rfl
    refine W.bind (iValMake _ _ _ _) ?_
    rintro _ rfl
    exact W.ret rfl
  · rw [ndf h3]; exact bad (.inr h3)
theorem sValJoin (l h m t l2 h2 m2 t2 : Int) : W (fun k => spec_ValJoin.f k l h m t l2 h2 m2 t2) (· = joinV l h m t l2 h2 m2 t2) := by
  unfold spec_ValJoin.f
  have bad : ¬ okV l h m t ∨ ¬ okV l2 h2 m2 t2 → W (fun k => spec_ValJoin.j0 k true l h m t l2 h2 m2 t2) (· = joinV l h m t l2 h2 m2 t2) := by
    intro hb
    refine W.step (fun k => by simp only [spec_ValJoin.j0, spec_l10None.f, Option.bind_some]; rfl) ?_
    (try refine W.pos (by trivial) ?_)
    exact W.ret (by unfold joinV; rw [if_pos hb])
  refine W.bind (sValOk l h m t) ?_
  rintro _ rfl
  refine W.dec (fun h1 => ?_) (fun h1 => bad (.inl h1))
  refine W.bind (sValOk l2 h2 m2 t2) ?_
  rintro _ rfl
  by_cases h3 : okV l2 h2 m2 t2
  · rw [ndt h3]
    have hk : ¬ (¬ okV l h m t ∨ ¬ okV l2 h2 m2 t2) := by simp [h1, h3]
    unfold joinV
    rw [if_neg hk]
    refine W.step (fun k => by simp only [spec_ValJoin.j0, spec_l10None.f, spec_l10Range.f, spec_l10Rest.f, Option.bind_some, bNV]; rfl) ?_
    (try refine W.neg (by decide) ?_)
    refine W.dec (fun h4 => W.ret (by rw [if_pos h4])) (fun h4 => ?_)
    rw [if_neg h4]
    refine W.dec (fun h5 => W.ret (by rw [if_pos h5])) (fun h5 => ?_)
    rw [if_neg h5]
    refine W.bind (sRangeJoin l h l2 h2) ?_
    rintro _ rfl
    refine W.bind (sRestJoin m t m2 t2) ?_
    rintro _ rfl
    refine W.bind (sValMake _ _ _ _) ?_
    rintro _ rfl
    exact W.ret rfl
  · rw [ndf h3]; exact bad (.inr h3)

def badV (l h m t l2 h2 m2 t2 : Int) : Prop := ¬ okV l h m t ∨ ¬ okV l2 h2 m2 t2 ∨ isNV l h m t ∨ isNV l2 h2 m2 t2
instance (l h m t l2 h2 m2 t2 : Int) : Decidable (badV l h m t l2 h2 m2 t2) := by unfold badV; exact inferInstance

/-! ### what an operator makes of two vals -/
def doV (op l h m t l2 h2 m2 t2 : Int) : Int × Int × Int × Int × List Int :=
  if badV l h m t l2 h2 m2 t2 then (1, 0, 0, 0, []) else
  let r := rangeDo op l h l2 h2
  let s := doS op m t m2 t2
  let x := mkV r.1 r.2.1 s.1 s.2
  (x.1, x.2.1, x.2.2.1, x.2.2.2, r.2.2)
theorem iValDo (op l h m t l2 h2 m2 t2 : Int) : W (fun k => impl_ValDo.f k op l h m t l2 h2 m2 t2) (· = doV op l h m t l2 h2 m2 t2) := by
  have bad : badV l h m t l2 h2 m2 t2 → W (fun k => impl_ValDo.j0 k op true l h m t l2 h2 m2 t2) (· = doV op l h m t l2 h2 m2 t2) := by
    intro hb
    refine W.step (fun k => by simp only [impl_ValDo.j0, impl_valNone.f, Option.bind_some]; rfl) ?_
    exact W.pos (by trivial) (W.ret (by unfold doV; rw [if_pos hb]))
  have good : ¬ badV l h m t l2 h2 m2 t2 → W (fun k => impl_ValDo.j0 k op false l h m t l2 h2 m2 t2) (· = doV op l h m t l2 h2 m2 t2) := by
    intro hb
    refine W.step (fun k => by simp only [impl_ValDo.j0, impl_Val_span.f, impl_Val_rest.f, Option.bind_some]; rfl) ?_
    refine W.neg (by decide) ?_
    unfold doV
    rw [if_neg hb]
    refine W.bind (iRangeDo op l h l2 h2) ?_
    rintro _ rfl
    refine W.bind (iRestDo op m t m2 t2) ?_
    rintro _ rfl
    refine W.bind (iValMake _ _ _ _) ?_
    rintro _ rfl
    exact W.ret rfl
  unfold impl_ValDo.f
  refine W.bind (iValOk l h m t) ?_
  rintro _ rfl
  refine W.dec (fun h1 => ?_) (fun h1 => bad (.inl h1))
  refine W.bind (iValOk l2 h2 m2 t2) ?_
  rintro _ rfl
  refine W.dec (fun h3 => ?_) (fun h3 => bad (.inr (.inl h3)))
  simp only [iVal_none, Option.bind_some]
  refine W.dec (fun h4 => bad (.inr (.inr (.inl h4)))) (fun h4 => ?_)
  by_cases h5 : isNV l2 h2 m2 t2
  · rw [decide_eq_true h5]; exact bad (.inr (.inr (.inr h5)))
  · rw [decide_eq_false h5]
    exact good (fun z => z.elim (fun z => z h1) (fun z => z.elim (fun z => z h3) (fun z => z.elim h4 h5)))
theorem rangeDo_len (op l h l2 h2 : Int) : (rangeDo op l h l2 h2).2.2.length ≤ 2 := by
  unfold rangeDo rshift rdiv rrem
  repeat' split
  all_goals simp
theorem doV_len (op l h m t l2 h2 m2 t2 : Int) : (doV op l h m t l2 h2 m2 t2).2.2.2.2.length ≤ 2 := by
  unfold doV
  split
  · simp
  · exact rangeDo_len op l h l2 h2

/-! ### where a comparison of two vals holds -/
def finV (x y : Int × Int × Int × Int) : Int × Int × Int × Int × Int × Int × Int × Int :=
  if isNV x.1 x.2.1 x.2.2.1 x.2.2.2 ∨ isNV y.1 y.2.1 y.2.2.1 y.2.2.2 then (1, 0, 0, 0, 1, 0, 0, 0) else (x.1, x.2.1, x.2.2.1, x.2.2.2, y.1, y.2.1, y.2.2.1, y.2.2.2)
noncomputable def cmpV (c l h m t l2 h2 m2 t2 : Int) : Int × Int × Int × Int × Int × Int × Int × Int :=
  if badV l h m t l2 h2 m2 t2 then (1, 0, 0, 0, 1, 0, 0, 0) else
  let r := rcmp c l h l2 h2
  let x := mkV r.1 r.2.1 m t
  let y := mkV r.2.2.1 r.2.2.2 m2 t2
  if c = 1 then finV (meetV x.1 x.2.1 x.2.2.1 x.2.2.2 y.1 y.2.1 y.2.2.1 y.2.2.2) (meetV x.1 x.2.1 x.2.2.1 x.2.2.2 y.1 y.2.1 y.2.2.1 y.2.2.2) else finV x y
theorem iFinV (x y : Int × Int × Int × Int) : W (fun k => impl_ValCmp.j1 k x.1 x.2.1 x.2.2.1 x.2.2.2 y.1 y.2.1 y.2.2.1 y.2.2.2) (· = finV x y) := by
  have key : ∀ b : Bool, (b = true ↔ (isNV x.1 x.2.1 x.2.2.1 x.2.2.2 ∨ isNV y.1 y.2.1 y.2.2.1 y.2.2.2)) → W (fun k => impl_ValCmp.j2 k b x.1 x.2.1 x.2.2.1 x.2.2.2 y.1 y.2.1 y.2.2.1 y.2.2.2) (· = finV x y) := by
    intro b hb
    refine W.step (fun k => by simp only [impl_ValCmp.j2, impl_valNone.f, Option.bind_some]; rfl) ?_
    unfold finV
    exact W.ite (fun h => W.ret (by rw [if_pos (hb.1 h)])) (fun h => W.ret (by rw [if_neg (fun z => h (hb.2 z))]))
  refine W.step (fun k => by simp only [impl_ValCmp.j1, iVal_none, Option.bind_some]; rfl) ?_
  refine W.dec (fun h => key true (by simp [h])) (fun h => key _ ?_)
  rw [decide_eq_true_iff]; simp [h]
theorem iValCmp (c l h m t l2 h2 m2 t2 : Int) : W (fun k => impl_ValCmp.f k c l h m t l2 h2 m2 t2) (· = cmpV c l h m t l2 h2 m2 t2) := by
  have bad : badV l h m t l2 h2 m2 t2 → W (fun k => impl_ValCmp.j0 k c true l h m t l2 h2 m2 t2) (· = cmpV c l h m t l2 h2 m2 t2) := by
    intro hb
    refine W.step (fun k => by simp only [impl_ValCmp.j0, impl_valNone.f, Option.bind_some]; rfl) ?_
    exact W.pos (by trivial) (W.ret (by unfold cmpV; rw [if_pos hb]))
  have good : ¬ badV l h m t l2 h2 m2 t2 → W (fun k => impl_ValCmp.j0 k c false l h m t l2 h2 m2 t2) (· = cmpV c l h m t l2 h2 m2 t2) := by
    intro hb
    refine W.step (fun k => by simp only [impl_ValCmp.j0, impl_Val_span.f, impl_Val_rest.f, Option.bind_some]; rfl) ?_
    refine W.neg (by decide) ?_
    unfold cmpV
    rw [if_neg hb]
    refine W.bind (iRangeCmp c l h l2 h2) ?_
    rintro _ rfl
    refine W.bind (iValMake _ _ _ _) ?_
    rintro _ rfl
    refine W.bind (iValMake _ _ _ _) ?_
    rintro _ rfl
    refine W.ite (fun h1 => ?_) (fun h1 => ?_)
    · simp only [if_pos h1]
      refine W.bind (iValMeet _ _ _ _ _ _ _ _) ?_
      rintro _ rfl
      exact iFinV _ _
    · simp only [if_neg h1]
      exact iFinV _ _
  unfold impl_ValCmp.f
  refine W.bind (iValOk l h m t) ?_
  rintro _ rfl
  refine W.dec (fun h1 => ?_) (fun h1 => bad (.inl h1))
  refine W.bind (iValOk l2 h2 m2 t2) ?_
  rintro _ rfl
  refine W.dec (fun h3 => ?_) (fun h3 => bad (.inr (.inl h3)))
  simp only [iVal_none, Option.bind_some]
  refine W.dec (fun h4 => bad (.inr (.inr (.inl h4)))) (fun h4 => ?_)
  by_cases h5 : isNV l2 h2 m2 t2
  · rw [decide_eq_true h5]; exact bad (.inr (.inr (.inr h5)))
  · rw [decide_eq_false h5]
    exact good (fun z => z.elim (fun z => z h1) (fun z => z.elim (fun z => z h3) (fun z => z.elim h4 h5)))

/-! ### ranges that are drawn -/
theorem drRange {b : List Int} (hb : ∀ x ∈ b, 0 ≤ x ∧ x ≤ 255) (hl : b.length ≤ 2000) (p : Int) (hp : 0 ≤ p) (hq : p ≤ 600000) : W (fun k => spec_l8Range.f k b p) (fun r => p ≤ r.2.2 ∧ r.2.2 ≤ p + 20) := by
  unfold spec_l8Range.f
  refine W.bind (pick_ok hb hl p 12 hp (by omega)) ?_
  rintro ⟨c, q⟩ ⟨rfl, _⟩
  simp only
  refine W.ite (fun _ => ?_) (fun _ => ?_)
  · simp only [spec_l8None.f, Option.bind_some]
    exact W.ret ⟨by simp only; omega, by simp only; omega⟩
  refine W.bind (num_ok hb hl (p + 1) (by omega) (by omega)) ?_
  rintro ⟨x, q⟩ ⟨_, h2, h3⟩
  simp only at h2 h3
  simp only
  refine W.ite (fun _ => W.ret ⟨by simp only; omega, by simp only; omega⟩) (fun _ => W.ite (fun _ => ?_) (fun _ => W.ite (fun _ => W.ret ⟨by simp only; omega, by simp only; omega⟩) (fun _ => ?_)))
  · refine W.bind (pick_ok hb hl q 40 (by omega) (by omega)) ?_
    rintro ⟨y, q2⟩ ⟨rfl, _⟩
    simp only [sCut, Option.bind_some]
    exact W.ret ⟨by simp only; omega, by simp only; omega⟩
  · refine W.bind (num_ok hb hl q (by omega) (by omega)) ?_
    rintro ⟨y, q2⟩ ⟨_, h4, h5⟩
    simp only at h4 h5
    simp only [sMin, sMax, sCut, Option.bind_some]
    exact W.ret ⟨by simp only; omega, by simp only; omega⟩
/-! ### the same numbers -/
theorem sameInts_self {xs : List Int} (hx : xs.length ≤ 1048576) : W (fun k => laws_sameInts.f k xs xs) (· = true) := by
  have loop : ∀ (d i : Nat), i ≤ xs.length → xs.length - i = d → W (fun k => laws_sameInts.l0 k xs xs (i : Int)) (· = true) := by
    intro d
    induction d with
    | zero =>
      intro i hi hd
      refine W.step (fun k => by simp only [laws_sameInts.l0]; rfl) ?_
      exact W.neg (by omega) (W.ret rfl)
    | succ d ih =>
      intro i hi hd
      refine W.step (fun k => by simp only [laws_sameInts.l0]; rfl) ?_
      refine W.pos (by omega) (W.pos (by omega) (W.pos (by omega) (W.pos (by trivial) ?_)))
      rw [wrap64_id (n := (i : Int) + 1) (by omega) (by omega), show (i : Int) + 1 = ((i + 1 : Nat) : Int) by omega]
      exact ih (i + 1) (by omega) (by omega)
  unfold laws_sameInts.f
  refine W.pos (by trivial) ?_
  exact loop _ 0 (by omega) rfl

/-! ### either way round: ranges and rests -/
theorem rjoin_comm (l h l2 h2 : Int) : rjoin l h l2 h2 = rjoin l2 h2 l h := by
  unfold rjoin
  by_cases h1 : okR l h
  · by_cases h3 : okR l2 h2
    · rw [if_neg (show ¬ (¬ okR l h ∨ ¬ okR l2 h2) from fun z => z.elim (fun z => z h1) (fun z => z h3)), if_neg (show ¬ (¬ okR l2 h2 ∨ ¬ okR l h) from fun z => z.elim (fun z => z h3) (fun z => z h1))]
      by_cases n1 : isNone l h
      · by_cases n2 : isNone l2 h2
        · rw [if_pos n1, if_pos n2, n1.1, n1.2, n2.1, n2.2]
        · rw [if_pos n1, if_neg n2, if_pos n1]
      · by_cases n2 : isNone l2 h2
        · rw [if_neg n1, if_pos n2, if_pos n2]
        · rw [if_neg n1, if_neg n2, if_neg n2, if_neg n1]
          have a1 := mn_cases l l2; have a2 := mn_cases l2 l; have a3 := mx_cases h h2; have a4 := mx_cases h2 h
          exact Prod.ext (by simp only; omega) (by simp only; omega)
    · rw [if_pos (.inr h3), if_pos (.inl h3)]
  · rw [if_pos (.inl h1), if_pos (.inr h1)]
theorem dvd_mod {a b g : Int} (h : g ∣ a - b) : a % g = b % g := Int.emod_eq_emod_iff_emod_sub_eq_zero.2 (Int.emod_eq_zero_of_dvd h)
theorem mkS_same {t t2 m : Int} (h : m ∣ t - t2) : mkS t m = mkS t2 m := by
  unfold mkS
  by_cases g1 : m > 65536
  · rw [if_pos g1, if_pos g1]
    have hd : ((Int.gcd m 65536 : Nat) : Int) ∣ t - t2 := Int.dvd_trans (Int.gcd_dvd_left ..) h
    rw [dvd_mod hd]
  · rw [if_neg g1, if_neg g1]
    by_cases g2 : m = 0
    · rw [if_pos g2, if_pos g2]
      subst g2
      have : t - t2 = 0 := Int.zero_dvd.1 h
      rw [show t = t2 by omega]
    · rw [if_neg g2, if_neg g2, dvd_mod h]
theorem joinS_comm (m t m2 t2 : Int) : joinS m t m2 t2 = joinS m2 t2 m t := by
  unfold joinS
  by_cases h1 : okS m t
  · by_cases h3 : okS m2 t2
    · rw [if_neg (show ¬ (¬ okS m t ∨ ¬ okS m2 t2) from fun z => z.elim (fun z => z h1) (fun z => z h3)), if_neg (show ¬ (¬ okS m2 t2 ∨ ¬ okS m t) from fun z => z.elim (fun z => z h3) (fun z => z h1))]
      have e : Int.gcd (Int.gcd m2 m : Int) (t2 - t) = Int.gcd (Int.gcd m m2 : Int) (t - t2) := by
        rw [Int.gcd_comm m2 m, show t2 - t = -(t - t2) by omega, Int.gcd_neg]
      rw [e]
      exact mkS_same (Int.gcd_dvd_right ..)
    · rw [if_pos (.inr h3), if_pos (.inl h3)]
  · rw [if_pos (.inl h1), if_pos (.inr h1)]
theorem joinV_comm (l h m t l2 h2 m2 t2 : Int) : joinV l h m t l2 h2 m2 t2 = joinV l2 h2 m2 t2 l h m t := by
  unfold joinV
  by_cases h1 : okV l h m t
  · by_cases h3 : okV l2 h2 m2 t2
    · rw [if_neg (show ¬ (¬ okV l h m t ∨ ¬ okV l2 h2 m2 t2) from fun z => z.elim (fun z => z h1) (fun z => z h3)), if_neg (show ¬ (¬ okV l2 h2 m2 t2 ∨ ¬ okV l h m t) from fun z => z.elim (fun z => z h3) (fun z => z h1))]
      by_cases n1 : isNV l h m t
      · by_cases n2 : isNV l2 h2 m2 t2
        · rw [if_pos n1, if_pos n2, n1.1, n1.2.1, n1.2.2.1, n1.2.2.2, n2.1, n2.2.1, n2.2.2.1, n2.2.2.2]
        · rw [if_pos n1, if_neg n2, if_pos n1]
      · by_cases n2 : isNV l2 h2 m2 t2
        · rw [if_neg n1, if_pos n2, if_pos n2]
        · rw [if_neg n1, if_neg n2, if_neg n2, if_neg n1, rjoin_comm l h l2 h2, joinS_comm m t m2 t2]
    · rw [if_pos (.inr h3), if_pos (.inl h3)]
  · rw [if_pos (.inl h1), if_pos (.inr h1)]
theorem exactV_comm {op : Int} (ho : op = 1 ∨ op = 3) (a b : Int) : exactV op a b = exactV op b a := by
  rcases ho with rfl | rfl
  · show a + b = b + a; omega
  · show a * b = b * a; exact Int.mul_comm a b
theorem crn_comm {op : Int} (ho : op = 1 ∨ op = 3) (l h l2 h2 : Int) : crn op l2 h2 l h = crn op l h l2 h2 := by
  unfold crn
  rw [exactV_comm ho l2 l, exactV_comm ho l2 h, exactV_comm ho h2 l, exactV_comm ho h2 h]
  generalize exactV op l l2 = p; generalize exactV op l h2 = q; generalize exactV op h l2 = r; generalize exactV op h h2 = s
  have m1 := mn_cases p q; have m2 := mn_cases (mn p q) r; have m3 := mn_cases (mn (mn p q) r) s
  have m4 := mn_cases p r; have m5 := mn_cases (mn p r) q; have m6 := mn_cases (mn (mn p r) q) s
  have x1 := mx_cases p q; have x2 := mx_cases (mx p q) r; have x3 := mx_cases (mx (mx p q) r) s
  have x4 := mx_cases p r; have x5 := mx_cases (mx p r) q; have x6 := mx_cases (mx (mx p r) q) s
  generalize mn p q = a1 at *; generalize mn a1 r = a2 at *; generalize mn a2 s = a3 at *; generalize mn p r = a4 at *; generalize mn a4 q = a5 at *; generalize mn a5 s = a6 at *
  generalize mx p q = b1 at *; generalize mx b1 r = b2 at *; generalize mx b2 s = b3 at *; generalize mx p r = b4 at *; generalize mx b4 q = b5 at *; generalize mx b5 s = b6 at *
  refine Prod.ext ?_ ?_
  · show a6 = a3; clear x1 x2 x3 x4 x5 x6; omega
  · show b6 = b3; clear m1 m2 m3 m4 m5 m6; omega
theorem rangeDo_comm {op : Int} (ho : op = 1 ∨ op = 3) (l h l2 h2 : Int) : rangeDo op l2 h2 l h = rangeDo op l h l2 h2 := by
  unfold rangeDo
  by_cases hb : badDo op l h l2 h2
  · have hb' : badDo op l2 h2 l h := by
      unfold badDo at hb ⊢
      rcases hb with z | z | z | z | z
      · exact .inl z
      · exact .inr (.inr (.inl z))
      · exact .inr (.inl z)
      · exact .inr (.inr (.inr (.inr z)))
      · exact .inr (.inr (.inr (.inl z)))
    rw [if_pos hb, if_pos hb']
  · have hb' : ¬ badDo op l2 h2 l h := by
      intro z; apply hb
      unfold badDo at z ⊢
      rcases z with z | z | z | z | z
      · exact .inl z
      · exact .inr (.inr (.inl z))
      · exact .inr (.inl z)
      · exact .inr (.inr (.inr (.inr z)))
      · exact .inr (.inr (.inr (.inl z)))
    rw [if_neg hb, if_neg hb', if_pos (show op ≤ 3 by omega), if_pos (show op ≤ 3 by omega), crn_comm ho]
theorem gcd3 (a b c : Int) : Int.gcd (Int.gcd a b : Int) c = Int.gcd (Int.gcd a c : Int) b := by
  rw [← gcd_assoc', ← gcd_assoc', Int.gcd_comm b c]
theorem doS_comm {op : Int} (ho : op = 1 ∨ op = 3) (m t m2 t2 : Int) : doS op m2 t2 m t = doS op m t m2 t2 := by
  unfold doS
  by_cases h1 : okS m t
  · by_cases h3 : okS m2 t2
    · rw [if_neg (show ¬ (¬ (1 ≤ op ∧ op ≤ 13) ∨ ¬ okS m2 t2 ∨ ¬ okS m t) from fun z => z.elim (fun z => by omega) (fun z => z.elim (fun z => z h3) (fun z => z h1))), if_neg (show ¬ (¬ (1 ≤ op ∧ op ≤ 13) ∨ ¬ okS m t ∨ ¬ okS m2 t2) from fun z => z.elim (fun z => by omega) (fun z => z.elim (fun z => z h1) (fun z => z h3)))]
      by_cases g : m = 0 ∧ m2 = 0
      · rw [if_pos g, if_pos (show m2 = 0 ∧ m = 0 from ⟨g.2, g.1⟩), numDo_comm (op := op) t t2 (by omega)]
      · rw [if_neg g, if_neg (show ¬ (m2 = 0 ∧ m = 0) from fun z => g ⟨z.2, z.1⟩)]
        rcases ho with rfl | rfl
        · rw [if_pos (.inl rfl), if_pos (.inl rfl), Int.gcd_comm m2 m, Int.add_comm t2 t]
        · have n1 : ¬ ((3 : Int) = 1 ∨ (3 : Int) = 11) := by decide
          have n2 : ¬ ((3 : Int) = 2 ∨ (3 : Int) = 12) := by decide
          have n3 : (3 : Int) = 3 ∨ (3 : Int) = 13 := .inl rfl
          rw [if_neg n1, if_neg n2, if_pos n3, if_neg n1, if_neg n2, if_pos n3, Int.mul_comm m2 m, Int.mul_comm t2 t, gcd3 (m * m2) (m2 * t) (m * t2)]
    · rw [if_pos (.inr (.inl h3)), if_pos (.inr (.inr h3))]
  · rw [if_pos (.inr (.inr h1)), if_pos (.inr (.inl h1))]
theorem badV_comm {l h m t l2 h2 m2 t2 : Int} : badV l2 h2 m2 t2 l h m t ↔ badV l h m t l2 h2 m2 t2 := by
  unfold badV
  constructor
  · rintro (z | z | z | z)
    · exact .inr (.inl z)
    · exact .inl z
    · exact .inr (.inr (.inr z))
    · exact .inr (.inr (.inl z))
  · rintro (z | z | z | z)
    · exact .inr (.inl z)
    · exact .inl z
    · exact .inr (.inr (.inr z))
    · exact .inr (.inr (.inl z))
theorem doV_comm {op : Int} (ho : op = 1 ∨ op = 3) (l h m t l2 h2 m2 t2 : Int) : doV op l2 h2 m2 t2 l h m t = doV op l h m t l2 h2 m2 t2 := by
  unfold doV
  by_cases hb : badV l h m t l2 h2 m2 t2
  · rw [if_pos hb, if_pos (badV_comm.2 hb)]
  · rw [if_neg hb, if_neg (fun z => hb (badV_comm.1 z)), rangeDo_comm ho, doS_comm ho]
/-! ### a comparison turned -/
def turnC (c : Int) : Int := if c = 3 then 5 else if c = 4 then 6 else if c = 5 then 3 else if c = 6 then 4 else if c = 1 then 1 else if c = 2 then 2 else 0
def sw4 (r : Int × Int × Int × Int) : Int × Int × Int × Int := (r.2.2.1, r.2.2.2, r.1, r.2.1)
theorem fin_sw (x0 x1 y0 y1 : Int) : fin y0 y1 x0 x1 = sw4 (fin x0 x1 y0 y1) := by
  unfold fin
  by_cases h : isNone x0 x1 ∨ isNone y0 y1
  · rw [if_pos h, if_pos (h.symm)]; rfl
  · rw [if_neg h, if_neg (fun z => h z.symm)]; rfl
theorem swp_rcmp0 (c a0 a1 b0 b1 : Int) : swp (rcmp0 c a0 a1 b0 b1) = sw4 (rcmp0 c a0 a1 b0 b1) := by
  have e : ∀ x0 x1 y0 y1 : Int, swp (fin x0 x1 y0 y1) = sw4 (fin x0 x1 y0 y1) := by
    intro x0 x1 y0 y1
    unfold swp
    rw [fin_sw]
    congr 1
    unfold fin
    by_cases h : isNone x0 x1 ∨ isNone y0 y1
    · rw [if_pos h]; rfl
    · rw [if_neg h]; rw [if_neg h]
  unfold rcmp0
  by_cases hb : badC a0 a1 b0 b1
  · rw [if_pos hb]; decide
  · rw [if_neg hb]; exact e _ _ _ _
theorem sw_sw (r : Int × Int × Int × Int) : sw4 (sw4 r) = r := rfl
theorem rcmp_turn {c : Int} (h1 : c ≠ 1) (a0 a1 b0 b1 : Int) : rcmp (turnC c) b0 b1 a0 a1 = sw4 (rcmp c a0 a1 b0 b1) := by
  unfold rcmp
  by_cases hb : badC a0 a1 b0 b1
  · rw [if_pos hb, if_pos (badC_swap.2 hb)]; rfl
  rw [if_neg hb, if_neg (fun z => hb (badC_swap.1 z))]
  have hb' : ¬ badC b0 b1 a0 a1 := fun z => hb (badC_swap.1 z)
  by_cases c3 : c = 3
  · subst c3
    rw [show turnC 3 = 5 from rfl, if_pos rfl, if_neg (by decide), if_neg (by decide), swp_rcmp0]
  by_cases c4 : c = 4
  · subst c4
    rw [show turnC 4 = 6 from rfl, if_neg (by decide), if_pos rfl, if_neg (by decide), if_neg (by decide), swp_rcmp0]
  by_cases c5 : c = 5
  · subst c5
    rw [show turnC 5 = 3 from rfl, if_neg (by decide), if_neg (by decide), if_pos rfl, swp_rcmp0, sw_sw]
  by_cases c6 : c = 6
  · subst c6
    rw [show turnC 6 = 4 from rfl, if_neg (by decide), if_neg (by decide), if_neg (by decide), if_pos rfl, swp_rcmp0, sw_sw]
  rw [if_neg c5, if_neg c6]
  by_cases c2 : c = 2
  · subst c2
    rw [show turnC 2 = 2 from rfl, if_neg (by decide), if_neg (by decide)]
    unfold rcmp0
    rw [if_neg hb, if_neg hb']
    unfold core fin2
    rw [if_neg (by decide), if_pos rfl, if_neg (by decide), if_pos rfl]
    exact fin_sw _ _ _ _
  have e : turnC c = 0 := by unfold turnC; rw [if_neg c3, if_neg c4, if_neg c5, if_neg c6, if_neg h1, if_neg c2]
  rw [e, if_neg (by decide), if_neg (by decide)]
  unfold rcmp0
  rw [if_neg hb, if_neg hb']
  unfold core fin2
  rw [if_neg (by decide), if_neg (by decide), if_neg (by decide), if_neg (by decide), if_neg h1, if_neg c2, if_neg c3, if_neg c4]
  rfl
def sw8 (r : Int × Int × Int × Int × Int × Int × Int × Int) : Int × Int × Int × Int × Int × Int × Int × Int := (r.2.2.2.2.1, r.2.2.2.2.2.1, r.2.2.2.2.2.2.1, r.2.2.2.2.2.2.2, r.1, r.2.1, r.2.2.1, r.2.2.2.1)
theorem finV_sw (x y : Int × Int × Int × Int) : finV y x = sw8 (finV x y) := by
  unfold finV
  by_cases h : isNV x.1 x.2.1 x.2.2.1 x.2.2.2 ∨ isNV y.1 y.2.1 y.2.2.1 y.2.2.2
  · rw [if_pos h, if_pos (h.symm)]; rfl
  · rw [if_neg h, if_neg (fun z => h z.symm)]; rfl
theorem cmpV_turn {c : Int} (h1 : c ≠ 1) (l h m t l2 h2 m2 t2 : Int) : cmpV (turnC c) l2 h2 m2 t2 l h m t = sw8 (cmpV c l h m t l2 h2 m2 t2) := by
  have hc : turnC c ≠ 1 := by unfold turnC; repeat' split
                              all_goals omega
  unfold cmpV
  by_cases hb : badV l h m t l2 h2 m2 t2
  · rw [if_pos hb, if_pos (badV_comm.2 hb)]; rfl
  · rw [if_neg hb, if_neg (fun z => hb (badV_comm.1 z))]
    simp only [if_neg h1, if_neg hc]
    rw [rcmp_turn h1]
    exact finV_sw _ _
theorem iTurn (c : Int) : W (fun k => impl_CmpTurn.f k c) (· = turnC c) := by
  refine ⟨_, rfl, 1, fun k hk => ?_⟩
  obtain ⟨m, rfl⟩ : ∃ m, k = m + 1 := ⟨k - 1, by omega⟩
  simp only [impl_CmpTurn.f, impl_CmpTurn.j0, turnC]
  by_cases h1 : c = 1
  · subst h1; rfl
  by_cases h2 : c = 2
  · subst h2; rfl
  by_cases h3 : c = 3
  · subst h3; rfl
  by_cases h4 : c = 4
  · subst h4; rfl
  by_cases h5 : c = 5
  · subst h5; rfl
  by_cases h6 : c = 6
  · subst h6; rfl
  simp [h1, h2, h3, h4, h5, h6]

/-! ### vals, drawn -/
theorem drRest {b : List Int} (hb : ∀ x ∈ b, 0 ≤ x ∧ x ≤ 255) (hl : b.length ≤ 2000) (p : Int) (hp : 0 ≤ p) (hq : p ≤ 600000) : W (fun k => spec_l9Rest.f k b p) (fun r => p ≤ r.2.2 ∧ r.2.2 ≤ p + 20) := by
  unfold spec_l9Rest.f
  refine W.bind (pick_ok hb hl p 8 hp (by omega)) ?_
  rintro ⟨c, q⟩ ⟨rfl, _⟩
  simp only
  refine W.ite (fun _ => ?_) (fun _ => W.ite (fun _ => ?_) (fun _ => ?_))
  · refine W.bind (num_ok hb hl (p + 1) (by omega) (by omega)) ?_
    rintro ⟨x, q⟩ ⟨_, h2, h3⟩
    simp only at h2 h3
    exact W.ret ⟨by simp only; omega, by simp only; omega⟩
  · simp only [spec_l9All.f, Option.bind_some]
    exact W.ret ⟨by simp only; omega, by simp only; omega⟩
  · refine W.bind (pick_ok hb hl (p + 1) 24 (by omega) (by omega)) ?_
    rintro ⟨d, q⟩ ⟨rfl, hd⟩
    have hd := hd (by omega)
    simp only at hd
    simp only
    refine W.ite (fun _ => ?_) (fun _ => ?_)
    · simp only [Option.bind_some]
      refine W.bind (pick_ok hb hl (p + 1 + 1) 6 (by omega) (by omega)) ?_
      rintro ⟨i, q⟩ ⟨rfl, hi⟩
      have hi := hi (by omega)
      simp only at hi
      simp only
      refine W.pos hi.1 (W.pos (by show i < 6; omega) ?_)
      refine W.bind (pick_ok hb hl (p + 1 + 1 + 1) 256 (by omega) (by omega)) ?_
      rintro ⟨e, q⟩ ⟨rfl, _⟩
      simp only
      refine W.bind (pick_ok hb hl (p + 1 + 1 + 1 + 1) 256 (by omega) (by omega)) ?_
      rintro ⟨g, q⟩ ⟨rfl, _⟩
      simp only
      refine W.neg ?_ (W.ret ⟨by simp only; omega, by simp only; omega⟩)
      rcases (show i = 0 ∨ i = 1 ∨ i = 2 ∨ i = 3 ∨ i = 4 ∨ i = 5 by omega) with rfl | rfl | rfl | rfl | rfl | rfl <;> decide
    · refine W.bind (pick_ok hb hl (p + 1 + 1) 256 (by omega) (by omega)) ?_
      rintro ⟨e, q⟩ ⟨rfl, _⟩
      simp only
      refine W.bind (pick_ok hb hl (p + 1 + 1 + 1) 256 (by omega) (by omega)) ?_
      rintro ⟨g, q⟩ ⟨rfl, _⟩
      simp only
      rw [wrap64_id (n := 1 + d) (by omega) (by omega)]
      exact W.neg (by omega) (W.ret ⟨by simp only; omega, by simp only; omega⟩)
theorem drVal {b : List Int} (hb : ∀ x ∈ b, 0 ≤ x ∧ x ≤ 255) (hl : b.length ≤ 2000) (p : Int) (hp : 0 ≤ p) (hq : p ≤ 500000) : W (fun k => spec_l10Val.f k b p) (fun r => p ≤ r.2.2.2.2 ∧ r.2.2.2.2 ≤ p + 50) := by
  unfold spec_l10Val.f
  refine W.bind (drRange hb hl p hp (by omega)) ?_
  rintro ⟨x, y, q⟩ ⟨h2, h3⟩
  simp only at h2 h3
  simp only
  refine W.bind (pick_ok hb hl q 2 (by omega) (by omega)) ?_
  rintro ⟨c, q2⟩ ⟨rfl, _⟩
  simp only
  refine W.ite (fun _ => ?_) (fun _ => ?_)
  · simp only [spec_l9All.f, Option.bind_some]
    refine W.bind (sValMake _ _ _ _) ?_
    rintro _ rfl
    exact W.ret ⟨by simp only; omega, by simp only; omega⟩
  · refine W.bind (drRest hb hl (q + 1) (by omega) (by omega)) ?_
    rintro ⟨m, t, q3⟩ ⟨h4, h5⟩
    simp only at h4 h5
    simp only
    refine W.bind (sValMake _ _ _ _) ?_
    rintro _ rfl
    exact W.ret ⟨by simp only; omega, by simp only; omega⟩
theorem drWildV {b : List Int} (hb : ∀ x ∈ b, 0 ≤ x ∧ x ≤ 255) (hl : b.length ≤ 2000) (p : Int) (hp : 0 ≤ p) (hq : p ≤ 400000) : W (fun k => spec_l10Wild.f k b p) (fun r => p ≤ r.2.2.2.2 ∧ r.2.2.2.2 ≤ p + 70) := by
  unfold spec_l10Wild.f
  refine W.bind (drVal hb hl p hp (by omega)) ?_
  rintro ⟨x, y, m, t, q⟩ ⟨h2, h3⟩
  simp only at h2 h3
  simp only
  refine W.bind (pick_ok hb hl q 40 (by omega) (by omega)) ?_
  rintro ⟨c, q2⟩ ⟨rfl, _⟩
  simp only
  have key : ∀ (q' z : Int), q + 1 ≤ q' → q' ≤ q + 10 → W (fun k => spec_l10Wild.j0 k c b q' z y m t) (fun r => p ≤ r.2.2.2.2 ∧ r.2.2.2.2 ≤ p + 70) := by
    intro q' z g1 g2
    refine W.step (fun k => by simp only [spec_l10Wild.j0]; rfl) ?_
    refine W.ite (fun _ => ?_) (fun _ => W.ite (fun _ => ?_) (fun _ => W.ret ⟨by simp only; omega, by simp only; omega⟩))
    · refine W.bind (pick_ok hb hl q' 5 (by omega) (by omega)) ?_
      rintro ⟨d, q3⟩ ⟨rfl, _⟩
      exact W.ret ⟨by simp only; omega, by simp only; omega⟩
    · refine W.bind (pick_ok hb hl q' 5 (by omega) (by omega)) ?_
      rintro ⟨d, q3⟩ ⟨rfl, _⟩
      exact W.ret ⟨by simp only; omega, by simp only; omega⟩
  refine W.ite (fun _ => ?_) (fun _ => key _ _ (by omega) (by omega))
  refine W.bind (num_ok hb hl (q + 1) (by omega) (by omega)) ?_
  rintro ⟨z, q3⟩ ⟨_, h4, h5⟩
  simp only at h4 h5
  exact key _ _ (by omega) (by omega)
theorem drTwoV {b : List Int} (hb : ∀ x ∈ b, 0 ≤ x ∧ x ≤ 255) (hl : b.length ≤ 2000) (p : Int) (hp : 0 ≤ p) (hq : p ≤ 300000) : W (fun k => spec_l10Two.f k b p) (fun _ => True) := by
  unfold spec_l10Two.f
  refine W.bind (drWildV hb hl p hp (by omega)) ?_
  rintro ⟨x, y, m, t, q⟩ ⟨h2, h3⟩
  simp only at h2 h3
  simp only
  refine W.bind (drWildV hb hl q (by omega) (by omega)) ?_
  rintro ⟨x2, y2, m2, t2, q2⟩ ⟨h4, h5⟩
  simp only at h4 h5
  simp only
  refine W.bind (pick_ok hb hl q2 3 (by omega) (by omega)) ?_
  rintro ⟨c, q3⟩ ⟨rfl, _⟩
  simp only
  have j2 : ∀ (c : Bool) (q' a b' d e : Int), 0 ≤ q' → q' ≤ 400000 → W (fun k => spec_l10Two.j2 k c b q' x y m t a b' d e) (fun _ => True) := by
    intro c q' a b' d e g1 g2
    refine W.step (fun k => by simp only [spec_l10Two.j2]; rfl) ?_
    refine W.ite (fun _ => ?_) (fun _ => W.ret trivial)
    refine W.bind (pick_ok hb hl q' 9 (by omega) (by omega)) ?_
    rintro ⟨u, _⟩ ⟨rfl, _⟩
    simp only
    refine W.bind (pick_ok hb hl (q' + 1) 9 (by omega) (by omega)) ?_
    rintro ⟨v, _⟩ ⟨rfl, _⟩
    simp only [sCut, spec_l10Rest.f, Option.bind_some]
    refine W.bind (sValMake _ _ _ _) ?_
    rintro _ rfl
    exact W.ret trivial
  have j1 : ∀ (q' a b' d e : Int), 0 ≤ q' → q' ≤ 399000 → W (fun k => spec_l10Two.j1 k b q' x y m t a b' d e) (fun _ => True) := by
    intro q' a b' d e g1 g2
    refine W.step (fun k => by simp only [spec_l10Two.j1]; rfl) ?_
    refine W.bind (pick_ok hb hl q' 4 (by omega) (by omega)) ?_
    rintro ⟨u, _⟩ ⟨rfl, _⟩
    simp only
    refine W.ite (fun _ => ?_) (fun _ => j2 _ _ _ _ _ _ (by omega) (by omega))
    refine W.bind (sValOk x y m t) ?_
    rintro _ rfl
    refine W.dec (fun _ => ?_) (fun _ => j2 _ _ _ _ _ _ (by omega) (by omega))
    simp only [spec_l10None.f, Option.bind_some]
    exact j2 _ _ _ _ _ _ (by omega) (by omega)
  have j0 : ∀ c : Bool, W (fun k => spec_l10Two.j0 k c b (q2 + 1) x y m t x2 y2 m2 t2) (fun _ => True) := by
    intro c
    refine W.step (fun k => by simp only [spec_l10Two.j0]; rfl) ?_
    refine W.ite (fun _ => ?_) (fun _ => j1 _ _ _ _ _ (by omega) (by omega))
    refine W.bind (pick_ok hb hl (q2 + 1) 9 (by omega) (by omega)) ?_
    rintro ⟨u, _⟩ ⟨rfl, _⟩
    simp only
    refine W.bind (pick_ok hb hl (q2 + 1 + 1) 9 (by omega) (by omega)) ?_
    rintro ⟨v, _⟩ ⟨rfl, _⟩
    simp only [sCut, Option.bind_some]
    refine W.bind (drRest hb hl (q2 + 1 + 1 + 1) (by omega) (by omega)) ?_
    rintro ⟨z, z2, q4⟩ ⟨h6, h7⟩
    simp only at h6 h7
    simp only
    refine W.bind (sValMake _ _ _ _) ?_
    rintro _ rfl
    exact j1 _ _ _ _ _ (by omega) (by omega)
  refine W.ite (fun _ => ?_) (fun _ => j0 _)
  refine W.bind (sValOk x y m t) ?_
  rintro _ rfl
  refine W.dec (fun _ => ?_) (fun _ => j0 _)
  simp only [spec_l10None.f, Option.bind_some]
  exact j0 _
theorem drawValCmp_ok (code : List Int) (hb : ∀ x ∈ code, (Lit.int .u8 x).wf = true) : W (fun k => spec_DrawValCmp.f k code) (fun _ => True) := by
  obtain ⟨b, ho, hl, hb⟩ := open_ok code hb
  unfold spec_DrawValCmp.f
  rw [ho]
  simp only [Option.bind_some]
  refine W.bind (pick_ok hb hl 0 8 (by omega) (by omega)) ?_
  rintro ⟨c, q⟩ ⟨rfl, _⟩
  simp only
  refine W.bind (drTwoV hb hl (0 + 1) (by omega) (by omega)) ?_
  rintro r -
  exact W.ret trivial

theorem FnValTurn : laws_FnValTurn.Pure := by
  intro code _ _ hb
  apply W.eq
  unfold laws_FnValTurn.f
  refine W.ite (fun _ => W.ret rfl) (fun _ => ?_)
  refine W.bind (drawValCmp_ok code hb) ?_
  rintro ⟨c, l, h, m, t, l2, h2, m2, t2⟩ -
  simp only
  refine W.bind (iValJoin l h m t l2 h2 m2 t2) ?_
  rintro _ rfl
  refine W.bind (sValJoin l h m t l2 h2 m2 t2) ?_
  rintro _ rfl
  refine W.neg (by simp) ?_
  refine W.bind (iValJoin l h m t l2 h2 m2 t2) ?_
  rintro _ rfl
  refine W.bind (iValJoin l2 h2 m2 t2 l h m t) ?_
  rintro _ rfl
  rw [joinV_comm l2 h2 m2 t2 l h m t]
  refine W.step (fun k => by simp only [laws_FnValTurn.j0]; rfl) ?_
  refine W.neg (by simp) ?_
  have last : W (fun k => laws_FnValTurn.l0 k c 2 l h m t l2 h2 m2 t2) (· = true) := by
    refine W.step (fun k => by simp only [laws_FnValTurn.l0]; rfl) ?_
    refine W.neg (by decide) ?_
    refine W.ite (fun _ => W.ret rfl) (fun h1 => ?_)
    refine W.bind (iValCmp c l h m t l2 h2 m2 t2) ?_
    rintro _ rfl
    refine W.bind (iTurn c) ?_
    rintro _ rfl
    refine W.bind (iValCmp (turnC c) l2 h2 m2 t2 l h m t) ?_
    rintro _ rfl
    rw [cmpV_turn h1]
    generalize cmpV c l h m t l2 h2 m2 t2 = r
    refine W.pos (by simp [sw8]) (W.ret (by simp [sw8]))
  have step : ∀ (i op : Int), (op = 1 ∨ op = 3) → i < 2 → wrap64 (1 + wrap64 (2 * i)) = op → W (fun k => laws_FnValTurn.l0 k c (wrap64 (i + 1)) l h m t l2 h2 m2 t2) (· = true) → W (fun k => laws_FnValTurn.l0 k c i l h m t l2 h2 m2 t2) (· = true) := by
    intro i op ho hi he next
    refine W.step (fun k => by simp only [laws_FnValTurn.l0]; rfl) ?_
    rw [he]
    refine W.pos hi ?_
    refine W.bind (iValDo op l h m t l2 h2 m2 t2) ?_
    rintro _ rfl
    refine W.bind (iValDo op l2 h2 m2 t2 l h m t) ?_
    rintro _ rfl
    rw [doV_comm ho l h m t l2 h2 m2 t2]
    have hF := doV_len op l h m t l2 h2 m2 t2
    refine W.neg (by simp) ?_
    refine W.bind (sameInts_self (by omega)) ?_
    rintro _ rfl
    exact W.pos (by trivial) next
  refine step 0 1 (.inl rfl) (by decide) (by unfold wrap64; omega) ?_
  rw [show wrap64 (0 + 1) = 1 by unfold wrap64; omega]
  refine step 1 3 (.inr rfl) (by decide) (by unfold wrap64; omega) ?_
  rw [show wrap64 (1 + 1) = 2 by unfold wrap64; omega]
  exact last

end Go.Proofs.Ythbkakcchgnhpaa.Pure
