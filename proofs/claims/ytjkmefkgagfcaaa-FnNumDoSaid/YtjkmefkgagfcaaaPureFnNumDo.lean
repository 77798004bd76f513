/- The pure statement of the law FnNumDo: for every input the printed function answers true. -/
import Derived.Test.YtjkmefkgagfcaaaPFnNumDox0
import Derived.Test.YtjkmefkgagfcaaaPFnNumDox1
import Derived.Test.YtjkmefkgagfcaaaPFnNumDox2
import Derived.Test.YtjkmefkgagfcaaaPFnNumDox3
import Derived.Test.YtjkmefkgagfcaaaPFnNumDox4
import Derived.Test.YtjkmefkgagfcaaaPFnNumDox5
import Derived.Test.YtjkmefkgagfcaaaLib
namespace Go.Proofs.Ytjkmefkgagfcaaa.Pure
open Go Go.RowKit Go.Proofs.Ytjkmefkgagfcaaa.PFnNumDo Go.Proofs.YtjkmefkgagfcaaaW.PrintWords Go.Proofs.YtjkmefkgagfcaaaW.PrintLast Go.Proofs.YtjkmefkgagfcaaaW.PrintMore Go.Proofs.Ytjkmefkgagfcaaa.Lib
set_option linter.unusedVariables false
set_option linter.unusedSimpArgs false

/-! ### the reader of codes -/
theorem rd_byte {b : List Int} (hb : ∀ x ∈ b, 0 ≤ x ∧ x ≤ 255) (i : Int) : 0 ≤ rd b i ∧ rd b i ≤ 255 := by
  unfold rd
  rw [List.getD_eq_getElem?_getD]
  by_cases h : i.toNat < b.length
  · rw [List.getElem?_eq_getElem h]; exact hb _ (List.getElem_mem h)
  · rw [List.getElem?_eq_none (by omega)]; simp
theorem xor64 {a b : Int} (h0 : 0 ≤ a) (h1 : a ≤ 9223372036854775807) (h2 : 0 ≤ b) (h3 : b ≤ 9223372036854775807) : 0 ≤ Go.bits .xor .i64 a b := by
  show 0 ≤ IntKind.i64.wrap ((BitVec.ofInt 64 a ^^^ BitVec.ofInt 64 b).toNat : Int)
  rw [wrap64_bv]
  have e : ∀ x : Int, 0 ≤ x → x ≤ 9223372036854775807 → (BitVec.ofInt 64 x).toNat = x.toNat := by
    intro x g0 g1
    rw [BitVec.toNat_ofInt]; congr 1; exact Int.emod_eq_of_lt g0 (by omega)
  rw [BitVec.toInt_eq_toNat_cond, BitVec.toNat_xor, e a h0 h1, e b h2 h3]
  have := Nat.xor_lt_two_pow (n := 63) (x := a.toNat) (y := b.toNat) (by omega) (by omega)
  rw [if_pos (by omega)]
  omega
theorem tmod_pos {a n : Int} (h : 0 ≤ a) (hn : 1 ≤ n) : 0 ≤ a.tmod n ∧ a.tmod n < n := by
  rw [Int.tmod_eq_emod_of_nonneg h]
  exact ⟨Int.emod_nonneg _ (by omega), Int.emod_lt_of_pos _ (by omega)⟩
def Pick (p n : Int) (r : Int × Int) : Prop := r.2 = p + 1 ∧ (1 ≤ n → 0 ≤ r.1 ∧ r.1 < n)
theorem pick_ok {b : List Int} (hb : ∀ x ∈ b, 0 ≤ x ∧ x ≤ 255) (hl : b.length ≤ 2000) (p n : Int) (hp : 0 ≤ p) (hq : p ≤ 1000000) : W (fun k => spec_l1Rd_pick.f k b p n) (Pick p n) := by
  unfold spec_l1Rd_pick.f
  rw [wrap64_id (n := p + 1) (by omega) (by omega)]
  refine W.ite (fun h => ?_) (fun h => ?_)
  · exact W.step (f := fun _ => some (0, p + 1)) (fun k => by simp only [spec_l1Rd_pick.j0, if_true]) (W.ret ⟨rfl, fun h1 => by omega⟩)
  · by_cases hz : b.length = 0
    · exact W.step (f := fun _ => some (0, p + 1)) (fun k => by simp only [spec_l1Rd_pick.j0, hz]; rfl) (W.ret ⟨rfl, fun h1 => by simp only; omega⟩)
    · have e : ((b.length : Int) == 0) = false := by simpa using hz
      rw [e]
      refine W.step (fun k => by simp only [spec_l1Rd_pick.j0]; rfl) ?_
      rw [show p + 1 - 1 = p by omega, wrap64_id (n := p) (by omega) (by omega)]
      refine W.neg (by decide) ?_
      have hn0 : ¬ n = 0 := by omega
      have ht : ∀ x : Int, 0 ≤ x → Pick p n (x.tmod n, p + 1) := fun x hx => ⟨rfl, fun h1 => tmod_pos hx h1⟩
      refine W.ite (fun h1 => ?_) (fun h1 => ?_)
      · refine W.pos hp (W.neg hn0 (W.ret ?_))
        have := rd_byte hb p
        rw [wrap64_id (by omega) (by omega)]
        exact ht _ this.1
      · have hL : (1 : Int) ≤ b.length := by omega
        refine W.neg (by omega) ?_
        have t1 := tmod_pos (a := p) hp hL
        have t2 := tmod_pos (a := p * 7 + 3) (by omega) hL
        rw [wrap64_id (n := p * 7) (by omega) (by omega), wrap64_id (n := p * 7 + 3) (by omega) (by omega)]
        refine W.pos t1.1 (W.pos t1.2 (W.pos t2.1 (W.pos t2.2 (W.neg hn0 (W.ret ?_)))))
        have r1 := rd_byte hb (Int.tmod p b.length)
        have r2 := rd_byte hb (Int.tmod (p * 7 + 3) b.length)
        have d1 : 0 ≤ Int.tdiv p b.length ∧ Int.tdiv p b.length ≤ p := by
          rw [Int.tdiv_eq_ediv_of_nonneg hp]
          exact ⟨Int.ediv_nonneg hp (by omega), Int.ediv_le_self _ hp⟩
        generalize rd b (Int.tmod p b.length) = c1 at *
        generalize rd b (Int.tmod (p * 7 + 3) b.length) = c2 at *
        generalize Int.tdiv p b.length = c3 at *
        rw [wrap64_id (n := c1) (by omega) (by omega), wrap64_id (n := c2) (by omega) (by omega), wrap64_id (n := c3) (by omega) (by omega), wrap64_id (n := c1 * 131) (by omega) (by omega), wrap64_id (n := c2 * 1117) (by omega) (by omega),
          wrap64_id (n := c1 * 131 + c2 * 1117) (by omega) (by omega), wrap64_id (n := p * 29) (by omega) (by omega), wrap64_id (n := c1 * 131 + c2 * 1117 + p * 29) (by omega) (by omega), wrap64_id (n := c3 * 53) (by omega) (by omega),
          wrap64_id (n := c1 * 131 + c2 * 1117 + p * 29 + c3 * 53) (by omega) (by omega)]
        refine ht _ (xor64 (by omega) (by omega) ?_ ?_)
        · rw [Int.tdiv_eq_ediv_of_nonneg (by omega), wrap64_id (by omega) (by omega)]; omega
        · rw [Int.tdiv_eq_ediv_of_nonneg (by omega), wrap64_id (by omega) (by omega)]; omega

theorem power_loop (n : Int) (hn : n ≤ 61) (d : Nat) : ∀ i : Int, 0 ≤ i → i ≤ n → n - i = d → W (fun k => spec_l1Power.l0 k n (2 ^ i.toNat) i) (· = 2 ^ n.toNat) := by
  induction d with
  | zero =>
    intro i h0 h1 hd
    refine W.step (fun k => by simp only [spec_l1Power.l0]; rfl) ?_
    exact W.neg (by omega) (W.ret (by rw [show i = n by omega]))
  | succ d ih =>
    intro i h0 h1 hd
    refine W.step (fun k => by simp only [spec_l1Power.l0]; rfl) ?_
    refine W.pos (by omega) ?_
    have hp : (2 : Int) ^ i.toNat ≤ 2 ^ 61 := pow_mono (by omega)
    have hq := pow_pos' i.toNat
    have h := ih (i + 1) (by omega) (by omega) (by omega)
    rw [show (i + 1).toNat = i.toNat + 1 by omega, Int.pow_succ, Int.mul_comm] at h
    rw [wrap64_id (n := i + 1) (by omega) (by omega), wrap64_id (n := 2 * 2 ^ i.toNat) (by omega) (by omega)]
    exact h
theorem power_ok (n : Int) (h0 : 0 ≤ n) (hn : n ≤ 61) : W (fun k => spec_l1Power.f k n) (· = 2 ^ n.toNat) := by
  unfold spec_l1Power.f
  exact power_loop n hn n.toNat 0 (by omega) h0 (by omega)

theorem sNumWrap (a : Int) (h0 : -9223372036854775808 ≤ a) (h1 : a ≤ 9223372036854775807) : spec_NumWrap.f a = some (wrap32 a) := by
  simp only [spec_NumWrap.f, spec_l1Mod.f]
  have e := tmod_up (n := a) (m := 4294967296) (by omega)
  have b := tmod_bounds (n := a) (m := 4294967296) (by omega)
  rw [if_neg (by omega)]
  by_cases hn : a.tmod 4294967296 < 0
  · rw [if_pos hn] at e ⊢
    rw [wrap64_id (by omega) (by omega), e]
    simp only [Option.bind_some]
    by_cases hm : a % 4294967296 > 2147483647
    · rw [if_pos hm]
      congr 1; unfold wrap64 wrap32; omega
    · rw [if_neg hm]
      congr 1; unfold wrap32; omega
  · rw [if_neg hn] at e ⊢
    rw [e]
    simp only [Option.bind_some]
    by_cases hm : a % 4294967296 > 2147483647
    · rw [if_pos hm]
      congr 1; unfold wrap64 wrap32; omega
    · rw [if_neg hm]
      congr 1; unfold wrap32; omega
theorem wrap32_ok (a : Int) : -2147483648 ≤ wrap32 a ∧ wrap32 a ≤ 2147483647 := by unfold wrap32; omega
theorem wrap64_ok (a : Int) : -9223372036854775808 ≤ wrap64 a ∧ wrap64 a ≤ 9223372036854775807 := by unfold wrap64; omega

def Num (p m : Int) (r : Int × Int) : Prop := (-2147483648 ≤ r.1 ∧ r.1 ≤ 2147483647) ∧ p ≤ r.2 ∧ r.2 ≤ p + m
theorem num_loop {b : List Int} (hb : ∀ x ∈ b, 0 ≤ x ∧ x ≤ 255) (hl : b.length ≤ 2000) (d : Nat) : ∀ (v i p : Int), 0 ≤ i → i ≤ 4 → 4 - i = d → 0 ≤ p → p + d ≤ 999000 → W (fun k => spec_l1Rd_num.l0 k v i b p) (Num p d) := by
  induction d with
  | zero =>
    intro v i p h0 h1 hd hp hq
    refine W.step (fun k => by simp only [spec_l1Rd_num.l0]; rfl) ?_
    refine W.neg (by omega) ?_
    by_cases hv : -9223372036854775808 ≤ v ∧ v ≤ 9223372036854775807
    · refine W.bind (W.const (sNumWrap v hv.1 hv.2) rfl) ?_
      rintro _ rfl
      exact W.ret ⟨wrap32_ok v, by simp only; omega, by simp only; omega⟩
    · have he : spec_NumWrap.f v = spec_NumWrap.f v := rfl
      obtain ⟨r, hr, ho⟩ : ∃ r, spec_NumWrap.f v = some r ∧ (-2147483648 ≤ r ∧ r ≤ 2147483647) := by
        simp only [spec_NumWrap.f, spec_l1Mod.f]
        have e := tmod_up (n := v) (m := 4294967296) (by omega)
        have b := tmod_bounds (n := v) (m := 4294967296) (by omega)
        rw [if_neg (by omega)]
        by_cases hn : v.tmod 4294967296 < 0
        · rw [if_pos hn] at e ⊢
          rw [wrap64_id (by omega) (by omega), e]
          simp only [Option.bind_some]
          by_cases hm : v % 4294967296 > 2147483647
          · rw [if_pos hm]; exact ⟨_, rfl, by rw [wrap64_id (by omega) (by omega)]; omega⟩
          · rw [if_neg hm]; exact ⟨_, rfl, by omega⟩
        · rw [if_neg hn] at e ⊢
          rw [e]
          simp only [Option.bind_some]
          by_cases hm : v % 4294967296 > 2147483647
          · rw [if_pos hm]; exact ⟨_, rfl, by rw [wrap64_id (by omega) (by omega)]; omega⟩
          · rw [if_neg hm]; exact ⟨_, rfl, by omega⟩
      refine W.bind (W.const hr rfl) ?_
      rintro _ rfl
      exact W.ret ⟨ho, by simp only; omega, by simp only; omega⟩
  | succ d ih =>
    intro v i p h0 h1 hd hp hq
    refine W.step (fun k => by simp only [spec_l1Rd_num.l0]; rfl) ?_
    refine W.pos (by omega) ?_
    refine W.bind (pick_ok hb hl p 256 hp (by omega)) ?_
    rintro ⟨c, q⟩ ⟨rfl, _⟩
    rw [wrap64_id (n := i + 1) (by omega) (by omega)]
    refine (ih _ (i + 1) (p + 1) (by omega) (by omega) (by omega) (by omega) (by omega)).mono ?_
    rintro r ⟨h1, h2, h3⟩
    exact ⟨h1, by omega, by omega⟩
theorem num_ok {b : List Int} (hb : ∀ x ∈ b, 0 ≤ x ∧ x ≤ 255) (hl : b.length ≤ 2000) (p : Int) (hp : 0 ≤ p) (hq : p ≤ 900000) : W (fun k => spec_l1Rd_num.f k b p) (Num p 6) := by
  unfold spec_l1Rd_num.f
  refine W.bind (pick_ok hb hl p 10 hp (by omega)) ?_
  rintro ⟨c, q⟩ ⟨rfl, _⟩
  simp only
  refine W.ite (fun _ => ?_) (fun _ => W.ite (fun _ => ?_) (fun _ => W.ite (fun _ => ?_) (fun _ => W.ite (fun _ => ?_) (fun _ => W.ite (fun _ => ?_) (fun _ => ?_)))))
  · refine W.bind (pick_ok hb hl (p + 1) 21 (by omega) (by omega)) ?_
    rintro ⟨c, q⟩ ⟨rfl, h⟩
    have h := h (by omega)
    simp only at h
    exact W.ret ⟨by simp only; rw [wrap64_id (by omega) (by omega)]; omega, by simp only; omega, by simp only; omega⟩
  · refine W.bind (pick_ok hb hl (p + 1) 3 (by omega) (by omega)) ?_
    rintro ⟨c, q⟩ ⟨rfl, h⟩
    have h := h (by omega)
    simp only at h
    exact W.ret ⟨by simp only; rw [wrap64_id (by omega) (by omega)]; omega, by simp only; omega, by simp only; omega⟩
  · refine W.bind (pick_ok hb hl (p + 1) 3 (by omega) (by omega)) ?_
    rintro ⟨c, q⟩ ⟨rfl, h⟩
    have h := h (by omega)
    simp only at h
    exact W.ret ⟨by simp only; rw [wrap64_id (by omega) (by omega)]; omega, by simp only; omega, by simp only; omega⟩
  · refine W.bind (pick_ok hb hl (p + 1) 31 (by omega) (by omega)) ?_
    rintro ⟨c, q⟩ ⟨rfl, h⟩
    have h := h (by omega)
    simp only at h
    refine W.bind (power_ok c (by omega) (by omega)) ?_
    rintro _ rfl
    have hp1 : (2 : Int) ^ c.toNat ≤ 2 ^ 30 := pow_mono (by omega)
    have hp2 := pow_pos' c.toNat
    refine W.bind (pick_ok hb hl (p + 1 + 1) 3 (by omega) (by omega)) ?_
    rintro ⟨c2, q⟩ ⟨rfl, h⟩
    have h := h (by omega)
    simp only at h
    refine W.ret ⟨?_, by simp only; omega, by simp only; omega⟩
    simp only
    rw [wrap64_id (n := 2 ^ c.toNat + c2) (by omega) (by omega), wrap64_id (by omega) (by omega)]; omega
  · refine W.bind (pick_ok hb hl (p + 1) 31 (by omega) (by omega)) ?_
    rintro ⟨c, q⟩ ⟨rfl, h⟩
    have h := h (by omega)
    simp only at h
    refine W.bind (power_ok c (by omega) (by omega)) ?_
    rintro _ rfl
    have hp1 : (2 : Int) ^ c.toNat ≤ 2 ^ 30 := pow_mono (by omega)
    have hp2 := pow_pos' c.toNat
    refine W.bind (pick_ok hb hl (p + 1 + 1) 3 (by omega) (by omega)) ?_
    rintro ⟨c2, q⟩ ⟨rfl, h⟩
    have h := h (by omega)
    simp only at h
    refine W.ret ⟨?_, by simp only; omega, by simp only; omega⟩
    simp only
    rw [wrap64_id (n := -2 ^ c.toNat) (by omega) (by omega), wrap64_id (n := -2 ^ c.toNat + c2) (by omega) (by omega), wrap64_id (by omega) (by omega)]; omega
  · refine (num_loop hb hl 4 0 0 (p + 1) (by omega) (by omega) (by omega) (by omega) (by omega)).mono ?_
    rintro r ⟨h1, h2, h3⟩
    exact ⟨h1, by omega, by omega⟩
theorem open_ok (code : List Int) (hb : ∀ x ∈ code, (Lit.int .u8 x).wf = true) : ∃ b, spec_l1Open.f code = some (b, 0) ∧ b.length ≤ 2000 ∧ ∀ x ∈ b, 0 ≤ x ∧ x ≤ 255 := by
  unfold spec_l1Open.f
  by_cases h : (code.length : Int) > 2000
  · rw [if_pos h, if_pos (by omega)]
    exact ⟨_, rfl, by simp; omega, fun x hx => u8_wf (hb x (List.mem_of_mem_take hx))⟩
  · rw [if_neg h]
    exact ⟨_, rfl, by omega, fun x hx => u8_wf (hb x hx)⟩

/-! ### what an operator makes of two numbers -/
def exactV (op a b : Int) : Int :=
  if op = 1 ∨ op = 11 then a + b else if op = 2 ∨ op = 12 then a - b else if op = 3 ∨ op = 13 then a * b else if op = 4 then a.tdiv b else if op = 5 then a.tmod b
  else if op = 6 then s32 (u32 a &&& u32 b) else if op = 7 then s32 (u32 a ||| u32 b) else if op = 8 then s32 (u32 a ^^^ u32 b) else if op = 9 then a * 2 ^ b.toNat else if op = 10 then a / 2 ^ b.toNat else 0
theorem mul_bound {a b : Int} (ha : -2147483648 ≤ a ∧ a ≤ 2147483647) (hb : -2147483648 ≤ b ∧ b ≤ 2147483647) : -4611686018427387904 ≤ a * b ∧ a * b ≤ 4611686018427387904 := by
  have h : (a * b).natAbs ≤ 2147483648 * 2147483648 := by
    rw [Int.natAbs_mul]; exact Nat.mul_le_mul (by omega) (by omega)
  omega
theorem mul_bound2 {a b : Int} (ha : -2147483648 ≤ a ∧ a ≤ 2147483647) (hb : 0 ≤ b ∧ b ≤ 2147483648) : -4611686018427387904 ≤ a * b ∧ a * b ≤ 4611686018427387904 := by
  have h : (a * b).natAbs ≤ 2147483648 * 2147483648 := by
    rw [Int.natAbs_mul]; exact Nat.mul_le_mul (by omega) (by omega)
  omega
theorem pow31 {b : Int} (h : b ≤ 31) : (2 : Int) ^ b.toNat ≤ 2147483648 := pow_mono (b := 31) (by omega)
theorem tdiv_bound {a b : Int} (ha : -2147483648 ≤ a ∧ a ≤ 2147483647) : -2147483648 ≤ a.tdiv b ∧ a.tdiv b ≤ 2147483648 := by
  have h : (a.tdiv b).natAbs ≤ a.natAbs := by rw [Int.natAbs_tdiv]; exact Nat.div_le_self _ _
  omega
theorem u64_small {i : Int} (h0 : 0 ≤ i) (h1 : i ≤ 1000) : IntKind.u64.wrap i = i := by
  simp [IntKind.wrap, IntKind.bits, IntKind.signed]; omega
theorem i64wrap {n : Int} (h0 : -9223372036854775808 ≤ n) (h1 : n ≤ 9223372036854775807) : IntKind.i64.wrap n = n := by
  simp [IntKind.wrap, IntKind.bits, IntKind.signed]; omega
theorem shl_id {x i : Int} (h0 : 0 ≤ i) (h1 : i ≤ 63) (hx : -9223372036854775808 ≤ x * 2 ^ i.toNat) (hy : x * 2 ^ i.toNat ≤ 9223372036854775807) : shl .i64 x i = x * 2 ^ i.toNat := by
  unfold shl
  rw [show min i.toNat IntKind.i64.bits = i.toNat by simp [IntKind.bits]; omega]
  exact i64wrap hx hy
theorem shr_id {x i : Int} (h0 : 0 ≤ i) (h1 : i ≤ 63) : shr .i64 x i = x / 2 ^ i.toNat := by
  unfold shr
  rw [show min i.toNat IntKind.i64.bits = i.toNat by simp [IntKind.bits]; omega]
/-- What the quotients, rests and shifts ask ahead. -/
def Fit (op b : Int) : Prop := (op = 4 ∨ op = 5 → b ≠ 0) ∧ (op = 9 ∨ op = 10 → 0 ≤ b ∧ b ≤ 31)
theorem ops {op : Int} (h : 1 ≤ op) (h1 : op ≤ 13) : op = 1 ∨ op = 2 ∨ op = 3 ∨ op = 4 ∨ op = 5 ∨ op = 6 ∨ op = 7 ∨ op = 8 ∨ op = 9 ∨ op = 10 ∨ op = 11 ∨ op = 12 ∨ op = 13 := by omega
theorem iExact {op a b : Int} (h : 1 ≤ op) (h1 : op ≤ 13) (ha : -2147483648 ≤ a ∧ a ≤ 2147483647) (hb : -2147483648 ≤ b ∧ b ≤ 2147483647) (hf : Fit op b) : W (fun k => impl_numExact.f k op a b) (· = exactV op a b) := by
  refine ⟨_, rfl, 3, fun k hk => ?_⟩
  obtain ⟨m, rfl⟩ : ∃ m, k = m + 3 := ⟨k - 3, by omega⟩
  obtain ⟨f1, f2⟩ := hf
  rcases ops h h1 with rfl | rfl | rfl | rfl | rfl | rfl | rfl | rfl | rfl | rfl | rfl | rfl | rfl
  · simp [impl_numExact.f, impl_numExact.j0, exactV]; exact wrap64_id (by omega) (by omega)
  · simp [impl_numExact.f, impl_numExact.j0, impl_numExact.j1, exactV]; exact wrap64_id (by omega) (by omega)
  · have := mul_bound ha hb; simp [impl_numExact.f, impl_numExact.j0, impl_numExact.j1, impl_numExact.j2, exactV]; exact wrap64_id (by omega) (by omega)
  · have := tdiv_bound (b := b) ha; have := f1 (by omega); simp [impl_numExact.f, impl_numExact.j0, impl_numExact.j1, impl_numExact.j2, exactV, this]; exact wrap64_id (by omega) (by omega)
  · have := f1 (by omega); simp [impl_numExact.f, impl_numExact.j0, impl_numExact.j1, impl_numExact.j2, exactV, this]
  · simp [impl_numExact.f, impl_numExact.j0, impl_numExact.j1, impl_numExact.j2, exactV]; exact bits_and ha.1 ha.2 hb.1 hb.2
  · simp [impl_numExact.f, impl_numExact.j0, impl_numExact.j1, impl_numExact.j2, exactV]; exact bits_or ha.1 ha.2 hb.1 hb.2
  · simp [impl_numExact.f, impl_numExact.j0, impl_numExact.j1, impl_numExact.j2, exactV]; exact bits_xor ha.1 ha.2 hb.1 hb.2
  · have hb' := f2 (by omega)
    have hw := u64_small hb'.1 (by omega)
    have hp := mul_bound2 ha ⟨Int.le_of_lt (pow_pos' b.toNat), pow31 hb'.2⟩
    simp [impl_numExact.f, impl_numExact.j0, impl_numExact.j1, impl_numExact.j2, exactV, hw, hb'.1]; exact shl_id hb'.1 (by omega) (by omega) (by omega)
  · have hb' := f2 (by omega)
    have hw := u64_small hb'.1 (by omega)
    simp [impl_numExact.f, impl_numExact.j0, impl_numExact.j1, impl_numExact.j2, exactV, hw, hb'.1]; exact shr_id hb'.1 (by omega)
  · simp [impl_numExact.f, impl_numExact.j0, exactV]; exact wrap64_id (by omega) (by omega)
  · simp [impl_numExact.f, impl_numExact.j0, impl_numExact.j1, exactV]; exact wrap64_id (by omega) (by omega)
  · have := mul_bound ha hb; simp [impl_numExact.f, impl_numExact.j0, impl_numExact.j1, impl_numExact.j2, exactV]; exact wrap64_id (by omega) (by omega)

theorem sMod {a : Int} (m : Int) (h0 : 0 < m) (h1 : m ≤ 4294967296) : spec_l1Mod.f a m = some (a % m) := by
  simp only [spec_l1Mod.f]
  have e := tmod_up (n := a) (m := m) h0
  have b := tmod_bounds (n := a) (m := m) h0
  rw [if_neg (by omega)]
  by_cases hn : a.tmod m < 0
  · rw [if_pos hn] at e ⊢
    rw [wrap64_id (by omega) (by omega), e]
  · rw [if_neg hn] at e ⊢
    rw [e]
theorem u32_cast (a : Int) : a % 4294967296 = (u32 a : Int) := by unfold u32; omega
theorem bit_cast (A n : Nat) : Int.tmod ((A : Int) / 2 ^ n) 2 = ((A / 2 ^ n % 2 : Nat) : Int) := by
  have : (A : Int) / 2 ^ n = ((A / 2 ^ n : Nat) : Int) := by norm_cast
  rw [this, Int.tmod_eq_emod_of_nonneg (Int.natCast_nonneg _)]; norm_cast
theorem bits_step {X n z : Nat} (hX : X < 4294967296) (hn : n < 32) (hz : X / 2 ^ n % 2 = z) : wrap64 (((X % 2 ^ n : Nat) : Int) + shl .i64 (z : Int) (n : Int)) = ((X % 2 ^ (n + 1) : Nat) : Int) := by
  have hz2 : z < 2 := by omega
  have h1 : X % 2 ^ (n + 1) ≤ X := Nat.mod_le _ _
  have e := mod_succ X n
  rw [hz] at e
  have hp : (2 : Nat) ^ n ≤ 2 ^ 31 := Nat.pow_le_pow_right (by omega) (by omega)
  have hs : (z : Int) * 2 ^ ((n : Int)).toNat = ((2 ^ n * z : Nat) : Int) := by
    rw [Int.toNat_natCast, Nat.mul_comm]; norm_cast
  have hb : 2 ^ n * z ≤ 2 ^ 31 * 1 := Nat.mul_le_mul hp (by omega)
  rw [shl_id (by omega) (by omega) (by rw [hs]; omega) (by rw [hs]; omega), hs, wrap64_id (by omega) (by omega)]
  omega
theorem sNumWrap_s32 {X : Nat} (h : X < 4294967296) : spec_NumWrap.f (X : Int) = some (s32 X) := by
  rw [sNumWrap _ (by omega) (by omega)]
  congr 1; unfold wrap32 s32; split <;> omega
theorem bits_loop {op a b : Int} {X : Nat} (hop : op = 6 ∨ op = 7 ∨ op = 8)
    (hX : X = if op = 6 then u32 a &&& u32 b else if op = 7 then u32 a ||| u32 b else u32 a ^^^ u32 b) (d : Nat) : ∀ n : Nat, n ≤ 32 → 32 - n = d → W (fun k => spec_l1Bits.l0 k op a b ((X % 2 ^ n : Nat) : Int) (n : Int)) (· = s32 X) := by
  have hA := u32_lt a
  have hB := u32_lt b
  have hXl : X < 4294967296 := by
    rw [hX]; split
    · exact and_lt hA
    · split
      · exact or_lt hA hB
      · exact xor_lt hA hB
  induction d with
  | zero =>
    intro n hn hd
    obtain rfl : n = 32 := by omega
    refine W.step (fun k => by simp only [spec_l1Bits.l0]; rfl) ?_
    refine W.neg (by omega) ?_
    rw [Nat.mod_eq_of_lt (show X < 2 ^ 32 from hXl)]
    refine W.bind (W.const (sNumWrap_s32 hXl) rfl) ?_
    rintro _ rfl
    exact W.ret rfl
  | succ d ih =>
    intro n hn hd
    have ih' := ih (n + 1) (by omega) (by omega)
    have ei : wrap64 ((n : Int) + 1) = ((n + 1 : Nat) : Int) := by rw [wrap64_id (by omega) (by omega)]; omega
    have hu : IntKind.u64.wrap (n : Int) = (n : Int) := u64_small (by omega) (by omega)
    have hsr : ∀ A : Nat, Int.tmod (shr .i64 (A : Int) (n : Int)) 2 = ((A / 2 ^ n % 2 : Nat) : Int) := fun A => by rw [shr_id (by omega) (by omega), Int.toNat_natCast]; exact bit_cast A n
    refine W.step (fun k => by simp only [spec_l1Bits.l0]; rfl) ?_
    refine W.pos (by omega) ?_
    refine W.bind (W.const (sMod (a := a) 4294967296 (by omega) (by omega)) rfl) ?_
    rintro _ rfl
    rw [hu, u32_cast a]
    refine W.pos (by omega) ?_
    refine W.bind (W.const (sMod (a := b) 4294967296 (by omega) (by omega)) rfl) ?_
    rintro _ rfl
    rw [u32_cast b, hsr, hsr, ei]
    have za := Nat.mod_two_eq_zero_or_one (u32 a / 2 ^ n); have zb := Nat.mod_two_eq_zero_or_one (u32 b / 2 ^ n)
    rcases hop with rfl | rfl | rfl
    · refine W.neg (by decide) (W.neg (by decide) ?_)
      have hz := bit_and (u32 a) (u32 b) n
      simp only [if_true] at hX
      rw [← hX] at hz
      rw [show wrap64 (((u32 a / 2 ^ n % 2 : Nat) : Int) * ((u32 b / 2 ^ n % 2 : Nat) : Int)) = (((u32 a / 2 ^ n % 2) * (u32 b / 2 ^ n % 2) : Nat) : Int) by
        rcases za with h | h <;> rcases zb with g | g <;> rw [h, g] <;> simp [wrap64], bits_step hXl (by omega) hz]
      exact ih'
    · refine W.pos rfl ?_
      have hz := bit_or (u32 a) (u32 b) n
      simp only [if_true, show ¬ (7 : Int) = 6 by decide, if_false] at hX
      rw [← hX] at hz
      rw [show wrap64 (wrap64 (((u32 a / 2 ^ n % 2 : Nat) : Int) + ((u32 b / 2 ^ n % 2 : Nat) : Int)) - wrap64 (((u32 a / 2 ^ n % 2 : Nat) : Int) * ((u32 b / 2 ^ n % 2 : Nat) : Int))) = (((u32 a / 2 ^ n % 2) + (u32 b / 2 ^ n % 2) - (u32 a / 2 ^ n % 2) * (u32 b / 2 ^ n % 2) : Nat) : Int) by
        rcases za with h | h <;> rcases zb with g | g <;> rw [h, g] <;> simp [wrap64], bits_step hXl (by omega) hz]
      exact ih'
    · refine W.neg (by decide) (W.pos rfl ?_)
      have hz := bit_xor (u32 a) (u32 b) n
      simp only [show ¬ (8 : Int) = 6 by decide, show ¬ (8 : Int) = 7 by decide, if_false] at hX
      rw [← hX] at hz
      rw [show Int.tmod (wrap64 (((u32 a / 2 ^ n % 2 : Nat) : Int) + ((u32 b / 2 ^ n % 2 : Nat) : Int))) 2 = ((((u32 a / 2 ^ n % 2) + (u32 b / 2 ^ n % 2)) % 2 : Nat) : Int) by
        rcases za with h | h <;> rcases zb with g | g <;> rw [h, g] <;> simp [wrap64], bits_step hXl (by omega) hz]
      exact ih'
theorem sBits {op a b : Int} (hop : op = 6 ∨ op = 7 ∨ op = 8) : W (fun k => spec_l1Bits.f k op a b) (· = exactV op a b) := by
  unfold spec_l1Bits.f
  have h := bits_loop (op := op) (a := a) (b := b) hop rfl 32 0 (by omega) (by omega)
  rw [Nat.pow_zero, Nat.mod_one] at h
  refine W.mono h ?_
  rintro _ rfl
  rcases hop with rfl | rfl | rfl <;> simp [exactV]
theorem ediv_bound {a p : Int} (ha : -2147483648 ≤ a ∧ a ≤ 2147483647) (hp : 0 < p) : -2147483648 ≤ a / p ∧ a / p ≤ 2147483647 := by
  constructor
  · rw [Int.le_ediv_iff_mul_le hp]
    have := Int.mul_le_mul_of_nonpos_left (a := -2147483648) (by omega) (show (1 : Int) ≤ p by omega)
    omega
  · rcases Int.le_total 0 a with h | h
    · have := Int.ediv_le_self p h; omega
    · have := Int.ediv_le_ediv hp h; simp at this; omega
theorem floor_eq {a p : Int} (hp : 0 < p) : (a - a % p).tdiv p = a / p := by
  have := Int.mul_ediv_add_emod a p
  rw [show a - a % p = p * (a / p) by omega, Int.mul_tdiv_cancel_left _ (by omega)]
theorem sExact {op a b : Int} (h : 1 ≤ op) (h1 : op ≤ 13) (ha : -2147483648 ≤ a ∧ a ≤ 2147483647) (hb : -2147483648 ≤ b ∧ b ≤ 2147483647) (hf : Fit op b) : W (fun k => spec_l1Exact.f k op a b) (· = exactV op a b) := by
  obtain ⟨f1, f2⟩ := hf
  have st : ∀ {g : Nat → Option Int} (r : Int) (m : Nat), (∀ k, g (k + m) = some r) → W g (· = r) := fun r m hg => ⟨r, rfl, m, fun k hk => by obtain ⟨q, rfl⟩ : ∃ q, k = q + m := ⟨k - m, by omega⟩; exact hg q⟩
  rcases ops h h1 with rfl | rfl | rfl | rfl | rfl | rfl | rfl | rfl | rfl | rfl | rfl | rfl | rfl
  · refine st _ 3 fun k => ?_; simp [spec_l1Exact.f, spec_l1Exact.j0, exactV]; exact wrap64_id (by omega) (by omega)
  · refine st _ 3 fun k => ?_; simp [spec_l1Exact.f, spec_l1Exact.j0, spec_l1Exact.j1, exactV]; exact wrap64_id (by omega) (by omega)
  · have := mul_bound ha hb; refine st _ 3 fun k => ?_; simp [spec_l1Exact.f, spec_l1Exact.j0, spec_l1Exact.j1, spec_l1Exact.j2, exactV]; exact wrap64_id (by omega) (by omega)
  · have := tdiv_bound (b := b) ha; have := f1 (by omega); refine st _ 3 fun k => ?_; simp [spec_l1Exact.f, spec_l1Exact.j0, spec_l1Exact.j1, spec_l1Exact.j2, exactV, this]; exact wrap64_id (by omega) (by omega)
  · have := f1 (by omega); refine st _ 3 fun k => ?_; simp [spec_l1Exact.f, spec_l1Exact.j0, spec_l1Exact.j1, spec_l1Exact.j2, exactV, this]
  · refine W.steps 3 (fun k => by simp only [spec_l1Exact.f, spec_l1Exact.j0, spec_l1Exact.j1, spec_l1Exact.j2]; rfl) ?_
    refine W.bind (sBits (by omega)) ?_
    rintro _ rfl
    exact W.ret rfl
  · refine W.steps 3 (fun k => by simp only [spec_l1Exact.f, spec_l1Exact.j0, spec_l1Exact.j1, spec_l1Exact.j2]; rfl) ?_
    refine W.bind (sBits (by omega)) ?_
    rintro _ rfl
    exact W.ret rfl
  · refine W.steps 3 (fun k => by simp only [spec_l1Exact.f, spec_l1Exact.j0, spec_l1Exact.j1, spec_l1Exact.j2]; rfl) ?_
    refine W.bind (sBits (by omega)) ?_
    rintro _ rfl
    exact W.ret rfl
  · have hb' := f2 (by omega)
    have hp := mul_bound2 ha ⟨Int.le_of_lt (pow_pos' b.toNat), pow31 hb'.2⟩
    refine W.steps 3 (fun k => by simp only [spec_l1Exact.f, spec_l1Exact.j0, spec_l1Exact.j1, spec_l1Exact.j2]; rfl) ?_
    refine W.bind (power_ok b hb'.1 (by omega)) ?_
    rintro _ rfl
    exact W.ret (by rw [wrap64_id (by omega) (by omega)]; simp [exactV])
  · have hb' := f2 (by omega)
    have hq := pow_pos' b.toNat
    have hp := pow31 hb'.2
    have he := ediv_bound (p := 2 ^ b.toNat) ha hq
    have hm0 := Int.emod_nonneg a (show (2 : Int) ^ b.toNat ≠ 0 by omega)
    have hm1 := Int.emod_lt_of_pos a hq
    refine W.steps 3 (fun k => by simp only [spec_l1Exact.f, spec_l1Exact.j0, spec_l1Exact.j1, spec_l1Exact.j2]; rfl) ?_
    refine W.bind (power_ok b hb'.1 (by omega)) ?_
    rintro _ rfl
    refine W.bind (W.const (r := a / 2 ^ b.toNat) (by
      simp only [spec_l1Floor.f]
      rw [sMod _ hq (by omega)]
      simp only [Option.bind_some]
      rw [if_neg (by omega), wrap64_id (n := a - a % 2 ^ b.toNat) (by omega) (by omega), floor_eq hq, wrap64_id (by omega) (by omega)]) rfl) ?_
    rintro _ rfl
    exact W.ret (by simp [exactV])
  · refine st _ 3 fun k => ?_; simp [spec_l1Exact.f, spec_l1Exact.j0, exactV]; exact wrap64_id (by omega) (by omega)
  · refine st _ 3 fun k => ?_; simp [spec_l1Exact.f, spec_l1Exact.j0, spec_l1Exact.j1, exactV]; exact wrap64_id (by omega) (by omega)
  · have := mul_bound ha hb; refine st _ 3 fun k => ?_; simp [spec_l1Exact.f, spec_l1Exact.j0, spec_l1Exact.j1, spec_l1Exact.j2, exactV]; exact wrap64_id (by omega) (by omega)

theorem sNumOk (v : Int) : spec_NumOk.f v = some (decide (-2147483648 ≤ v ∧ v ≤ 2147483647)) := by
  simp only [spec_NumOk.f, spec_l1In.f]
  by_cases h : v ≥ -2147483648 <;> simp [h]
theorem iNumOk (v : Int) : impl_NumOk.f v = some (decide (-2147483648 ≤ v ∧ v ≤ 2147483647)) := by
  simp only [impl_NumOk.f]
  by_cases h : v ≥ -2147483648 <;> simp [h]
theorem sIn (v a b : Int) : spec_l1In.f v a b = some (decide (a ≤ v ∧ v ≤ b)) := by
  simp only [spec_l1In.f]
  by_cases h : v ≥ a <;> simp [h]
theorem iNumOp (v : Int) : impl_numOp.f v = some (decide (1 ≤ v ∧ v ≤ 13)) := by
  simp only [impl_numOp.f]
  by_cases h : v ≥ 1 <;> simp [h]
theorem iNumWrap (v : Int) : impl_NumWrap.f v = some (wrap32 v) := by
  simp only [impl_NumWrap.f]
  have := wrap32_ok v
  rw [wrap64_id (by omega) (by omega)]
def numDo (op a b : Int) : Int × Int :=
  if ¬ (1 ≤ op ∧ op ≤ 13) ∨ ¬ (-2147483648 ≤ a ∧ a ≤ 2147483647) ∨ ¬ (-2147483648 ≤ b ∧ b ≤ 2147483647) then (0, 0)
  else if (op = 4 ∨ op = 5) ∧ b = 0 then (0, 2)
  else if (op = 9 ∨ op = 10) ∧ ¬ (0 ≤ b ∧ b ≤ 31) then (0, 3)
  else if op ≥ 11 then (wrap32 (exactV op a b), 0)
  else if -2147483648 ≤ exactV op a b ∧ exactV op a b ≤ 2147483647 then (exactV op a b, 0) else (0, 1)
theorem exact_i64 {op a b : Int} (ha : -2147483648 ≤ a ∧ a ≤ 2147483647) (hb : -2147483648 ≤ b ∧ b ≤ 2147483647) (hf : Fit op b) : -9223372036854775808 ≤ exactV op a b ∧ exactV op a b ≤ 9223372036854775807 := by
  unfold exactV
  have h1 := mul_bound ha hb
  have h2 := tdiv_bound (b := b) ha
  have h3 : -2147483648 ≤ a.tmod b ∧ a.tmod b ≤ 2147483647 := by
    have h : (a.tmod b).natAbs ≤ a.natAbs := by rw [Int.natAbs_tmod]; exact Nat.mod_le _ _
    rcases Int.le_total 0 a with g | g
    · have := Int.tmod_nonneg b g
      omega
    · have := Int.tmod_nonneg b (show 0 ≤ -a by omega)
      rw [Int.neg_tmod] at this
      omega
  have h4 := s32_ok (and_lt (A := u32 a) (B := u32 b) (u32_lt a)); have h5 := s32_ok (or_lt (u32_lt a) (u32_lt b)); have h6 := s32_ok (xor_lt (u32_lt a) (u32_lt b))
  split
  · omega
  split
  · omega
  split
  · omega
  split
  · omega
  split
  · omega
  split
  · omega
  split
  · omega
  split
  · omega
  split
  · rename_i h
    have := hf.2 (by omega)
    have := mul_bound2 ha ⟨Int.le_of_lt (pow_pos' b.toNat), pow31 this.2⟩
    omega
  split
  · have := ediv_bound (p := 2 ^ b.toNat) ha (pow_pos' _)
    omega
  · omega
theorem numDo_main {op a b : Int} (h : 1 ≤ op ∧ op ≤ 13) (ha : -2147483648 ≤ a ∧ a ≤ 2147483647) (hb : -2147483648 ≤ b ∧ b ≤ 2147483647) (hf : Fit op b) : numDo op a b = if op ≥ 11 then (wrap32 (exactV op a b), 0) else if -2147483648 ≤ exactV op a b ∧ exactV op a b ≤ 2147483647 then (exactV op a b, 0) else (0, 1) := by
  unfold numDo
  rw [if_neg (by omega), if_neg (fun hc => hf.1 hc.1 hc.2), if_neg (fun hc => hc.2 (hf.2 hc.1))]
theorem iNumDo_tail {op a b : Int} (h : 1 ≤ op ∧ op ≤ 13) (ha : -2147483648 ≤ a ∧ a ≤ 2147483647) (hb : -2147483648 ≤ b ∧ b ≤ 2147483647) (hf : Fit op b) : W (fun k => impl_NumDo.j3 k op a b) (· = numDo op a b) := by
  have hd : numDo op a b = if op ≥ 11 then (wrap32 (exactV op a b), 0) else if -2147483648 ≤ exactV op a b ∧ exactV op a b ≤ 2147483647 then (exactV op a b, 0) else (0, 1) := by
    unfold numDo
    rw [if_neg (by omega), if_neg (fun hc => hf.1 hc.1 hc.2), if_neg (fun hc => hc.2 (hf.2 hc.1))]
  rw [hd]
  refine W.step (fun k => by simp only [impl_NumDo.j3]; rfl) ?_
  refine W.bind (iExact h.1 h.2 ha hb hf) ?_
  rintro _ rfl
  have hw : ∀ c : Int, op ≥ 11 → W (fun k => impl_NumDo.j4 k (exactV op a b) true) (· = if op ≥ 11 then (wrap32 (exactV op a b), 0) else if -2147483648 ≤ exactV op a b ∧ exactV op a b ≤ 2147483647 then (exactV op a b, 0) else (0, 1)) := by
    intro c hop
    refine W.step (fun k => by simp only [impl_NumDo.j4, iNumWrap, Option.bind_some]; rfl) ?_
    exact W.pos (by trivial) (W.ret (by rw [if_pos hop]))
  by_cases h1 : op = 11
  · refine W.pos h1 ?_
    rw [show (op == 11) = true by simpa using h1]; exact hw 0 (by omega)
  refine W.neg h1 ?_
  by_cases h2 : op = 12
  · refine W.pos h2 ?_
    rw [show (op == 12) = true by simpa using h2]; exact hw 0 (by omega)
  refine W.neg h2 ?_
  by_cases h3 : op = 13
  · rw [show (op == 13) = true by simpa using h3]; exact hw 0 (by omega)
  rw [show (op == 13) = false by simpa using h3]
  refine W.step (fun k => by simp only [impl_NumDo.j4, iNumOk, Option.bind_some]; rfl) ?_
  refine W.neg (by decide) ?_
  rw [if_neg (show ¬ op ≥ 11 by omega)]
  by_cases ho : -2147483648 ≤ exactV op a b ∧ exactV op a b ≤ 2147483647
  · exact W.pos (by simpa using ho) (W.ret (by rw [if_pos ho]))
  · exact W.neg (by simpa using ho) (W.ret (by rw [if_neg ho]))
theorem iNumDo (op a b : Int) : W (fun k => impl_NumDo.f k op a b) (· = numDo op a b) := by
  have bad : ∀ hc : (¬ (1 ≤ op ∧ op ≤ 13) ∨ ¬ (-2147483648 ≤ a ∧ a ≤ 2147483647) ∨ ¬ (-2147483648 ≤ b ∧ b ≤ 2147483647)), W (fun k => impl_NumDo.j0 k op a b true) (· = numDo op a b) := by
    intro hc
    refine W.step (fun k => by simp only [impl_NumDo.j0]; rfl) ?_
    exact W.pos (by trivial) (W.ret (by unfold numDo; rw [if_pos hc]))
  unfold impl_NumDo.f
  simp only [iNumOp, iNumOk, Option.bind_some]
  by_cases h : 1 ≤ op ∧ op ≤ 13
  · refine W.pos (by simpa using h) ?_
    by_cases ha : -2147483648 ≤ a ∧ a ≤ 2147483647
    · refine W.pos (by simpa using ha) ?_
      by_cases hb : -2147483648 ≤ b ∧ b ≤ 2147483647
      · rw [show (!decide (-2147483648 ≤ b ∧ b ≤ 2147483647)) = false by rw [decide_eq_true hb]; rfl]
        refine W.step (fun k => by simp only [impl_NumDo.j0]; rfl) ?_
        refine W.neg (by decide) ?_
        have z1 : (op = 4 ∨ op = 5) → W (fun k => impl_NumDo.j1 k op a b op true) (· = numDo op a b) := by
          intro ho
          refine W.step (fun k => by simp only [impl_NumDo.j1]; rfl) ?_
          refine W.pos (by trivial) ?_
          by_cases hz : b = 0
          · exact W.pos hz (W.ret (by unfold numDo; rw [if_neg (by omega), if_pos ⟨ho, hz⟩]))
          · exact W.neg hz (iNumDo_tail h ha hb ⟨fun _ => hz, fun hc => by omega⟩)
        have z2 : (op = 9 ∨ op = 10) → W (fun k => impl_NumDo.j2 k op a b true) (· = numDo op a b) := by
          intro ho
          refine W.step (fun k => by simp only [impl_NumDo.j2]; rfl) ?_
          refine W.pos (by trivial) ?_
          by_cases h1 : b < 0
          · exact W.pos h1 (W.ret (by unfold numDo; rw [if_neg (by omega), if_neg (by omega), if_pos ⟨ho, by omega⟩]))
          refine W.neg h1 ?_
          by_cases h2 : b > 31
          · exact W.pos h2 (W.ret (by unfold numDo; rw [if_neg (by omega), if_neg (by omega), if_pos ⟨ho, by omega⟩]))
          · exact W.neg h2 (iNumDo_tail h ha hb ⟨fun hc => by omega, fun _ => by omega⟩)
        have z3 : ¬ (op = 4 ∨ op = 5) → W (fun k => impl_NumDo.j1 k op a b op false) (· = numDo op a b) := by
          intro ho
          refine W.step (fun k => by simp only [impl_NumDo.j1]; rfl) ?_
          refine W.neg (by decide) ?_
          by_cases h9 : op = 9
          · refine W.pos h9 ?_
            rw [show (op == 9) = true by simpa using h9]; exact z2 (.inl h9)
          refine W.neg h9 ?_
          by_cases h10 : op = 10
          · rw [show (op == 10) = true by simpa using h10]; exact z2 (.inr h10)
          rw [show (op == 10) = false by simpa using h10]
          refine W.step (fun k => by simp only [impl_NumDo.j2]; rfl) ?_
          exact W.neg (by decide) (iNumDo_tail h ha hb ⟨fun hc => absurd hc ho, fun hc => by omega⟩)
        by_cases h4 : op = 4
        · refine W.pos h4 ?_
          rw [show (op == 4) = true by simpa using h4]; exact z1 (.inl h4)
        refine W.neg h4 ?_
        by_cases h5 : op = 5
        · rw [show (op == 5) = true by simpa using h5]; exact z1 (.inr h5)
        rw [show (op == 5) = false by simpa using h5]
        exact z3 (by omega)
      · rw [show (!decide (-2147483648 ≤ b ∧ b ≤ 2147483647)) = true by rw [decide_eq_false hb]; rfl]
        exact bad (by omega)
    · exact W.neg (by simpa using ha) (bad (by omega))
  · exact W.neg (by simpa using h) (bad (by omega))
theorem sNumDo (op a b : Int) : W (fun k => spec_NumDo.f k op a b) (· = numDo op a b) := by
  have bad : ∀ hc : (¬ (1 ≤ op ∧ op ≤ 13) ∨ ¬ (-2147483648 ≤ a ∧ a ≤ 2147483647) ∨ ¬ (-2147483648 ≤ b ∧ b ≤ 2147483647)), W (fun k => spec_NumDo.j0 k op a b true) (· = numDo op a b) := by
    intro hc
    refine W.step (fun k => by simp only [spec_NumDo.j0]; rfl) ?_
    exact W.pos (by trivial) (W.ret (by unfold numDo; rw [if_pos hc]))
  unfold spec_NumDo.f
  simp only [sIn, sNumOk, Option.bind_some]
  by_cases h : 1 ≤ op ∧ op ≤ 13
  · refine W.pos (by simpa using h) ?_
    by_cases ha : -2147483648 ≤ a ∧ a ≤ 2147483647
    · refine W.pos (by simpa using ha) ?_
      by_cases hb : -2147483648 ≤ b ∧ b ≤ 2147483647
      · rw [show (!decide (-2147483648 ≤ b ∧ b ≤ 2147483647)) = false by rw [decide_eq_true hb]; rfl]
        refine W.step (fun k => by simp only [spec_NumDo.j0]; rfl) ?_
        refine W.neg (by decide) ?_
        have z2 : ¬ ((op = 4 ∨ op = 5) ∧ b = 0) → ¬ ((op = 9 ∨ op = 10) ∧ ¬ (0 ≤ b ∧ b ≤ 31)) → W (fun k => spec_NumDo.j2 k op a b false) (· = numDo op a b) := by
          intro h1 h2
          have hf : Fit op b := ⟨fun hc hz => h1 ⟨hc, hz⟩, fun hc => by omega⟩
          have hi := exact_i64 (op := op) ha hb hf
          unfold numDo
          rw [if_neg (by omega), if_neg h1, if_neg h2]
          refine W.step (fun k => by simp only [spec_NumDo.j2, sNumOk, Option.bind_some]; rfl) ?_
          refine W.neg (by decide) ?_
          refine W.bind (sExact h.1 h.2 ha hb hf) ?_
          rintro _ rfl
          rw [sNumWrap _ hi.1 hi.2]
          simp only [Option.bind_some]
          by_cases h11 : op ≥ 11
          · exact W.pos h11 (W.ret (by rw [if_pos h11]))
          refine W.neg h11 ?_
          rw [if_neg h11]
          by_cases ho : -2147483648 ≤ exactV op a b ∧ exactV op a b ≤ 2147483647
          · exact W.pos (by simpa using ho) (W.ret (by rw [if_pos ho]))
          · exact W.neg (by simpa using ho) (W.ret (by rw [if_neg ho]))
        have z1 : ¬ ((op = 4 ∨ op = 5) ∧ b = 0) → W (fun k => spec_NumDo.j1 k op a b false) (· = numDo op a b) := by
          intro h1
          refine W.step (fun k => by simp only [spec_NumDo.j1, sIn, Option.bind_some]; rfl) ?_
          refine W.neg (by decide) ?_
          have z3 : (op = 9 ∨ op = 10) → W (fun k => spec_NumDo.j2 k op a b (!decide (0 ≤ b ∧ b ≤ 31))) (· = numDo op a b) := by
            intro ho
            by_cases hs : 0 ≤ b ∧ b ≤ 31
            · rw [show (!decide (0 ≤ b ∧ b ≤ 31)) = false by rw [decide_eq_true hs]; rfl]
              exact z2 h1 (by omega)
            · rw [show (!decide (0 ≤ b ∧ b ≤ 31)) = true by rw [decide_eq_false hs]; rfl]
              refine W.step (fun k => by simp only [spec_NumDo.j2]; rfl) ?_
              exact W.pos (by trivial) (W.ret (by unfold numDo; rw [if_neg (by omega), if_neg h1, if_pos ⟨ho, hs⟩]))
          by_cases h9 : op = 9
          · exact W.pos h9 (z3 (.inl h9))
          refine W.neg h9 ?_
          by_cases h10 : op = 10
          · exact W.pos h10 (z3 (.inr h10))
          exact W.neg h10 (z2 h1 (by omega))
        have z0 : (op = 4 ∨ op = 5) → W (fun k => spec_NumDo.j1 k op a b (b == 0)) (· = numDo op a b) := by
          intro ho
          by_cases hz : b = 0
          · rw [show (b == 0) = true by simpa using hz]
            refine W.step (fun k => by simp only [spec_NumDo.j1]; rfl) ?_
            exact W.pos (by trivial) (W.ret (by unfold numDo; rw [if_neg (by omega), if_pos ⟨ho, hz⟩]))
          · rw [show (b == 0) = false by simpa using hz]
            exact z1 (by omega)
        by_cases h4 : op = 4
        · exact W.pos h4 (z0 (.inl h4))
        refine W.neg h4 ?_
        by_cases h5 : op = 5
        · exact W.pos h5 (z0 (.inr h5))
        exact W.neg h5 (z1 (by omega))
      · rw [show (!decide (-2147483648 ≤ b ∧ b ≤ 2147483647)) = true by rw [decide_eq_false hb]; rfl]
        exact bad (by omega)
    · exact W.neg (by simpa using ha) (bad (by omega))
  · exact W.neg (by simpa using h) (bad (by omega))
theorem numDo_facts (op a b : Int) : (-2147483648 ≤ (numDo op a b).1 ∧ (numDo op a b).1 ≤ 2147483647) ∧ ((numDo op a b).2 = 0 ∨ (numDo op a b).1 = 0) ∧ (0 ≤ (numDo op a b).2 ∧ (numDo op a b).2 ≤ 3) ∧ (op ≥ 11 → (numDo op a b).2 = 0) := by
  unfold numDo
  have hw := wrap32_ok (exactV op a b)
  split
  · simp
  split
  · simp; omega
  split
  · simp; omega
  split
  · simp; omega
  split
  · rename_i h; simp [h]
  · simp; omega
theorem numDo_comm {op : Int} (a b : Int) (h : op = 1 ∨ op = 3 ∨ op = 8) : numDo op b a = numDo op a b := by
  have he : exactV op b a = exactV op a b := by
    rcases h with rfl | rfl | rfl
    · simp only [exactV]; simp; omega
    · simp only [exactV]; simp; exact Int.mul_comm ..
    · simp only [exactV]; simp; rw [Nat.xor_comm]
  by_cases h1 : ¬ (1 ≤ op ∧ op ≤ 13) ∨ ¬ (-2147483648 ≤ a ∧ a ≤ 2147483647) ∨ ¬ (-2147483648 ≤ b ∧ b ≤ 2147483647)
  · unfold numDo; rw [if_pos (by omega), if_pos h1]
  · rw [numDo_main (by omega) (by omega) (by omega) ⟨fun h => by omega, fun h => by omega⟩, numDo_main (a := a) (b := b) (by omega) (by omega) (by omega) ⟨fun h => by omega, fun h => by omega⟩, he]

theorem wild_ok {b : List Int} (hb : ∀ x ∈ b, 0 ≤ x ∧ x ≤ 255) (hl : b.length ≤ 2000) (p : Int) (hp : 0 ≤ p) (hq : p ≤ 800000) : W (fun k => spec_l1Rd_wild.f k b p) (fun r => (-9223372036854775808 ≤ r.1 ∧ r.1 ≤ 9223372036854775807) ∧ p ≤ r.2 ∧ r.2 ≤ p + 7) := by
  unfold spec_l1Rd_wild.f
  refine W.bind (pick_ok hb hl p 12 hp (by omega)) ?_
  rintro ⟨c, q⟩ ⟨rfl, _⟩
  simp only
  refine W.ite (fun _ => ?_) (fun _ => W.ite (fun _ => ?_) (fun _ => W.ite (fun _ => ?_) (fun _ => W.ite (fun _ => ?_) (fun _ => ?_))))
  · refine W.bind (pick_ok hb hl (p + 1) 3 (by omega) (by omega)) ?_
    rintro ⟨c, q⟩ ⟨rfl, _⟩
    exact W.ret ⟨wrap64_ok _, by first | omega | (simp only; omega), by first | omega | (simp only; omega)⟩
  · refine W.bind (pick_ok hb hl (p + 1) 3 (by omega) (by omega)) ?_
    rintro ⟨c, q⟩ ⟨rfl, _⟩
    exact W.ret ⟨wrap64_ok _, by first | omega | (simp only; omega), by first | omega | (simp only; omega)⟩
  · refine W.bind (pick_ok hb hl (p + 1) 2 (by omega) (by omega)) ?_
    rintro ⟨c, q⟩ ⟨rfl, _⟩
    exact W.ret ⟨wrap64_ok _, by first | omega | (simp only; omega), by first | omega | (simp only; omega)⟩
  · refine W.bind (pick_ok hb hl (p + 1) 2 (by omega) (by omega)) ?_
    rintro ⟨c, q⟩ ⟨rfl, _⟩
    exact W.ret ⟨wrap64_ok _, by first | omega | (simp only; omega), by first | omega | (simp only; omega)⟩
  · refine W.bind (num_ok hb hl (p + 1) (by omega) (by omega)) ?_
    rintro ⟨c, q⟩ ⟨h1, h2, h3⟩
    simp only at h1 h2 h3
    exact W.ret ⟨by first | omega | (simp only; omega), by first | omega | (simp only; omega), by first | omega | (simp only; omega)⟩
theorem drawNumDo_ok (code : List Int) (hb : ∀ x ∈ code, (Lit.int .u8 x).wf = true) : W (fun k => spec_DrawNumDo.f k code) (fun _ => True) := by
  obtain ⟨b, ho, hl, hb⟩ := open_ok code hb
  have j2 : ∀ (op a c p : Int), 0 ≤ p → p ≤ 1000 → W (fun k => spec_DrawNumDo.j2 k op a c b p) (fun _ => True) := by
    intro op a c p h0 h1
    refine W.step (fun k => by simp only [spec_DrawNumDo.j2]; rfl) ?_
    refine W.bind (pick_ok hb hl p 20 h0 (by omega)) ?_
    rintro ⟨x, q⟩ ⟨rfl, _⟩
    simp only
    refine W.ite (fun _ => ?_) (fun _ => ?_)
    · refine W.bind (wild_ok hb hl (p + 1) (by omega) (by omega)) ?_
      rintro r -
      exact W.ret trivial
    · refine W.bind (pick_ok hb hl (p + 1) 20 (by omega) (by omega)) ?_
      rintro ⟨x, q⟩ ⟨rfl, _⟩
      simp only
      refine W.ite (fun _ => ?_) (fun _ => W.ret trivial)
      refine W.bind (wild_ok hb hl (p + 1 + 1) (by omega) (by omega)) ?_
      rintro r -
      exact W.ret trivial
  have j1 : ∀ (op a c : Int) (s : Bool) (p : Int), 0 ≤ p → p ≤ 900 → W (fun k => spec_DrawNumDo.j1 k op a c s b p) (fun _ => True) := by
    intro op a c s p h0 h1
    refine W.step (fun k => by simp only [spec_DrawNumDo.j1]; rfl) ?_
    refine W.ite (fun _ => ?_) (fun _ => j2 _ _ _ _ h0 (by omega))
    refine W.bind (pick_ok hb hl p 36 h0 (by omega)) ?_
    rintro ⟨x, q⟩ ⟨rfl, _⟩
    exact j2 _ _ _ _ (by first | omega | (simp only; omega)) (by first | omega | (simp only; omega))
  have j0 : ∀ (op p : Int), 0 ≤ p → p ≤ 800 → W (fun k => spec_DrawNumDo.j0 k op b p) (fun _ => True) := by
    intro op p h0 h1
    refine W.step (fun k => by simp only [spec_DrawNumDo.j0]; rfl) ?_
    refine W.bind (num_ok hb hl p h0 (by omega)) ?_
    rintro ⟨x, q⟩ ⟨_, h2, h3⟩
    simp only at h2 h3
    simp only
    refine W.bind (num_ok hb hl q (by omega) (by omega)) ?_
    rintro ⟨y, q2⟩ ⟨_, h4, h5⟩
    simp only at h4 h5
    simp only
    refine W.ite (fun _ => ?_) (fun _ => ?_)
    · exact j1 _ _ _ _ _ (by omega) (by omega)
    · exact j1 _ _ _ _ _ (by omega) (by omega)
  unfold spec_DrawNumDo.f
  rw [ho]
  simp only [Option.bind_some]
  refine W.bind (pick_ok hb hl 0 13 (by omega) (by omega)) ?_
  rintro ⟨c, q⟩ ⟨rfl, _⟩
  simp only
  refine W.bind (pick_ok hb hl (0 + 1) 30 (by omega) (by omega)) ?_
  rintro ⟨c, q⟩ ⟨rfl, _⟩
  simp only
  refine W.ite (fun _ => ?_) (fun _ => ?_)
  · refine W.bind (pick_ok hb hl (0 + 1 + 1) 16 (by omega) (by omega)) ?_
    rintro ⟨c, q⟩ ⟨rfl, _⟩
    exact j0 _ _ (by first | omega | (simp only; omega)) (by first | omega | (simp only; omega))
  · exact j0 _ _ (by first | omega | (simp only; omega)) (by first | omega | (simp only; omega))

theorem FnNumDo : laws_FnNumDo.Pure := by
  intro code _ _ hb
  apply W.eq
  unfold laws_FnNumDo.f
  refine W.ite (fun _ => W.ret rfl) (fun _ => ?_)
  refine W.bind (drawNumDo_ok code hb) ?_
  rintro ⟨op, a, b⟩ -
  simp only
  refine W.bind (iNumDo op a b) ?_
  rintro _ rfl
  refine W.bind (sNumDo op a b) ?_
  rintro _ rfl
  obtain ⟨h1, h2, h3, h4⟩ := numDo_facts op a b
  refine W.pos rfl (W.pos rfl ?_)
  rw [iNumOk]
  simp only [Option.bind_some]
  refine W.pos (by simpa using h1) ?_
  have j1 : W (fun k => laws_FnNumDo.j1 k op a b (numDo op a b).1 (numDo op a b).2 false) (· = true) := by
    refine W.step (fun k => by simp only [laws_FnNumDo.j1]; rfl) ?_
    refine W.neg (by decide) ?_
    have hc : op = 1 ∨ op = 3 ∨ op = 8 → W (fun n => (impl_NumDo.f n op b a).bind fun bt195 => if bt195.1 = (numDo op a b).1 then some (bt195.2 == (numDo op a b).2) else some false) (· = true) := by
      intro h
      refine W.bind (iNumDo op b a) ?_
      rintro _ rfl
      rw [numDo_comm a b h]
      exact W.pos rfl (W.ret (by simp))
    refine W.ite (fun h => hc (by omega)) (fun _ => W.ite (fun h => hc (by omega)) (fun _ => W.ite (fun h => hc (by omega)) (fun _ => W.ret rfl)))
  have j0 : W (fun k => laws_FnNumDo.j0 k op a b (numDo op a b).1 (numDo op a b).2 (decide ((numDo op a b).2 > 3))) (· = true) := by
    rw [decide_eq_false (show ¬ (numDo op a b).2 > 3 by omega)]
    refine W.step (fun k => by simp only [laws_FnNumDo.j0]; rfl) ?_
    refine W.neg (by decide) (W.ite (fun h => ?_) (fun _ => j1))
    rw [h4 h] at j1 ⊢
    exact j1
  refine W.ite (fun _ => ?_) (fun h => ?_)
  · exact W.neg (by omega) j0
  · exact W.pos (by omega) (W.neg (by omega) j0)

end Go.Proofs.Ytjkmefkgagfcaaa.Pure
