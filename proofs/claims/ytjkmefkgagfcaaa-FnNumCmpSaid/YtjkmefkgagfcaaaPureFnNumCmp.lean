/- The pure statement of the law FnNumCmp: for every input the printed function answers true. -/
import Derived.Test.YtjkmefkgagfcaaaPFnNumCmpx0
import Derived.Test.YtjkmefkgagfcaaaPFnNumCmpx1
import Derived.Test.YtjkmefkgagfcaaaPFnNumCmpx2
import Derived.Test.YtjkmefkgagfcaaaLib
namespace Go.Proofs.Ytjkmefkgagfcaaa.Pure
open Go Go.RowKit Go.Proofs.Ytjkmefkgagfcaaa.PFnNumCmp Go.Proofs.YtjkmefkgagfcaaaW.PrintWords Go.Proofs.YtjkmefkgagfcaaaW.PrintLast Go.Proofs.YtjkmefkgagfcaaaW.PrintMore Go.Proofs.Ytjkmefkgagfcaaa.Lib
set_option linter.unusedVariables false
set_option linter.unusedSimpArgs false

/-! ### the reader of codes -/
theorem rd_byte {b : List Int} (hb : ∀ x ∈ b, 0 ≤ x ∧ x ≤ 255) (i : Int) : 0 ≤ rd b i ∧ rd b i ≤ 255 := by
  unfold rd
  rw [List.getD_eq_getElem?_getD]
  by_cases h : i.toNat < b.length
  · rw [List.getElem?_eq_getElem h]; exact hb _ (List.getElem_mem h)
  · rw [List.getElem?_eq_none (by omega)]; simp
theorem xor64 {a b : Int} (h0 : 0 ≤ a) (h1 : a ≤ 9223372036854775807) (h2 : 0 ≤ b) (h3 : b ≤ 9223372036854775807) : 0 ≤ Go.bits .xor .i64 a b := by
  show 0 ≤ IntKind.i64.wrap ((BitVec.ofInt 64 a ^^^ BitVec.ofInt 64 b).toNat : Int)
  rw [wrap64_bv]
  have e : ∀ x : Int, 0 ≤ x → x ≤ 9223372036854775807 → (BitVec.ofInt 64 x).toNat = x.toNat := by
    intro x g0 g1
    rw [BitVec.toNat_ofInt]; congr 1; exact Int.emod_eq_of_lt g0 (by omega)
  rw [BitVec.toInt_eq_toNat_cond, BitVec.toNat_xor, e a h0 h1, e b h2 h3]
  have := Nat.xor_lt_two_pow (n := 63) (x := a.toNat) (y := b.toNat) (by omega) (by omega)
  rw [if_pos (by omega)]
  omega
theorem tmod_pos {a n : Int} (h : 0 ≤ a) (hn : 1 ≤ n) : 0 ≤ a.tmod n ∧ a.tmod n < n := by
  rw [Int.tmod_eq_emod_of_nonneg h]
  exact ⟨Int.emod_nonneg _ (by omega), Int.emod_lt_of_pos _ (by omega)⟩
def Pick (p n : Int) (r : Int × Int) : Prop := r.2 = p + 1 ∧ (1 ≤ n → 0 ≤ r.1 ∧ r.1 < n)
theorem pick_ok {b : List Int} (hb : ∀ x ∈ b, 0 ≤ x ∧ x ≤ 255) (hl : b.length ≤ 2000) (p n : Int) (hp : 0 ≤ p) (hq : p ≤ 1000000) : W (fun k => spec_l1Rd_pick.f k b p n) (Pick p n) := by
  unfold spec_l1Rd_pick.f
  rw [wrap64_id (n := p + 1) (by omega) (by omega)]
  refine W.ite (fun h => ?_) (fun h => ?_)
  · exact W.step (f := fun _ => some (0, p + 1)) (fun k => by simp only [spec_l1Rd_pick.j0, if_true]) (W.ret ⟨rfl, fun h1 => by omega⟩)
  · by_cases hz : b.length = 0
    · exact W.step (f := fun _ => some (0, p + 1)) (fun k => by simp only [spec_l1Rd_pick.j0, hz]; rfl) (W.ret ⟨rfl, fun h1 => by simp only; omega⟩)
    · have e : ((b.length : Int) == 0) = false := by simpa using hz
      rw [e]
      refine W.step (fun k => by simp only [spec_l1Rd_pick.j0]; rfl) ?_
      rw [show p + 1 - 1 = p by omega, wrap64_id (n := p) (by omega) (by omega)]
      refine W.neg (by decide) ?_
      have hn0 : ¬ n = 0 := by omega
      have ht : ∀ x : Int, 0 ≤ x → Pick p n (x.tmod n, p + 1) := fun x hx => ⟨rfl, fun h1 => tmod_pos hx h1⟩
      refine W.ite (fun h1 => ?_) (fun h1 => ?_)
      · refine W.pos hp (W.neg hn0 (W.ret ?_))
        have := rd_byte hb p
        rw [wrap64_id (by omega) (by omega)]
        exact ht _ this.1
      · have hL : (1 : Int) ≤ b.length := by omega
        refine W.neg (by omega) ?_
        have t1 := tmod_pos (a := p) hp hL
        have t2 := tmod_pos (a := p * 7 + 3) (by omega) hL
        rw [wrap64_id (n := p * 7) (by omega) (by omega), wrap64_id (n := p * 7 + 3) (by omega) (by omega)]
        refine W.pos t1.1 (W.pos t1.2 (W.pos t2.1 (W.pos t2.2 (W.neg hn0 (W.ret ?_)))))
        have r1 := rd_byte hb (Int.tmod p b.length)
        have r2 := rd_byte hb (Int.tmod (p * 7 + 3) b.length)
        have d1 : 0 ≤ Int.tdiv p b.length ∧ Int.tdiv p b.length ≤ p := by
          rw [Int.tdiv_eq_ediv_of_nonneg hp]
          exact ⟨Int.ediv_nonneg hp (by omega), Int.ediv_le_self _ hp⟩
        generalize rd b (Int.tmod p b.length) = c1 at *
        generalize rd b (Int.tmod (p * 7 + 3) b.length) = c2 at *
        generalize Int.tdiv p b.length = c3 at *
        rw [wrap64_id (n := c1) (by omega) (by omega), wrap64_id (n := c2) (by omega) (by omega), wrap64_id (n := c3) (by omega) (by omega), wrap64_id (n := c1 * 131) (by omega) (by omega), wrap64_id (n := c2 * 1117) (by omega) (by omega),
          wrap64_id (n := c1 * 131 + c2 * 1117) (by omega) (by omega), wrap64_id (n := p * 29) (by omega) (by omega), wrap64_id (n := c1 * 131 + c2 * 1117 + p * 29) (by omega) (by omega), wrap64_id (n := c3 * 53) (by omega) (by omega),
          wrap64_id (n := c1 * 131 + c2 * 1117 + p * 29 + c3 * 53) (by omega) (by omega)]
        refine ht _ (xor64 (by omega) (by omega) ?_ ?_)
        · rw [Int.tdiv_eq_ediv_of_nonneg (by omega), wrap64_id (by omega) (by omega)]; omega
        · rw [Int.tdiv_eq_ediv_of_nonneg (by omega), wrap64_id (by omega) (by omega)]; omega

theorem power_loop (n : Int) (hn : n ≤ 61) (d : Nat) : ∀ i : Int, 0 ≤ i → i ≤ n → n - i = d → W (fun k => spec_l1Power.l0 k n (2 ^ i.toNat) i) (· = 2 ^ n.toNat) := by
  induction d with
  | zero =>
    intro i h0 h1 hd
    refine W.step (fun k => by simp only [spec_l1Power.l0]; rfl) ?_
    exact W.neg (by omega) (W.ret (by rw [show i = n by omega]))
  | succ d ih =>
    intro i h0 h1 hd
    refine W.step (fun k => by simp only [spec_l1Power.l0]; rfl) ?_
    refine W.pos (by omega) ?_
    have hp : (2 : Int) ^ i.toNat ≤ 2 ^ 61 := pow_mono (by omega)
    have hq := pow_pos' i.toNat
    have h := ih (i + 1) (by omega) (by omega) (by omega)
    rw [show (i + 1).toNat = i.toNat + 1 by omega, Int.pow_succ, Int.mul_comm] at h
    rw [wrap64_id (n := i + 1) (by omega) (by omega), wrap64_id (n := 2 * 2 ^ i.toNat) (by omega) (by omega)]
    exact h
theorem power_ok (n : Int) (h0 : 0 ≤ n) (hn : n ≤ 61) : W (fun k => spec_l1Power.f k n) (· = 2 ^ n.toNat) := by
  unfold spec_l1Power.f
  exact power_loop n hn n.toNat 0 (by omega) h0 (by omega)

theorem sNumWrap (a : Int) (h0 : -9223372036854775808 ≤ a) (h1 : a ≤ 9223372036854775807) : spec_NumWrap.f a = some (wrap32 a) := by
  simp only [spec_NumWrap.f, spec_l1Mod.f]
  have e := tmod_up (n := a) (m := 4294967296) (by omega)
  have b := tmod_bounds (n := a) (m := 4294967296) (by omega)
  rw [if_neg (by omega)]
  by_cases hn : a.tmod 4294967296 < 0
  · rw [if_pos hn] at e ⊢
    rw [wrap64_id (by omega) (by omega), e]
    simp only [Option.bind_some]
    by_cases hm : a % 4294967296 > 2147483647
    · rw [if_pos hm]
      congr 1; unfold wrap64 wrap32; omega
    · rw [if_neg hm]
      congr 1; unfold wrap32; omega
  · rw [if_neg hn] at e ⊢
    rw [e]
    simp only [Option.bind_some]
    by_cases hm : a % 4294967296 > 2147483647
    · rw [if_pos hm]
      congr 1; unfold wrap64 wrap32; omega
    · rw [if_neg hm]
      congr 1; unfold wrap32; omega
theorem wrap32_ok (a : Int) : -2147483648 ≤ wrap32 a ∧ wrap32 a ≤ 2147483647 := by unfold wrap32; omega
theorem wrap64_ok (a : Int) : -9223372036854775808 ≤ wrap64 a ∧ wrap64 a ≤ 9223372036854775807 := by unfold wrap64; omega

def Num (p m : Int) (r : Int × Int) : Prop := (-2147483648 ≤ r.1 ∧ r.1 ≤ 2147483647) ∧ p ≤ r.2 ∧ r.2 ≤ p + m
theorem num_loop {b : List Int} (hb : ∀ x ∈ b, 0 ≤ x ∧ x ≤ 255) (hl : b.length ≤ 2000) (d : Nat) : ∀ (v i p : Int), 0 ≤ i → i ≤ 4 → 4 - i = d → 0 ≤ p → p + d ≤ 999000 → W (fun k => spec_l1Rd_num.l0 k v i b p) (Num p d) := by
  induction d with
  | zero =>
    intro v i p h0 h1 hd hp hq
    refine W.step (fun k => by simp only [spec_l1Rd_num.l0]; rfl) ?_
    refine W.neg (by omega) ?_
    by_cases hv : -9223372036854775808 ≤ v ∧ v ≤ 9223372036854775807
    · refine W.bind (W.const (sNumWrap v hv.1 hv.2) rfl) ?_
      rintro _ rfl
      exact W.ret ⟨wrap32_ok v, by simp only; omega, by simp only; omega⟩
    · have he : spec_NumWrap.f v = spec_NumWrap.f v := rfl
      obtain ⟨r, hr, ho⟩ : ∃ r, spec_NumWrap.f v = some r ∧ (-2147483648 ≤ r ∧ r ≤ 2147483647) := by
        simp only [spec_NumWrap.f, spec_l1Mod.f]
        have e := tmod_up (n := v) (m := 4294967296) (by omega)
        have b := tmod_bounds (n := v) (m := 4294967296) (by omega)
        rw [if_neg (by omega)]
        by_cases hn : v.tmod 4294967296 < 0
        · rw [if_pos hn] at e ⊢
          rw [wrap64_id (by omega) (by omega), e]
          simp only [Option.bind_some]
          by_cases hm : v % 4294967296 > 2147483647
          · rw [if_pos hm]; exact ⟨_, rfl, by rw [wrap64_id (by omega) (by omega)]; omega⟩
          · rw [if_neg hm]; exact ⟨_, rfl, by omega⟩
        · rw [if_neg hn] at e ⊢
          rw [e]
          simp only [Option.bind_some]
          by_cases hm : v % 4294967296 > 2147483647
          · rw [if_pos hm]; exact ⟨_, rfl, by rw [wrap64_id (by omega) (by omega)]; omega⟩
          · rw [if_neg hm]; exact ⟨_, rfl, by omega⟩
      refine W.bind (W.const hr rfl) ?_
      rintro _ rfl
      exact W.ret ⟨ho, by simp only; omega, by simp only; omega⟩
  | succ d ih =>
    intro v i p h0 h1 hd hp hq
    refine W.step (fun k => by simp only [spec_l1Rd_num.l0]; rfl) ?_
    refine W.pos (by omega) ?_
    refine W.bind (pick_ok hb hl p 256 hp (by omega)) ?_
    rintro ⟨c, q⟩ ⟨rfl, _⟩
    rw [wrap64_id (n := i + 1) (by omega) (by omega)]
    refine (ih _ (i + 1) (p + 1) (by omega) (by omega) (by omega) (by omega) (by omega)).mono ?_
    rintro r ⟨h1, h2, h3⟩
    exact ⟨h1, by omega, by omega⟩
theorem num_ok {b : List Int} (hb : ∀ x ∈ b, 0 ≤ x ∧ x ≤ 255) (hl : b.length ≤ 2000) (p : Int) (hp : 0 ≤ p) (hq : p ≤ 900000) : W (fun k => spec_l1Rd_num.f k b p) (Num p 6) := by
  unfold spec_l1Rd_num.f
  refine W.bind (pick_ok hb hl p 10 hp (by omega)) ?_
  rintro ⟨c, q⟩ ⟨rfl, _⟩
  simp only
  refine W.ite (fun _ => ?_) (fun _ => W.ite (fun _ => ?_) (fun _ => W.ite (fun _ => ?_) (fun _ => W.ite (fun _ => ?_) (fun _ => W.ite (fun _ => ?_) (fun _ => ?_)))))
  · refine W.bind (pick_ok hb hl (p + 1) 21 (by omega) (by omega)) ?_
    rintro ⟨c, q⟩ ⟨rfl, h⟩
    have h := h (by omega)
    simp only at h
    exact W.ret ⟨by simp only; rw [wrap64_id (by omega) (by omega)]; omega, by simp only; omega, by simp only; omega⟩
  · refine W.bind (pick_ok hb hl (p + 1) 3 (by omega) (by omega)) ?_
    rintro ⟨c, q⟩ ⟨rfl, h⟩
    have h := h (by omega)
    simp only at h
    exact W.ret ⟨by simp only; rw [wrap64_id (by omega) (by omega)]; omega, by simp only; omega, by simp only; omega⟩
  · refine W.bind (pick_ok hb hl (p + 1) 3 (by omega) (by omega)) ?_
    rintro ⟨c, q⟩ ⟨rfl, h⟩
    have h := h (by omega)
    simp only at h
    exact W.ret ⟨by simp only; rw [wrap64_id (by omega) (by omega)]; omega, by simp only; omega, by simp only; omega⟩
  · refine W.bind (pick_ok hb hl (p + 1) 31 (by omega) (by omega)) ?_
    rintro ⟨c, q⟩ ⟨rfl, h⟩
    have h := h (by omega)
    simp only at h
    refine W.bind (power_ok c (by omega) (by omega)) ?_
    rintro _ rfl
    have hp1 : (2 : Int) ^ c.toNat ≤ 2 ^ 30 := pow_mono (by omega)
    have hp2 := pow_pos' c.toNat
    refine W.bind (pick_ok hb hl (p + 1 + 1) 3 (by omega) (by omega)) ?_
    rintro ⟨c2, q⟩ ⟨rfl, h⟩
    have h := h (by omega)
    simp only at h
    refine W.ret ⟨?_, by simp only; omega, by simp only; omega⟩
    simp only
    rw [wrap64_id (n := 2 ^ c.toNat + c2) (by omega) (by omega), wrap64_id (by omega) (by omega)]; omega
  · refine W.bind (pick_ok hb hl (p + 1) 31 (by omega) (by omega)) ?_
    rintro ⟨c, q⟩ ⟨rfl, h⟩
    have h := h (by omega)
    simp only at h
    refine W.bind (power_ok c (by omega) (by omega)) ?_
    rintro _ rfl
    have hp1 : (2 : Int) ^ c.toNat ≤ 2 ^ 30 := pow_mono (by omega)
    have hp2 := pow_pos' c.toNat
    refine W.bind (pick_ok hb hl (p + 1 + 1) 3 (by omega) (by omega)) ?_
    rintro ⟨c2, q⟩ ⟨rfl, h⟩
    have h := h (by omega)
    simp only at h
    refine W.ret ⟨?_, by simp only; omega, by simp only; omega⟩
    simp only
    rw [wrap64_id (n := -2 ^ c.toNat) (by omega) (by omega), wrap64_id (n := -2 ^ c.toNat + c2) (by omega) (by omega), wrap64_id (by omega) (by omega)]; omega
  · refine (num_loop hb hl 4 0 0 (p + 1) (by omega) (by omega) (by omega) (by omega) (by omega)).mono ?_
    rintro r ⟨h1, h2, h3⟩
    exact ⟨h1, by omega, by omega⟩
theorem open_ok (code : List Int) (hb : ∀ x ∈ code, (Lit.int .u8 x).wf = true) : ∃ b, spec_l1Open.f code = some (b, 0) ∧ b.length ≤ 2000 ∧ ∀ x ∈ b, 0 ≤ x ∧ x ≤ 255 := by
  unfold spec_l1Open.f
  by_cases h : (code.length : Int) > 2000
  · rw [if_pos h, if_pos (by omega)]
    exact ⟨_, rfl, by simp; omega, fun x hx => u8_wf (hb x (List.mem_of_mem_take hx))⟩
  · rw [if_neg h]
    exact ⟨_, rfl, by omega, fun x hx => u8_wf (hb x hx)⟩

/-! ### comparisons -/
def cmpB (c a b : Int) : Bool := if c = 1 then decide (a = b) else if c = 2 then !decide (a = b) else if c = 3 then decide (a < b) else if c = 4 then decide (a ≤ b) else if c = 5 then decide (b < a) else if c = 6 then decide (b ≤ a) else false
theorem iNumCmp (c a b : Int) : impl_NumCmp.f c a b = some (cmpB c a b) := by
  unfold impl_NumCmp.f cmpB
  repeat' split
  all_goals first | rfl | (congr 1; simp [Bool.beq_eq_decide_eq]; done) | simp_all
theorem sNumCmp (c a b : Int) : spec_NumCmp.f c a b = some (cmpB c a b) := iNumCmp c a b

theorem iCmpTurn (c : Int) : W (fun k => impl_CmpTurn.f k c) (· = if c = 3 then 5 else if c = 4 then 6 else if c = 5 then 3 else if c = 6 then 4 else if c = 1 then 1 else if c = 2 then 2 else 0) := by
  refine ⟨_, rfl, 1, fun k hk => ?_⟩
  obtain ⟨m, rfl⟩ : ∃ m, k = m + 1 := ⟨k - 1, by omega⟩
  simp only [impl_CmpTurn.f, impl_CmpTurn.j0]
  by_cases h1 : c = 1
  · subst h1; rfl
  by_cases h2 : c = 2
  · subst h2; rfl
  by_cases h3 : c = 3
  · subst h3; rfl
  by_cases h4 : c = 4
  · subst h4; rfl
  by_cases h5 : c = 5
  · subst h5; rfl
  by_cases h6 : c = 6
  · subst h6; rfl
  simp [h1, h2, h3, h4, h5, h6]
theorem iCmpNot (c : Int) : impl_CmpNot.f c = some (if c = 1 then 2 else if c = 2 then 1 else if c = 3 then 6 else if c = 4 then 5 else if c = 5 then 4 else if c = 6 then 3 else 0) := by
  unfold impl_CmpNot.f
  repeat' split
  all_goals rfl
theorem draw_ok (code : List Int) (hb : ∀ x ∈ code, (Lit.int .u8 x).wf = true) : W (fun k => spec_DrawNumCmp.f k code) (fun _ => True) := by
  obtain ⟨b, ho, hl, hb⟩ := open_ok code hb
  unfold spec_DrawNumCmp.f
  rw [ho]
  simp only [Option.bind_some]
  refine W.bind (pick_ok hb hl 0 8 (by omega) (by omega)) ?_
  rintro ⟨c, q⟩ ⟨rfl, _⟩
  refine W.bind (num_ok hb hl _ (by simp only; omega) (by simp only; omega)) ?_
  rintro ⟨a, q⟩ ⟨_, h2, h3⟩
  simp only at h2 h3
  refine W.bind (pick_ok hb hl _ 3 (by simp only; omega) (by simp only; omega)) ?_
  rintro ⟨d, q2⟩ ⟨rfl, _⟩
  refine W.ite (fun _ => W.ret trivial) (fun _ => ?_)
  refine W.bind (num_ok hb hl _ (by simp only; omega) (by simp only; omega)) ?_
  rintro ⟨a2, q3⟩ _
  exact W.ret trivial
theorem FnNumCmp : laws_FnNumCmp.Pure := by
  intro code _ _ hb
  apply W.eq
  unfold laws_FnNumCmp.f
  refine W.ite (fun _ => W.ret rfl) (fun _ => ?_)
  refine W.bind (draw_ok code hb) ?_
  rintro ⟨c, a, b⟩ -
  simp only [iNumCmp, sNumCmp, iCmpNot, Option.bind_some, bne_self_eq_false, Bool.false_eq_true, if_false]
  refine W.bind (iCmpTurn c) ?_
  rintro _ rfl
  by_cases h : c < 1
  · refine W.pos h (W.step (fun k => by simp only [laws_FnNumCmp.j0]; rfl) ?_)
    refine W.pos (by trivial) ?_
    have e : cmpB c a b = false := by unfold cmpB; repeat (rw [if_neg (by omega)])
    repeat (rw [if_neg (show ¬ c = _ by omega)])
    exact W.pos rfl (W.pos rfl (W.ret (by rw [e]; rfl)))
  · refine W.neg h ?_
    by_cases h6 : c > 6
    · rw [decide_eq_true h6]
      refine W.step (fun k => by simp only [laws_FnNumCmp.j0]; rfl) ?_
      refine W.pos (by trivial) ?_
      have e : cmpB c a b = false := by unfold cmpB; repeat (rw [if_neg (by omega)])
      repeat (rw [if_neg (show ¬ c = _ by omega)])
      exact W.pos rfl (W.pos rfl (W.ret (by rw [e]; rfl)))
    · rw [decide_eq_false h6]
      refine W.step (fun k => by simp only [laws_FnNumCmp.j0]; rfl) ?_
      refine W.neg (by decide) ?_
      simp only [iNumCmp, iCmpNot, Option.bind_some]
      obtain rfl | rfl | rfl | rfl | rfl | rfl : c = 1 ∨ c = 2 ∨ c = 3 ∨ c = 4 ∨ c = 5 ∨ c = 6 := by omega
      all_goals
        refine W.pos (by decide) (W.bind (iCmpTurn _) ?_)
        rintro _ rfl
        refine W.pos (by decide) (W.pos ?_ (W.ret ?_))
        · simp [cmpB]
          try (first | omega | (rw [Bool.eq_iff_iff]; simp; done) | (rw [Bool.eq_iff_iff]; simp; omega))
        · simp [cmpB]
          try (first | omega | (rw [Bool.eq_iff_iff]; simp; done) | (rw [Bool.eq_iff_iff]; simp; omega))

end Go.Proofs.Ytjkmefkgagfcaaa.Pure
