/- Plain lemmas on numbers, without the program: bits, greatest common divisors, stretches and corners, remainders, and 'W' (it answers, given enough rounds). -/
import Derived.Laws.BitsAllLaws
import Derived.WalkKit
namespace Go.Proofs.YtnbpgnkplahknaaDoor.Lib
open Go Go.RowKit

theorem wrap64_id {n : Int} (h0 : -9223372036854775808 ≤ n) (h1 : n ≤ 9223372036854775807) : wrap64 n = n := by
  unfold wrap64; omega
theorem i64_wf {a : Int} (h : (Lit.int .i64 a).wf = true) : -9223372036854775808 ≤ a ∧ a ≤ 9223372036854775807 := by
  simp [Lit.wf, show IntKind.i64.min = -9223372036854775808 from rfl, show IntKind.i64.max = 9223372036854775807 from rfl] at h
  omega
theorem u8_wf {a : Int} (h : (Lit.int .u8 a).wf = true) : 0 ≤ a ∧ a ≤ 255 := by
  simp [Lit.wf, show IntKind.u8.min = 0 from rfl, show IntKind.u8.max = 255 from rfl] at h
  omega
/-! ### b2 -/

theorem bmod_small (a : Int) (m : Nat) (h0 : -(m : Int) ≤ a * 2) (h1 : a * 2 < m) : a.bmod m = a := by
  rw [Int.bmod_def]
  by_cases h : 0 ≤ a
  · have : a % (m : Int) = a := Int.emod_eq_of_lt h (by omega)
    rw [this]; split <;> omega
  · have : a % (m : Int) = a + m := by
      rw [← Int.add_emod_right]
      exact Int.emod_eq_of_lt (by omega) (by omega)
    rw [this]; split <;> omega

/-- The number of 32 bits that a number from 0 to 2^32 - 1 stands for. -/
def s32 (n : Nat) : Int := if n < 2147483648 then (n : Int) else (n : Int) - 4294967296
/-- The 32 bits of a number. -/
def u32 (a : Int) : Nat := (a % 4294967296).toNat

theorem u32_lt (a : Int) : u32 a < 4294967296 := by unfold u32; omega
theorem s32_u32 (a : Int) (h0 : -2147483648 ≤ a) (h1 : a ≤ 2147483647) : s32 (u32 a) = a := by unfold s32 u32; split <;> omega

theorem wrap64_bv (X : BitVec 64) : IntKind.i64.wrap (X.toNat : Int) = X.toInt := by
  rw [BitVec.toInt_eq_toNat_cond]
  have := X.isLt
  simp [IntKind.wrap, IntKind.bits, IntKind.signed]
  omega

theorem ofInt64 (a : Int) (h0 : -2147483648 ≤ a) (h1 : a ≤ 2147483647) : BitVec.ofInt 64 a = (BitVec.ofInt 32 a).signExtend 64 := by
  apply BitVec.eq_of_toInt_eq
  rw [BitVec.toInt_signExtend_of_le (by decide), BitVec.toInt_ofInt, BitVec.toInt_ofInt, bmod_small a _ (by omega) (by omega), bmod_small a _ (by omega) (by omega)]

theorem toInt32 (X : BitVec 32) : X.toInt = s32 X.toNat := by
  rw [BitVec.toInt_eq_toNat_cond]; unfold s32
  have := X.isLt
  split <;> split <;> omega
theorem toNat32 (a : Int) : (BitVec.ofInt 32 a).toNat = u32 a := by
  rw [BitVec.toNat_ofInt]; rfl

theorem bits_and {a b : Int} (h0 : -2147483648 ≤ a) (h1 : a ≤ 2147483647) (h2 : -2147483648 ≤ b) (h3 : b ≤ 2147483647) : Go.bits .and .i64 a b = s32 (u32 a &&& u32 b) := by
  show IntKind.i64.wrap ((BitVec.ofInt 64 a &&& BitVec.ofInt 64 b).toNat : Int) = _
  rw [wrap64_bv, ofInt64 a h0 h1, ofInt64 b h2 h3, ← BitVec.signExtend_and, BitVec.toInt_signExtend_of_le (by decide), toInt32, BitVec.toNat_and, toNat32, toNat32]
theorem bits_or {a b : Int} (h0 : -2147483648 ≤ a) (h1 : a ≤ 2147483647) (h2 : -2147483648 ≤ b) (h3 : b ≤ 2147483647) : Go.bits .or .i64 a b = s32 (u32 a ||| u32 b) := by
  show IntKind.i64.wrap ((BitVec.ofInt 64 a ||| BitVec.ofInt 64 b).toNat : Int) = _
  rw [wrap64_bv, ofInt64 a h0 h1, ofInt64 b h2 h3, ← BitVec.signExtend_or, BitVec.toInt_signExtend_of_le (by decide), toInt32, BitVec.toNat_or, toNat32, toNat32]
theorem bits_xor {a b : Int} (h0 : -2147483648 ≤ a) (h1 : a ≤ 2147483647) (h2 : -2147483648 ≤ b) (h3 : b ≤ 2147483647) : Go.bits .xor .i64 a b = s32 (u32 a ^^^ u32 b) := by
  show IntKind.i64.wrap ((BitVec.ofInt 64 a ^^^ BitVec.ofInt 64 b).toNat : Int) = _
  rw [wrap64_bv, ofInt64 a h0 h1, ofInt64 b h2 h3, ← BitVec.signExtend_xor, BitVec.toInt_signExtend_of_le (by decide), toInt32, BitVec.toNat_xor, toNat32, toNat32]

theorem mod_succ (X i : Nat) : X % 2 ^ (i + 1) = X % 2 ^ i + 2 ^ i * (X / 2 ^ i % 2) := by
  rw [Nat.pow_succ, Nat.mod_mul]
theorem bit_and (A B i : Nat) : (A &&& B) / 2 ^ i % 2 = (A / 2 ^ i % 2) * (B / 2 ^ i % 2) := by
  have h : (A &&& B).testBit i = (A.testBit i && B.testBit i) := Nat.testBit_and ..
  simp only [Nat.testBit_eq_decide_div_mod_eq] at h
  have ha := Nat.mod_two_eq_zero_or_one (A / 2 ^ i); have hb := Nat.mod_two_eq_zero_or_one (B / 2 ^ i); have hc := Nat.mod_two_eq_zero_or_one ((A &&& B) / 2 ^ i)
  rcases ha with ha | ha <;> rcases hb with hb | hb <;> rcases hc with hc | hc <;> simp [ha, hb, hc] at h ⊢
theorem bit_or (A B i : Nat) : (A ||| B) / 2 ^ i % 2 = (A / 2 ^ i % 2) + (B / 2 ^ i % 2) - (A / 2 ^ i % 2) * (B / 2 ^ i % 2) := by
  have h : (A ||| B).testBit i = (A.testBit i || B.testBit i) := Nat.testBit_or ..
  simp only [Nat.testBit_eq_decide_div_mod_eq] at h
  have ha := Nat.mod_two_eq_zero_or_one (A / 2 ^ i); have hb := Nat.mod_two_eq_zero_or_one (B / 2 ^ i); have hc := Nat.mod_two_eq_zero_or_one ((A ||| B) / 2 ^ i)
  rcases ha with ha | ha <;> rcases hb with hb | hb <;> rcases hc with hc | hc <;> simp [ha, hb, hc] at h ⊢
theorem bit_xor (A B i : Nat) : (A ^^^ B) / 2 ^ i % 2 = ((A / 2 ^ i % 2) + (B / 2 ^ i % 2)) % 2 := by
  have h : (A ^^^ B).testBit i = (A.testBit i ^^ B.testBit i) := Nat.testBit_xor ..
  simp only [Nat.testBit_eq_decide_div_mod_eq] at h
  have ha := Nat.mod_two_eq_zero_or_one (A / 2 ^ i); have hb := Nat.mod_two_eq_zero_or_one (B / 2 ^ i); have hc := Nat.mod_two_eq_zero_or_one ((A ^^^ B) / 2 ^ i)
  rcases ha with ha | ha <;> rcases hb with hb | hb <;> rcases hc with hc | hc <;> simp [ha, hb, hc] at h ⊢

theorem and_add_or (A : Nat) : ∀ B : Nat, (A &&& B) + (A ||| B) = A + B := by
  induction A using Nat.strongRecOn with
  | _ A ih =>
    intro B
    by_cases h : A = 0
    · subst h; simp
    · have := ih (A / 2) (by omega) (B / 2)
      rw [← Nat.and_div_two, ← Nat.or_div_two] at this
      have e0 := bit_and A B 0; have e1 := bit_or A B 0
      simp only [Nat.pow_zero, Nat.div_one] at e0 e1
      have ha := Nat.mod_two_eq_zero_or_one A; have hb := Nat.mod_two_eq_zero_or_one B
      rcases ha with ha | ha <;> rcases hb with hb | hb <;> rw [ha, hb] at e0 e1 <;> omega
theorem xor_add_and (A : Nat) : ∀ B : Nat, (A ^^^ B) + (A &&& B) = (A ||| B) := by
  induction A using Nat.strongRecOn with
  | _ A ih =>
    intro B
    by_cases h : A = 0
    · subst h; simp
    · have := ih (A / 2) (by omega) (B / 2)
      rw [← Nat.and_div_two, ← Nat.or_div_two, ← Nat.xor_div_two] at this
      have e0 := bit_and A B 0; have e1 := bit_or A B 0; have e2 := bit_xor A B 0
      simp only [Nat.pow_zero, Nat.div_one] at e0 e1 e2
      have ha := Nat.mod_two_eq_zero_or_one A; have hb := Nat.mod_two_eq_zero_or_one B
      rcases ha with ha | ha <;> rcases hb with hb | hb <;> rw [ha, hb] at e0 e1 e2 <;> omega
theorem and_lt {A B : Nat} (h : A < 4294967296) : A &&& B < 4294967296 := Nat.lt_of_le_of_lt Nat.and_le_left h
theorem or_lt {A B : Nat} (h : A < 4294967296) (h2 : B < 4294967296) : A ||| B < 4294967296 := Nat.or_lt_two_pow (n := 32) h h2
theorem xor_lt {A B : Nat} (h : A < 4294967296) (h2 : B < 4294967296) : A ^^^ B < 4294967296 := Nat.xor_lt_two_pow (n := 32) h h2

/-- The top bits, too: so the sums of the numbers that they stand for are the same. -/
theorem top_sum (A B : Nat) : (A &&& B) / 2 ^ 31 % 2 + (A ||| B) / 2 ^ 31 % 2 = A / 2 ^ 31 % 2 + B / 2 ^ 31 % 2 := by
  rw [bit_and, bit_or]
  have ha := Nat.mod_two_eq_zero_or_one (A / 2 ^ 31); have hb := Nat.mod_two_eq_zero_or_one (B / 2 ^ 31)
  rcases ha with ha | ha <;> rcases hb with hb | hb <;> rw [ha, hb]
theorem s32_top {n : Nat} (h : n < 4294967296) : s32 n = (n : Int) - 4294967296 * ((n / 2 ^ 31 % 2 : Nat) : Int) := by
  unfold s32; split <;> omega
theorem s32_and_or {A B : Nat} (ha : A < 4294967296) (hb : B < 4294967296) : s32 (A &&& B) + s32 (A ||| B) = s32 A + s32 B := by
  rw [s32_top (and_lt ha), s32_top (or_lt ha hb), s32_top ha, s32_top hb]
  have h1 := and_add_or A B; have h2 := top_sum A B
  generalize (A &&& B) / 2 ^ 31 % 2 = p at *; generalize (A ||| B) / 2 ^ 31 % 2 = q at *; generalize A / 2 ^ 31 % 2 = r at *; generalize B / 2 ^ 31 % 2 = s at *
  omega
theorem s32_xor {A B : Nat} (ha : A < 4294967296) (hb : B < 4294967296) : s32 (A ^^^ B) = s32 (A ||| B) - s32 (A &&& B) := by
  rw [s32_top (xor_lt ha hb), s32_top (or_lt ha hb), s32_top (and_lt ha)]
  have h1 := xor_add_and A B
  have h2 : (A ^^^ B) / 2 ^ 31 % 2 + (A &&& B) / 2 ^ 31 % 2 = (A ||| B) / 2 ^ 31 % 2 := by
    rw [bit_and, bit_or, bit_xor]
    have ha := Nat.mod_two_eq_zero_or_one (A / 2 ^ 31); have hb := Nat.mod_two_eq_zero_or_one (B / 2 ^ 31)
    rcases ha with ha | ha <;> rcases hb with hb | hb <;> rw [ha, hb]
  generalize (A &&& B) / 2 ^ 31 % 2 = p at *; generalize (A ||| B) / 2 ^ 31 % 2 = q at *; generalize (A ^^^ B) / 2 ^ 31 % 2 = r at *
  omega
theorem s32_ok {n : Nat} (h : n < 4294967296) : -2147483648 ≤ s32 n ∧ s32 n ≤ 2147483647 := by unfold s32; split <;> omega

/-! ### g1 -/

theorem bezout (a : Nat) : ∀ b : Nat, ∃ u v : Int, (a : Int) * u + (b : Int) * v = (Nat.gcd a b : Nat) := by
  induction a using Nat.strongRecOn with
  | _ a ih =>
    intro b
    by_cases h : a = 0
    · subst h; exact ⟨0, 1, by simp⟩
    · obtain ⟨u, v, e⟩ := ih (b % a) (Nat.mod_lt _ (by omega)) a
      rw [Nat.gcd_rec, ← e]
      have hd : (b : Int) = a * ((b / a : Nat) : Int) + ((b % a : Nat) : Int) := by
        have := Nat.div_add_mod b a
        omega
      refine ⟨v - ((b / a : Nat) : Int) * u, u, ?_⟩
      rw [Int.mul_sub, ← Int.mul_assoc]
      have : (b : Int) * u = (a : Int) * ((b / a : Nat) : Int) * u + ((b % a : Nat) : Int) * u := by
        rw [← Int.add_mul, ← hd]
      rw [this]
      omega

/-- Some of the first b/g numbers x, x + a, x + 2a, .. leaves by b what y leaves, if g divides y - x. -/
theorem meets {a b : Nat} (hb : 0 < b) {x y : Int} (h : ((Nat.gcd a b : Nat) : Int) ∣ y - x) : ∃ k : Nat, k < b / Nat.gcd a b ∧ (x + (a : Int) * k) % b = y % b := by
  obtain ⟨u, v, e⟩ := bezout a b
  have hg : 0 < Nat.gcd a b := Nat.gcd_pos_of_pos_right a hb
  obtain ⟨q, hq⟩ := h
  have hB : 0 < b / Nat.gcd a b := Nat.div_pos (Nat.le_of_dvd hb (Nat.gcd_dvd_right a b)) hg
  obtain ⟨B, hB1⟩ : ∃ B, B = b / Nat.gcd a b := ⟨_, rfl⟩
  have hbB : b = Nat.gcd a b * B := by rw [hB1, Nat.mul_div_cancel' (Nat.gcd_dvd_right a b)]
  obtain ⟨A, hA⟩ := Nat.gcd_dvd_left a b
  rw [← hB1] at hB ⊢
  refine ⟨((u * q) % B).toNat, ?_, ?_⟩
  · have := Int.emod_lt_of_pos (u * q) (show (0 : Int) < B by omega)
    have := Int.emod_nonneg (u * q) (show (B : Int) ≠ 0 by omega)
    omega
  · have h0 := Int.emod_nonneg (u * q) (show (B : Int) ≠ 0 by omega)
    rw [Int.toNat_of_nonneg h0]
    apply Int.emod_emod_of_dvd _ (Int.dvd_refl _) |>.symm.trans
    rw [Int.emod_emod_of_dvd _ (Int.dvd_refl _)]
    apply (Int.emod_emod_of_dvd _ (Int.dvd_refl _)).symm.trans
    rw [Int.emod_emod_of_dvd _ (Int.dvd_refl _)]
    apply Int.emod_eq_emod_iff_emod_sub_eq_zero.mpr
    apply Int.emod_eq_zero_of_dvd
    -- x + a * (uq mod B) - y = a * (uq - B * t) - g q
    have hm : (u * q) % B = u * q - B * ((u * q) / B) := by have := Int.mul_ediv_add_emod (u * q) B; omega
    rw [hm]
    have e1 : x + (a : Int) * (u * q - B * (u * q / B)) - y = (a : Int) * u * q - (a : Int) * B * (u * q / B) - (Nat.gcd a b : Nat) * q := by
      rw [Int.mul_sub, ← Int.mul_assoc, ← Int.mul_assoc, ← hq]; omega
    have e2 : (a : Int) * u = (Nat.gcd a b : Nat) - (b : Int) * v := by omega
    have e3 : (a : Int) * B = (b : Int) * A := by
      have : a * B = b * A := by
        rw [show a * B = Nat.gcd a b * A * B by rw [← hA], show b * A = Nat.gcd a b * B * A by rw [← hbB]]
        rw [Nat.mul_assoc, Nat.mul_assoc, Nat.mul_comm A B]
      exact_mod_cast this
    rw [e1, e2, e3]
    refine ⟨-(v * q) - A * (u * q / B), ?_⟩
    rw [Int.sub_mul, Int.mul_sub, Int.mul_neg, ← Int.mul_assoc, ← Int.mul_assoc]
    omega

/-! ### c1 -/

/-- One way or the other along a stretch. -/
def Way (f : Int → Int) (l h : Int) : Prop := (∀ x y, l ≤ x → x ≤ y → y ≤ h → f x ≤ f y) ∨ (∀ x y, l ≤ x → x ≤ y → y ≤ h → f y ≤ f x)
theorem Way.between {f : Int → Int} {l h : Int} (w : Way f l h) {x m M : Int} (h0 : l ≤ x) (h1 : x ≤ h) (a : m ≤ f l) (b : m ≤ f h) (c : f l ≤ M) (d : f h ≤ M) : m ≤ f x ∧ f x ≤ M := by
  rcases w with w | w
  · have := w l x (Int.le_refl _) h0 h1; have := w x h h0 h1 (Int.le_refl _); omega
  · have := w l x (Int.le_refl _) h0 h1; have := w x h h0 h1 (Int.le_refl _); omega
/-- What goes one way or the other in each of its two numbers lies between what it is at the corners. -/
theorem corners {E : Int → Int → Int} {al ah bl bh m M : Int} (hx : ∀ y, bl ≤ y → y ≤ bh → Way (fun x => E x y) al ah) (hy : ∀ x, al ≤ x → x ≤ ah → Way (fun y => E x y) bl bh)
    (m1 : m ≤ E al bl) (m2 : m ≤ E al bh) (m3 : m ≤ E ah bl) (m4 : m ≤ E ah bh) (M1 : E al bl ≤ M) (M2 : E al bh ≤ M) (M3 : E ah bl ≤ M) (M4 : E ah bh ≤ M)
    {x y : Int} (x0 : al ≤ x) (x1 : x ≤ ah) (y0 : bl ≤ y) (y1 : y ≤ bh) : m ≤ E x y ∧ E x y ≤ M := by
  have p := (hy al (Int.le_refl _) (Int.le_trans x0 x1)).between y0 y1 m1 m2 M1 M2
  have q := (hy ah (Int.le_trans x0 x1) (Int.le_refl _)).between y0 y1 m3 m4 M3 M4
  exact (hx y y0 y1).between (f := fun x => E x y) x0 x1 p.1 q.1 p.2 q.2

theorem way_add_l (y l h : Int) : Way (fun x => x + y) l h := .inl fun _ _ _ _ _ => by simp only; omega
theorem way_add_r (x l h : Int) : Way (fun y => x + y) l h := .inl fun _ _ _ _ _ => by simp only; omega
theorem way_sub_l (y l h : Int) : Way (fun x => x - y) l h := .inl fun _ _ _ _ _ => by simp only; omega
theorem way_sub_r (x l h : Int) : Way (fun y => x - y) l h := .inr fun _ _ _ _ _ => by simp only; omega
theorem way_mul_l (y l h : Int) : Way (fun x => x * y) l h := by
  rcases Int.le_total 0 y with h0 | h0
  · exact .inl fun a b _ hab _ => Int.mul_le_mul_of_nonneg_right hab h0
  · exact .inr fun a b _ hab _ => Int.mul_le_mul_of_nonpos_right hab h0
theorem way_mul_r (x l h : Int) : Way (fun y => x * y) l h := by
  have := way_mul_l x l h
  simpa only [Int.mul_comm] using this
theorem tdiv_neg_r (a b : Int) : a.tdiv (-b) = -(a.tdiv b) := Int.tdiv_neg ..
theorem tdiv_mono_pos {y a b : Int} (hy : 0 < y) (h : a ≤ b) : a.tdiv y ≤ b.tdiv y := by
  rcases Int.le_total 0 a with ha | ha
  · rw [Int.tdiv_eq_ediv_of_nonneg ha, Int.tdiv_eq_ediv_of_nonneg (by omega)]
    exact Int.ediv_le_ediv hy h
  · rcases Int.le_total 0 b with hb | hb
    · have h1 : a.tdiv y ≤ 0 := by
        have := Int.tdiv_nonneg (a := -a) (b := y) (by omega) (by omega)
        rw [Int.neg_tdiv] at this; omega
      have h2 : 0 ≤ b.tdiv y := Int.tdiv_nonneg hb (by omega)
      omega
    · have := Int.ediv_le_ediv hy (show -b ≤ -a by omega)
      rw [← Int.tdiv_eq_ediv_of_nonneg (show 0 ≤ -b by omega), ← Int.tdiv_eq_ediv_of_nonneg (show 0 ≤ -a by omega), Int.neg_tdiv, Int.neg_tdiv] at this
      omega
theorem way_div_l {y : Int} (hy : y ≠ 0) (l h : Int) : Way (fun x => x.tdiv y) l h := by
  rcases Int.lt_or_gt_of_ne hy with h0 | h0
  · refine .inr fun a b _ hab _ => ?_
    have := tdiv_mono_pos (y := -y) (by omega) hab
    rw [Int.tdiv_neg, Int.tdiv_neg] at this; simp only; omega
  · exact .inl fun a b _ hab _ => tdiv_mono_pos h0 hab
theorem ediv_anti {x a b : Int} (hx : 0 ≤ x) (ha : 0 < a) (h : a ≤ b) : x / b ≤ x / a := by
  have hq : 0 ≤ x / b := Int.ediv_nonneg hx (by omega)
  rw [Int.le_ediv_iff_mul_le ha]
  have h1 : x / b * a ≤ x / b * b := Int.mul_le_mul_of_nonneg_left h hq
  have h2 : x / b * b ≤ x := Int.ediv_mul_le x (by omega)
  omega
theorem way_div_r_pos (x l h : Int) (hl : 0 < l) : Way (fun y => x.tdiv y) l h := by
  rcases Int.le_total 0 x with h0 | h0
  · refine .inr fun a b hla hab _ => ?_
    simp only
    rw [Int.tdiv_eq_ediv_of_nonneg h0, Int.tdiv_eq_ediv_of_nonneg h0]
    exact ediv_anti h0 (by omega) hab
  · refine .inl fun a b hla hab _ => ?_
    have := ediv_anti (x := -x) (by omega) (show 0 < a by omega) hab
    rw [← Int.tdiv_eq_ediv_of_nonneg (show 0 ≤ -x by omega), ← Int.tdiv_eq_ediv_of_nonneg (show 0 ≤ -x by omega), Int.neg_tdiv, Int.neg_tdiv] at this
    simp only; omega
theorem way_div_r_neg (x l h : Int) (hh : h < 0) : Way (fun y => x.tdiv y) l h := by
  rcases way_div_r_pos (-x) (-h) (-l) (by omega) with w | w
  · refine .inr fun a b h1 h2 h3 => ?_
    have := w (-b) (-a) (by omega) (by omega) (by omega)
    simp only [Int.tdiv_neg, Int.neg_tdiv, Int.neg_neg] at this ⊢; exact this
  · refine .inl fun a b h1 h2 h3 => ?_
    have := w (-b) (-a) (by omega) (by omega) (by omega)
    simp only [Int.tdiv_neg, Int.neg_tdiv, Int.neg_neg] at this ⊢; exact this
theorem pow_mono {a b : Nat} (h : a ≤ b) : (2 : Int) ^ a ≤ 2 ^ b := by
  have := Nat.pow_le_pow_right (n := 2) (by omega) h
  exact_mod_cast this
theorem pow_pos' (a : Nat) : (0 : Int) < 2 ^ a := Int.pow_pos (by omega)
theorem way_shl_l (y l h : Int) : Way (fun x => x * 2 ^ y.toNat) l h := way_mul_l _ l h
theorem way_shl_r (x l h : Int) : Way (fun y => x * 2 ^ y.toNat) l h := by
  rcases Int.le_total 0 x with h0 | h0
  · exact .inl fun a b _ hab _ => Int.mul_le_mul_of_nonneg_left (pow_mono (by omega)) h0
  · exact .inr fun a b _ hab _ => Int.mul_le_mul_of_nonpos_left h0 (pow_mono (by omega))
theorem way_shr_l (y l h : Int) : Way (fun x => x / 2 ^ y.toNat) l h := .inl fun _ _ _ hab _ => Int.ediv_le_ediv (pow_pos' _) hab
theorem way_shr_r (x l h : Int) : Way (fun y => x / 2 ^ y.toNat) l h := by
  rcases Int.le_total 0 x with h0 | h0
  · exact .inr fun a b _ hab _ => ediv_anti h0 (pow_pos' _) (pow_mono (by omega))
  · refine .inl fun a b _ hab _ => ?_
    -- x / 2^a ≤ x / 2^b for x ≤ 0
    simp only
    rw [Int.le_ediv_iff_mul_le (pow_pos' _)]
    have hp := pow_mono (show a.toNat ≤ b.toNat by omega)
    have hn : x / 2 ^ a.toNat ≤ 0 := by
      have := Int.ediv_le_ediv (pow_pos' a.toNat) h0
      simpa using this
    have h1 := Int.mul_le_mul_of_nonpos_left hn hp
    have h2 := Int.ediv_mul_le x (b := 2 ^ a.toNat) (by have := pow_pos' a.toNat; omega)
    omega

/-! ### m1 -/
theorem tmod_up {n m : Int} (hm : 0 < m) : (if n.tmod m < 0 then n.tmod m + m else n.tmod m) = n % m := by
  have h0 := Int.emod_nonneg n (show m ≠ 0 by omega)
  have h1 := Int.emod_lt_of_pos n hm
  rw [Int.tmod_eq_emod]
  by_cases h : 0 ≤ n ∨ m ∣ n
  · rw [if_pos h]; rw [if_neg (by omega)]; omega
  · rw [if_neg h]; rw [if_pos (by omega)]; omega
theorem tmod_bounds {n m : Int} (hm : 0 < m) : -m < n.tmod m ∧ n.tmod m < m := by
  have h0 := Int.emod_nonneg n (show m ≠ 0 by omega)
  have h1 := Int.emod_lt_of_pos n hm
  rw [Int.tmod_eq_emod]
  split
  · omega
  · rename_i h
    have : n % m ≠ 0 := fun e => h (.inr (Int.dvd_of_emod_eq_zero e))
    omega
theorem tmod_zero_iff {n m : Int} : n.tmod m = 0 ↔ m ∣ n := ⟨Int.dvd_of_tmod_eq_zero, fun h => Int.tmod_eq_zero_of_dvd h⟩
theorem emod_zero_iff {n m : Int} : n % m = 0 ↔ m ∣ n := ⟨Int.dvd_of_emod_eq_zero, fun h => Int.emod_eq_zero_of_dvd h⟩
/-- One number under both of two moduli. -/
theorem crt_one {a b L x y : Nat} (hL : L = Nat.lcm a b) (hx : x < L) (hy : y < L) (ha : x % a = y % a) (hb : x % b = y % b) : x = y := by
  have key : ∀ {x y : Nat}, x ≤ y → y < L → x % a = y % a → x % b = y % b → x = y := by
    intro x y hxy hy ha hb
    have h1 : a ∣ y - x := Nat.dvd_of_mod_eq_zero (Nat.sub_mod_eq_zero_of_mod_eq ha.symm)
    have h2 : b ∣ y - x := Nat.dvd_of_mod_eq_zero (Nat.sub_mod_eq_zero_of_mod_eq hb.symm)
    have h3 := Nat.lcm_dvd h1 h2
    rw [← hL] at h3
    rcases Nat.eq_zero_or_pos (y - x) with h | h
    · omega
    · have := Nat.le_of_dvd h h3; omega
  rcases Nat.le_total x y with h | h
  · exact key h hy ha hb
  · exact (key h hx ha.symm hb.symm).symm

/-! ### w1 -/

/-- With enough rounds it answers, and the answer is as it must be. -/
def W {α : Type} (g : Nat → Option α) (P : α → Prop) : Prop := ∃ r, P r ∧ ∃ K, ∀ k, K ≤ k → g k = some r
theorem W.ret {α : Type} {P : α → Prop} {r : α} (h : P r) : W (fun _ => some r) P := ⟨r, h, 0, fun _ _ => rfl⟩
theorem W.const {α : Type} {P : α → Prop} {o : Option α} {r : α} (e : o = some r) (h : P r) : W (fun _ => o) P := ⟨r, h, 0, fun _ _ => e⟩
theorem W.bind {α β : Type} {g : Nat → Option α} {f : Nat → α → Option β} {Q : α → Prop} {P : β → Prop} (h : W g Q) (k : ∀ r, Q r → W (fun n => f n r) P) : W (fun n => (g n).bind (f n)) P := by
  obtain ⟨r, hq, K, hK⟩ := h
  obtain ⟨s, hs, L, hL⟩ := k r hq
  exact ⟨s, hs, K + L, fun n hn => by show (g n).bind (f n) = _; rw [hK n (by omega)]; exact hL n (by omega)⟩
theorem W.ite {α : Type} {c : Prop} {inst : Decidable c} {g f : Nat → Option α} {P : α → Prop} (h : c → W g P) (k : ¬ c → W f P) : W (fun n => @_root_.ite _ c inst (g n) (f n)) P := by
  by_cases hc : c
  · simp only [if_pos hc]; exact h hc
  · simp only [if_neg hc]; exact k hc
theorem W.pos {α : Type} {c : Prop} {inst : Decidable c} {g f : Nat → Option α} {P : α → Prop} (hc : c) (h : W g P) : W (fun n => @_root_.ite _ c inst (g n) (f n)) P := by
  simp only [if_pos hc]; exact h
theorem W.neg {α : Type} {c : Prop} {inst : Decidable c} {g f : Nat → Option α} {P : α → Prop} (hc : ¬ c) (h : W f P) : W (fun n => @_root_.ite _ c inst (g n) (f n)) P := by
  simp only [if_neg hc]; exact h
theorem W.dec {α : Type} {c : Prop} [ic : Decidable c] {inst : Decidable (decide c = true)} {g f : Nat → Option α} {P : α → Prop} (h : c → W g P) (k : ¬ c → W f P) : W (fun n => @_root_.ite _ (decide c = true) inst (g n) (f n)) P :=
  W.ite (fun hc => h (of_decide_eq_true hc)) (fun hc => k (fun hp => hc (decide_eq_true hp)))
theorem W.dpos {α : Type} {c : Prop} [ic : Decidable c] {inst : Decidable (decide c = true)} {g f : Nat → Option α} {P : α → Prop} (hc : c) (h : W g P) : W (fun n => @_root_.ite _ (decide c = true) inst (g n) (f n)) P :=
  W.pos (decide_eq_true hc) h
theorem W.dneg {α : Type} {c : Prop} [ic : Decidable c] {inst : Decidable (decide c = true)} {g f : Nat → Option α} {P : α → Prop} (hc : ¬ c) (h : W f P) : W (fun n => @_root_.ite _ (decide c = true) inst (g n) (f n)) P :=
  W.neg (fun hp => hc (of_decide_eq_true hp)) h
theorem ndt {p : Prop} [Decidable p] (h : p) : (!decide p) = false := by rw [decide_eq_true h]; rfl
theorem ndf {p : Prop} [Decidable p] (h : ¬ p) : (!decide p) = true := by rw [decide_eq_false h]; rfl
theorem W.step {α : Type} {g f : Nat → Option α} {P : α → Prop} (h : ∀ k, g (k + 1) = f k) (k : W f P) : W g P := by
  obtain ⟨r, hr, K, hK⟩ := k
  refine ⟨r, hr, K + 1, fun n hn => ?_⟩
  obtain ⟨m, rfl⟩ : ∃ m, n = m + 1 := ⟨n - 1, by omega⟩
  rw [h]; exact hK m (by omega)
theorem W.steps (n : Nat) {α : Type} {g f : Nat → Option α} {P : α → Prop} (h : ∀ k, g (k + n) = f k) (k : W f P) : W g P := by
  obtain ⟨r, hr, K, hK⟩ := k
  refine ⟨r, hr, K + n, fun m hm => ?_⟩
  obtain ⟨q, rfl⟩ : ∃ q, m = q + n := ⟨m - n, by omega⟩
  rw [h]; exact hK q (by omega)
theorem W.congr {α : Type} {g f : Nat → Option α} {P : α → Prop} (h : ∀ k, g k = f k) (k : W f P) : W g P := by
  have : g = f := funext h
  rw [this]; exact k
theorem W.mono {α : Type} {g : Nat → Option α} {P Q : α → Prop} (h : W g Q) (k : ∀ r, Q r → P r) : W g P := by
  obtain ⟨r, hr, K⟩ := h
  exact ⟨r, k r hr, K⟩
theorem W.eq {α : Type} {g : Nat → Option α} {r : α} (h : W g (· = r)) : ∃ k, g k = some r := by
  obtain ⟨_, rfl, K, hK⟩ := h
  exact ⟨K, hK K (Nat.le_refl _)⟩
theorem W.one {α : Type} {o : Option α} {r : α} (h : W (fun _ => o) (· = r)) : o = some r := by
  obtain ⟨_, rfl, K, hK⟩ := h
  exact hK K (Nat.le_refl _)
theorem W.elim {α : Type} {o : Option α} {P : α → Prop} (h : W (fun _ => o) P) : ∃ r, o = some r ∧ P r := by
  obtain ⟨r, hr, K, hK⟩ := h
  exact ⟨r, hK K (Nat.le_refl _), hr⟩
/-! ### loops over lists -/
/-- What holds at the end holds at the begin, if it is handed back from place to place. -/
theorem down_ind {Q : Nat → Prop} (n : Nat) (hn : Q n) (hs : ∀ i, i < n → Q (i + 1) → Q i) : Q 0 := by
  have h : ∀ d i, i ≤ n → n - i = d → Q i := by
    intro d
    induction d with
    | zero => intro i h1 h2; obtain rfl : i = n := by omega
              exact hn
    | succ d ih => intro i h1 h2; exact hs i (by omega) (ih (i + 1) (by omega) (by omega))
  exact h n 0 (by omega) rfl
/-- The place of the first of a list that is as p says, counted from i; -1 when there is none. -/
def place {α : Type} (p : α → Bool) : List α → Int → Int
  | [], _ => -1
  | x :: xs, i => if p x = true then i else place p xs (i + 1)
theorem place_nil {α : Type} {p : α → Bool} {l : List α} {i : Nat} {k : Int} (h : l.length ≤ i) : place p (l.drop i) k = -1 := by
  rw [List.drop_eq_nil_of_le h]; rfl
theorem place_cons {α : Type} {p : α → Bool} {l : List α} {i : Nat} {k : Int} (h : i < l.length) : place p (l.drop i) k = if p l[i] = true then k else place p (l.drop (i + 1)) (k + 1) := by
  rw [List.drop_eq_getElem_cons h]; rfl
theorem place_bound {α : Type} {p : α → Bool} : ∀ (l : List α) (i : Int), place p l i = -1 ∨ (i ≤ place p l i ∧ place p l i < i + l.length ∧ ∃ (j : Nat) (h : j < l.length), place p l i = i + j ∧ p l[j] = true)
  | [], i => .inl rfl
  | x :: xs, i => by
    unfold place
    split
    · rename_i h; exact .inr ⟨by omega, by simp; omega, 0, by simp, by omega, h⟩
    · rcases place_bound xs (i + 1) with h | ⟨h1, h2, j, hj, h3, h4⟩
      · exact .inl h
      · exact .inr ⟨by omega, by simp; omega, j + 1, by simp; omega, by rw [h3]; push_cast; omega, by simpa using h4⟩
/-- A list taken over, element by element. -/
theorem copyL {α β : Type} (f : α → β) (xs : List α) {g : Nat → List β → Int → Option (List β)} {z : β}
    (hend : ∀ ys : List β, ys.length = xs.length → W (fun k => g k ys (xs.length : Int)) (· = ys))
    (hstep : ∀ (i : Nat) (h : i < xs.length) (ys : List β), ys.length = xs.length → ∀ P : List β → Prop, W (fun k => g k (ys.set i (f xs[i])) ((i + 1 : Nat) : Int)) P → W (fun k => g k ys (i : Int)) P) :
    W (fun k => g k (List.replicate xs.length z) 0) (· = xs.map f) := by
  have h : ∀ ys : List β, ys.length = xs.length → ys.take 0 = (xs.map f).take 0 → W (fun k => g k ys ((0 : Nat) : Int)) (· = xs.map f) := by
    refine down_ind (Q := fun i => ∀ ys : List β, ys.length = xs.length → ys.take i = (xs.map f).take i → W (fun k => g k ys (i : Int)) (· = xs.map f)) xs.length ?_ ?_
    · intro ys hl ht
      refine (hend ys hl).mono fun r hr => ?_
      rw [hr, ← List.take_length (l := ys), hl, ht, show xs.length = (xs.map f).length by simp, List.take_length]
    · intro i hi ih ys hl ht
      refine hstep i hi ys hl _ (ih _ (by simp [hl]) ?_)
      have h1 : i < (ys.set i (f xs[i])).length := by simp [hl, hi]
      have h2 : i < (xs.map f).length := by simpa using hi
      rw [List.take_succ_eq_append_getElem h1, List.take_succ_eq_append_getElem h2, List.getElem_set_self, List.take_set_of_le (by omega), ht, List.getElem_map]
  exact h _ (by simp) rfl
end Go.Proofs.YtnbpgnkplahknaaDoor.Lib
