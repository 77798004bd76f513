/- Plain lemmas on numbers, without the program: bits, greatest common divisors, stretches and corners, remainders, and 'W' (it answers, given enough rounds). -/
import Derived.Laws.BitsAllLaws
import Derived.WalkKit
namespace Go.Proofs.Ythbkakcchgnhpaa.Lib
open Go Go.RowKit
theorem wrap64_id {n : Int} (h0 : -9223372036854775808 ≤ n) (h1 : n ≤ 9223372036854775807) : wrap64 n = n := by
  unfold wrap64; omega
theorem u8_wf {a : Int} (h : (Lit.int .u8 a).wf = true) : 0 ≤ a ∧ a ≤ 255 := by
  simp [Lit.wf, show IntKind.u8.min = 0 from rfl, show IntKind.u8.max = 255 from rfl] at h
  omega
theorem bmod_small (a : Int) (m : Nat) (h0 : -(m : Int) ≤ a * 2) (h1 : a * 2 < m) : a.bmod m = a := by
  rw [Int.bmod_def]
  by_cases h : 0 ≤ a
  · have : a % (m : Int) = a := Int.emod_eq_of_lt h (by omega)
    rw [this]; split <;> omega
  · have : a % (m : Int) = a + m := by
      rw [← Int.add_emod_right]
      exact Int.emod_eq_of_lt (by omega) (by omega)
    rw [this]; split <;> omega
def s32 (n : Nat) : Int := if n < 2147483648 then (n : Int) else (n : Int) - 4294967296
def u32 (a : Int) : Nat := (a % 4294967296).toNat
theorem u32_lt (a : Int) : u32 a < 4294967296 := by unfold u32; omega
theorem wrap64_bv (X : BitVec 64) : IntKind.i64.wrap (X.toNat : Int) = X.toInt := by
  rw [BitVec.toInt_eq_toNat_cond]
  have := X.isLt
  simp [IntKind.wrap, IntKind.bits, IntKind.signed]
  omega
theorem ofInt64 (a : Int) (h0 : -2147483648 ≤ a) (h1 : a ≤ 2147483647) : BitVec.ofInt 64 a = (BitVec.ofInt 32 a).signExtend 64 := by
  apply BitVec.eq_of_toInt_eq
  rw [BitVec.toInt_signExtend_of_le (by decide), BitVec.toInt_ofInt, BitVec.toInt_ofInt, bmod_small a _ (by omega) (by omega), bmod_small a _ (by omega) (by omega)]
theorem toInt32 (X : BitVec 32) : X.toInt = s32 X.toNat := by
  rw [BitVec.toInt_eq_toNat_cond]; unfold s32
  have := X.isLt
  split <;> split <;> omega
theorem toNat32 (a : Int) : (BitVec.ofInt 32 a).toNat = u32 a := by
  rw [BitVec.toNat_ofInt]; rfl
theorem bits_and {a b : Int} (h0 : -2147483648 ≤ a) (h1 : a ≤ 2147483647) (h2 : -2147483648 ≤ b) (h3 : b ≤ 2147483647) : Go.bits .and .i64 a b = s32 (u32 a &&& u32 b) := by
  show IntKind.i64.wrap ((BitVec.ofInt 64 a &&& BitVec.ofInt 64 b).toNat : Int) = _
  rw [wrap64_bv, ofInt64 a h0 h1, ofInt64 b h2 h3, ← BitVec.signExtend_and, BitVec.toInt_signExtend_of_le (by decide), toInt32, BitVec.toNat_and, toNat32, toNat32]
theorem bits_or {a b : Int} (h0 : -2147483648 ≤ a) (h1 : a ≤ 2147483647) (h2 : -2147483648 ≤ b) (h3 : b ≤ 2147483647) : Go.bits .or .i64 a b = s32 (u32 a ||| u32 b) := by
  show IntKind.i64.wrap ((BitVec.ofInt 64 a ||| BitVec.ofInt 64 b).toNat : Int) = _
  rw [wrap64_bv, ofInt64 a h0 h1, ofInt64 b h2 h3, ← BitVec.signExtend_or, BitVec.toInt_signExtend_of_le (by decide), toInt32, BitVec.toNat_or, toNat32, toNat32]
theorem bits_xor {a b : Int} (h0 : -2147483648 ≤ a) (h1 : a ≤ 2147483647) (h2 : -2147483648 ≤ b) (h3 : b ≤ 2147483647) : Go.bits .xor .i64 a b = s32 (u32 a ^^^ u32 b) := by
  show IntKind.i64.wrap ((BitVec.ofInt 64 a ^^^ BitVec.ofInt 64 b).toNat : Int) = _
  rw [wrap64_bv, ofInt64 a h0 h1, ofInt64 b h2 h3, ← BitVec.signExtend_xor, BitVec.toInt_signExtend_of_le (by decide), toInt32, BitVec.toNat_xor, toNat32, toNat32]
theorem mod_succ (X i : Nat) : X % 2 ^ (i + 1) = X % 2 ^ i + 2 ^ i * (X / 2 ^ i % 2) := by
  rw [Nat.pow_succ, Nat.mod_mul]
theorem and_lt {A B : Nat} (h : A < 4294967296) : A &&& B < 4294967296 := Nat.lt_of_le_of_lt Nat.and_le_left h
theorem or_lt {A B : Nat} (h : A < 4294967296) (h2 : B < 4294967296) : A ||| B < 4294967296 := Nat.or_lt_two_pow (n := 32) h h2
theorem xor_lt {A B : Nat} (h : A < 4294967296) (h2 : B < 4294967296) : A ^^^ B < 4294967296 := Nat.xor_lt_two_pow (n := 32) h h2
theorem s32_ok {n : Nat} (h : n < 4294967296) : -2147483648 ≤ s32 n ∧ s32 n ≤ 2147483647 := by unfold s32; split <;> omega
theorem bezout (a : Nat) : ∀ b : Nat, ∃ u v : Int, (a : Int) * u + (b : Int) * v = (Nat.gcd a b : Nat) := by
  induction a using Nat.strongRecOn with
  | _ a ih =>
    intro b
    by_cases h : a = 0
    · subst h; exact ⟨0, 1, by simp⟩
    · obtain ⟨u, v, e⟩ := ih (b % a) (Nat.mod_lt _ (by omega)) a
      rw [Nat.gcd_rec, ← e]
      have hd : (b : Int) = a * ((b / a : Nat) : Int) + ((b % a : Nat) : Int) := by
        have := Nat.div_add_mod b a
        omega
      refine ⟨v - ((b / a : Nat) : Int) * u, u, ?_⟩
      rw [Int.mul_sub, ← Int.mul_assoc]
      have : (b : Int) * u = (a : Int) * ((b / a : Nat) : Int) * u + ((b % a : Nat) : Int) * u := by
        rw [← Int.add_mul, ← hd]
      rw [this]
      omega
theorem meets {a b : Nat} (hb : 0 < b) {x y : Int} (h : ((Nat.gcd a b : Nat) : Int) ∣ y - x) : ∃ k : Nat, k < b / Nat.gcd a b ∧ (x + (a : Int) * k) % b = y % b := by
  obtain ⟨u, v, e⟩ := bezout a b
  have hg : 0 < Nat.gcd a b := Nat.gcd_pos_of_pos_right a hb
  obtain ⟨q, hq⟩ := h
  have hB : 0 < b / Nat.gcd a b := Nat.div_pos (Nat.le_of_dvd hb (Nat.gcd_dvd_right a b)) hg
  obtain ⟨B, hB1⟩ : ∃ B, B = b / Nat.gcd a b := ⟨_, rfl⟩
  have hbB : b = Nat.gcd a b * B := by rw [hB1, Nat.mul_div_cancel' (Nat.gcd_dvd_right a b)]
  obtain ⟨A, hA⟩ := Nat.gcd_dvd_left a b
  rw [← hB1] at hB ⊢
  refine ⟨((u * q) % B).toNat, ?_, ?_⟩
  · have := Int.emod_lt_of_pos (u * q) (show (0 : Int) < B by omega)
    have := Int.emod_nonneg (u * q) (show (B : Int) ≠ 0 by omega)
    omega
  · have h0 := Int.emod_nonneg (u * q) (show (B : Int) ≠ 0 by omega)
    rw [Int.toNat_of_nonneg h0]
    apply Int.emod_emod_of_dvd _ (Int.dvd_refl _) |>.symm.trans
    rw [Int.emod_emod_of_dvd _ (Int.dvd_refl _)]
    apply (Int.emod_emod_of_dvd _ (Int.dvd_refl _)).symm.trans
    rw [Int.emod_emod_of_dvd _ (Int.dvd_refl _)]
    apply Int.emod_eq_emod_iff_emod_sub_eq_zero.mpr
    apply Int.emod_eq_zero_of_dvd
    -- x + a * (uq mod B) - y = a * (uq - B * t) - g q
    have hm : (u * q) % B = u * q - B * ((u * q) / B) := by have := Int.mul_ediv_add_emod (u * q) B; omega
    rw [hm]
    have e1 : x + (a : Int) * (u * q - B * (u * q / B)) - y = (a : Int) * u * q - (a : Int) * B * (u * q / B) - (Nat.gcd a b : Nat) * q := by
      rw [Int.mul_sub, ← Int.mul_assoc, ← Int.mul_assoc, ← hq]; omega
    have e2 : (a : Int) * u = (Nat.gcd a b : Nat) - (b : Int) * v := by omega
    have e3 : (a : Int) * B = (b : Int) * A := by
      have : a * B = b * A := by
        rw [show a * B = Nat.gcd a b * A * B by rw [← hA], show b * A = Nat.gcd a b * B * A by rw [← hbB]]
        rw [Nat.mul_assoc, Nat.mul_assoc, Nat.mul_comm A B]
      exact_mod_cast this
    rw [e1, e2, e3]
    refine ⟨-(v * q) - A * (u * q / B), ?_⟩
    rw [Int.sub_mul, Int.mul_sub, Int.mul_neg, ← Int.mul_assoc, ← Int.mul_assoc]
    omega
def Way (f : Int → Int) (l h : Int) : Prop := (∀ x y, l ≤ x → x ≤ y → y ≤ h → f x ≤ f y) ∨ (∀ x y, l ≤ x → x ≤ y → y ≤ h → f y ≤ f x)
theorem Way.between {f : Int → Int} {l h : Int} (w : Way f l h) {x m M : Int} (h0 : l ≤ x) (h1 : x ≤ h) (a : m ≤ f l) (b : m ≤ f h) (c : f l ≤ M) (d : f h ≤ M) : m ≤ f x ∧ f x ≤ M := by
  rcases w with w | w
  · have := w l x (Int.le_refl _) h0 h1; have := w x h h0 h1 (Int.le_refl _); omega
  · have := w l x (Int.le_refl _) h0 h1; have := w x h h0 h1 (Int.le_refl _); omega
theorem corners {E : Int → Int → Int} {al ah bl bh m M : Int} (hx : ∀ y, bl ≤ y → y ≤ bh → Way (fun x => E x y) al ah) (hy : ∀ x, al ≤ x → x ≤ ah → Way (fun y => E x y) bl bh)
    (m1 : m ≤ E al bl) (m2 : m ≤ E al bh) (m3 : m ≤ E ah bl) (m4 : m ≤ E ah bh) (M1 : E al bl ≤ M) (M2 : E al bh ≤ M) (M3 : E ah bl ≤ M) (M4 : E ah bh ≤ M)
    {x y : Int} (x0 : al ≤ x) (x1 : x ≤ ah) (y0 : bl ≤ y) (y1 : y ≤ bh) : m ≤ E x y ∧ E x y ≤ M := by
  have p := (hy al (Int.le_refl _) (Int.le_trans x0 x1)).between y0 y1 m1 m2 M1 M2
  have q := (hy ah (Int.le_trans x0 x1) (Int.le_refl _)).between y0 y1 m3 m4 M3 M4
  exact (hx y y0 y1).between (f := fun x => E x y) x0 x1 p.1 q.1 p.2 q.2
theorem pow_mono {a b : Nat} (h : a ≤ b) : (2 : Int) ^ a ≤ 2 ^ b := by
  have := Nat.pow_le_pow_right (n := 2) (by omega) h
  exact_mod_cast this
theorem pow_pos' (a : Nat) : (0 : Int) < 2 ^ a := Int.pow_pos (by omega)
theorem tmod_up {n m : Int} (hm : 0 < m) : (if n.tmod m < 0 then n.tmod m + m else n.tmod m) = n % m := by
  have h0 := Int.emod_nonneg n (show m ≠ 0 by omega)
  have h1 := Int.emod_lt_of_pos n hm
  rw [Int.tmod_eq_emod]
  by_cases h : 0 ≤ n ∨ m ∣ n
  · rw [if_pos h]; rw [if_neg (by omega)]; omega
  · rw [if_neg h]; rw [if_pos (by omega)]; omega
theorem tmod_bounds {n m : Int} (hm : 0 < m) : -m < n.tmod m ∧ n.tmod m < m := by
  have h0 := Int.emod_nonneg n (show m ≠ 0 by omega)
  have h1 := Int.emod_lt_of_pos n hm
  rw [Int.tmod_eq_emod]
  split
  · omega
  · rename_i h
    have : n % m ≠ 0 := fun e => h (.inr (Int.dvd_of_emod_eq_zero e))
    omega
theorem tmod_zero_iff {n m : Int} : n.tmod m = 0 ↔ m ∣ n := ⟨Int.dvd_of_tmod_eq_zero, fun h => Int.tmod_eq_zero_of_dvd h⟩
theorem crt_one {a b L x y : Nat} (hL : L = Nat.lcm a b) (hx : x < L) (hy : y < L) (ha : x % a = y % a) (hb : x % b = y % b) : x = y := by
  have key : ∀ {x y : Nat}, x ≤ y → y < L → x % a = y % a → x % b = y % b → x = y := by
    intro x y hxy hy ha hb
    have h1 : a ∣ y - x := Nat.dvd_of_mod_eq_zero (Nat.sub_mod_eq_zero_of_mod_eq ha.symm)
    have h2 : b ∣ y - x := Nat.dvd_of_mod_eq_zero (Nat.sub_mod_eq_zero_of_mod_eq hb.symm)
    have h3 := Nat.lcm_dvd h1 h2
    rw [← hL] at h3
    rcases Nat.eq_zero_or_pos (y - x) with h | h
    · omega
    · have := Nat.le_of_dvd h h3; omega
  rcases Nat.le_total x y with h | h
  · exact key h hy ha hb
  · exact (key h hx ha.symm hb.symm).symm
def W {α : Type} (g : Nat → Option α) (P : α → Prop) : Prop := ∃ r, P r ∧ ∃ K, ∀ k, K ≤ k → g k = some r
theorem W.ret {α : Type} {P : α → Prop} {r : α} (h : P r) : W (fun _ => some r) P := ⟨r, h, 0, fun _ _ => rfl⟩
theorem W.const {α : Type} {P : α → Prop} {o : Option α} {r : α} (e : o = some r) (h : P r) : W (fun _ => o) P := ⟨r, h, 0, fun _ _ => e⟩
theorem W.bind {α β : Type} {g : Nat → Option α} {f : Nat → α → Option β} {Q : α → Prop} {P : β → Prop} (h : W g Q) (k : ∀ r, Q r → W (fun n => f n r) P) : W (fun n => (g n).bind (f n)) P := by
  obtain ⟨r, hq, K, hK⟩ := h
  obtain ⟨s, hs, L, hL⟩ := k r hq
  exact ⟨s, hs, K + L, fun n hn => by show (g n).bind (f n) = _; rw [hK n (by omega)]; exact hL n (by omega)⟩
theorem W.ite {α : Type} {c : Prop} {inst : Decidable c} {g f : Nat → Option α} {P : α → Prop} (h : c → W g P) (k : ¬ c → W f P) : W (fun n => @_root_.ite _ c inst (g n) (f n)) P := by
  by_cases hc : c
  · simp only [if_pos hc]; exact h hc
  · simp only [if_neg hc]; exact k hc
theorem W.pos {α : Type} {c : Prop} {inst : Decidable c} {g f : Nat → Option α} {P : α → Prop} (hc : c) (h : W g P) : W (fun n => @_root_.ite _ c inst (g n) (f n)) P := by
  simp only [if_pos hc]; exact h
theorem W.neg {α : Type} {c : Prop} {inst : Decidable c} {g f : Nat → Option α} {P : α → Prop} (hc : ¬ c) (h : W f P) : W (fun n => @_root_.ite _ c inst (g n) (f n)) P := by
  simp only [if_neg hc]; exact h
theorem W.dec {α : Type} {c : Prop} [ic : Decidable c] {inst : Decidable (decide c = true)} {g f : Nat → Option α} {P : α → Prop} (h : c → W g P) (k : ¬ c → W f P) : W (fun n => @_root_.ite _ (decide c = true) inst (g n) (f n)) P :=
  W.ite (fun hc => h (of_decide_eq_true hc)) (fun hc => k (fun hp => hc (decide_eq_true hp)))
theorem ndt {p : Prop} [Decidable p] (h : p) : (!decide p) = false := by rw [decide_eq_true h]; rfl
theorem ndf {p : Prop} [Decidable p] (h : ¬ p) : (!decide p) = true := by rw [decide_eq_false h]; rfl
theorem W.step {α : Type} {g f : Nat → Option α} {P : α → Prop} (h : ∀ k, g (k + 1) = f k) (k : W f P) : W g P := by
  obtain ⟨r, hr, K, hK⟩ := k
  refine ⟨r, hr, K + 1, fun n hn => ?_⟩
  obtain ⟨m, rfl⟩ : ∃ m, n = m + 1 := ⟨n - 1, by omega⟩
  rw [h]; exact hK m (by omega)
theorem W.steps (n : Nat) {α : Type} {g f : Nat → Option α} {P : α → Prop} (h : ∀ k, g (k + n) = f k) (k : W f P) : W g P := by
  obtain ⟨r, hr, K, hK⟩ := k
  refine ⟨r, hr, K + n, fun m hm => ?_⟩
  obtain ⟨q, rfl⟩ : ∃ q, m = q + n := ⟨m - n, by omega⟩
  rw [h]; exact hK q (by omega)
theorem W.congr {α : Type} {g f : Nat → Option α} {P : α → Prop} (h : ∀ k, g k = f k) (k : W f P) : W g P := by
  have : g = f := funext h
  rw [this]; exact k
theorem W.mono {α : Type} {g : Nat → Option α} {P Q : α → Prop} (h : W g Q) (k : ∀ r, Q r → P r) : W g P := by
  obtain ⟨r, hr, K⟩ := h
  exact ⟨r, k r hr, K⟩
theorem W.eq {α : Type} {g : Nat → Option α} {r : α} (h : W g (· = r)) : ∃ k, g k = some r := by
  obtain ⟨_, rfl, K, hK⟩ := h
  exact ⟨K, hK K (Nat.le_refl _)⟩
theorem W.one {α : Type} {o : Option α} {r : α} (h : W (fun _ => o) (· = r)) : o = some r := by
  obtain ⟨_, rfl, K, hK⟩ := h
  exact hK K (Nat.le_refl _)
theorem W.elim {α : Type} {o : Option α} {P : α → Prop} (h : W (fun _ => o) P) : ∃ r, o = some r ∧ P r := by
  obtain ⟨r, hr, K, hK⟩ := h
  exact ⟨r, hK K (Nat.le_refl _), hr⟩
def place {α : Type} (p : α → Bool) : List α → Int → Int
  | [], _ => -1
  | x :: xs, i => if p x = true then i else place p xs (i + 1)
end Go.Proofs.Ythbkakcchgnhpaa.Lib
