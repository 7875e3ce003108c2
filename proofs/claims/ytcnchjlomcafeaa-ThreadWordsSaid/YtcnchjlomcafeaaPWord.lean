/- Words: bits of numbers as sums. -/
import Derived.Test.YtcnchjlomcafeaaPlain
import Derived.Laws.BitsLemmas
set_option linter.unusedVariables false
set_option linter.unusedSimpArgs false
namespace Go.Proofs.Ytcnchjlomcafeaa.B
open Go Go.RowKit

theorem wraps_u32 (n : Int) (h₀ : 0 ≤ n) (h₁ : n < 2 ^ 32) : IntKind.u32.wrap n = n := by rw [IntKind.wrap_u32]; omega
theorem u32_nat (a b : Nat) (ha : a < 2 ^ 32) (hb : b < 2 ^ 32) : bits .and .u32 a b = ((a &&& b : Nat) : Int) ∧ bits .or .u32 a b = ((a ||| b : Nat) : Int) :=
  bits_nat .u32 32 (by decide) wraps_u32 a b ha hb
theorem u32_xor (a b : Nat) (ha : a < 2 ^ 32) (hb : b < 2 ^ 32) : bits .xor .u32 a b = ((a ^^^ b : Nat) : Int) := by
  have ha' : a % 2 ^ IntKind.u32.bits = a := Nat.mod_eq_of_lt ha
  have hb' : b % 2 ^ IntKind.u32.bits = b := Nat.mod_eq_of_lt hb
  simp only [bits, BitVec.ofInt_natCast, BitVec.toNat_xor, BitVec.toNat_ofNat, ha', hb']
  have := Nat.xor_lt_two_pow ha hb
  exact wraps_u32 _ (Int.natCast_nonneg _) (by exact_mod_cast this)
/-- A cut out of the middle. -/
theorem and_cut (i n : Nat) (h : i + n ≤ 32) (x : Int) (h0 : 0 ≤ x) (h1 : x < 4294967296) (m : Int) (hm : m = ((2 ^ n - 1) * 2 ^ i : Nat)) : bits .and .u32 x m = x / 2 ^ i % 2 ^ n * 2 ^ i := by
  obtain ⟨a, rfl⟩ := Int.eq_ofNat_of_zero_le h0
  subst hm
  have hp : 0 < 2 ^ n := Nat.two_pow_pos n
  have hmask : (2 ^ n - 1) * 2 ^ i < 2 ^ 32 := by
    have h2 : 2 ^ n * 2 ^ i ≤ 2 ^ 32 := by rw [← Nat.pow_add]; exact Nat.pow_le_pow_right (by decide) (by omega)
    have h3 : (2 ^ n - 1) * 2 ^ i < 2 ^ n * 2 ^ i := Nat.mul_lt_mul_of_pos_right (by omega) (Nat.two_pow_pos i)
    omega
  rw [(u32_nat a _ (by omega) hmask).1]
  have e1 : (a &&& ((2 ^ n - 1) * 2 ^ i)) / 2 ^ i = a / 2 ^ i % 2 ^ n := by
    rw [← Nat.shiftRight_eq_div_pow, Nat.shiftRight_and_distrib, Nat.shiftRight_eq_div_pow, Nat.shiftRight_eq_div_pow, Nat.mul_div_cancel _ (Nat.two_pow_pos i), Nat.and_two_pow_sub_one_eq_mod]
  have e2 : (a &&& ((2 ^ n - 1) * 2 ^ i)) % 2 ^ i = 0 := by
    rw [Nat.and_mod_two_pow, Nat.mul_mod_left, Nat.and_zero]
  have e3 := Nat.div_add_mod (a &&& ((2 ^ n - 1) * 2 ^ i)) (2 ^ i)
  rw [e1, e2, Nat.add_zero, Nat.mul_comm] at e3
  rw [← e3]
  simp
/-- What has no bit in common. -/
theorem or_sum (i : Nat) (hi : i ≤ 26) (X Y : Int) (hX : 0 ≤ X) (hX1 : X < 4294967296) (hY : 0 ≤ Y) (hY1 : Y < 67108864) (l r : Nat) (hl : X % 67108864 = l) (hl1 : l < 2 ^ i) (hr : Y % 2 ^ i = r) (hlr : l ||| r = l + r) :
    bits .or .u32 X Y = X + Y := by
  obtain ⟨a, rfl⟩ := Int.eq_ofNat_of_zero_le hX
  obtain ⟨b, rfl⟩ := Int.eq_ofNat_of_zero_le hY
  rw [(u32_nat a b (by omega) (by omega)).2]
  have hl' : a % 2 ^ 26 = l := by omega
  have hr' : b % 2 ^ i = r := by exact_mod_cast hr
  have ha := Nat.div_add_mod a (2 ^ 26)
  have hb := Nat.div_add_mod b (2 ^ i)
  rw [hl'] at ha
  rw [hr'] at hb
  have hri : r < 2 ^ i := by rw [← hr']; exact Nat.mod_lt _ (Nat.two_pow_pos i)
  have hl26 : l < 2 ^ 26 := by omega
  have hb26 : b < 2 ^ 26 := by omega
  have e1 : a = 2 ^ 26 * (a / 2 ^ 26) ||| l := by rw [← Nat.two_pow_add_eq_or_of_lt hl26, ha]
  have e2 : b = 2 ^ i * (b / 2 ^ i) ||| r := by rw [← Nat.two_pow_add_eq_or_of_lt hri, hb]
  have hlr2 : l + r < 2 ^ i := by rw [← hlr]; exact Nat.or_lt_two_pow hl1 hri
  have e3 : a ||| b = 2 ^ 26 * (a / 2 ^ 26) ||| (2 ^ i * (b / 2 ^ i) ||| (l + r)) := by
    rw [← hlr]
    conv => lhs; rw [e1, e2]
    rw [Nat.or_assoc, ← Nat.or_assoc l, Nat.or_comm l (2 ^ i * _), Nat.or_assoc]
  have e4 : 2 ^ i * (b / 2 ^ i) ||| (l + r) = b + l := by
    rw [← Nat.two_pow_add_eq_or_of_lt hlr2]; omega
  have hbl : b + l < 2 ^ 26 := by
    have h1 : 2 ^ i * (b / 2 ^ i) < 2 ^ 26 := by omega
    rw [← e4]
    exact Nat.or_lt_two_pow h1 (Nat.lt_of_lt_of_le hlr2 (Nat.pow_le_pow_right (by decide) hi))
  rw [e3, e4, ← Nat.two_pow_add_eq_or_of_lt hbl]
  have : 2 ^ 26 * (a / 2 ^ 26) + (b + l) = a + b := by omega
  rw [this]
  simp
theorem or_at (i : Nat) (hi : i ≤ 32) (X Y : Int) (hX : 0 ≤ X) (hX1 : X < 4294967296) (hY : 0 ≤ Y) (hY1 : Y < 2 ^ i) (hl : X % 2 ^ i = 0) : bits .or .u32 X Y = X + Y := by
  refine bits_join .u32 32 (by decide) wraps_u32 i X Y hX hl (by omega) hY hY1 ?_
  have : (2 : Int) ^ i ≤ 2 ^ 32 := by
    have := Nat.pow_le_pow_right (n := 2) (by decide) hi
    exact_mod_cast this
  omega
theorem xor_top (x y : Int) (hx : 0 ≤ x) (hx1 : x < 4294967296) (hy : 0 ≤ y) (hy1 : y < 4294967296) : (bits .xor .u32 x y / 67108864 = 0) ↔ x / 67108864 = y / 67108864 := by
  obtain ⟨a, rfl⟩ := Int.eq_ofNat_of_zero_le hx
  obtain ⟨b, rfl⟩ := Int.eq_ofNat_of_zero_le hy
  rw [u32_xor a b (by omega) (by omega)]
  have e1 : (a ^^^ b) / 67108864 = a / 67108864 ^^^ b / 67108864 := by
    have := Nat.shiftRight_xor_distrib (a := a) (b := b) (i := 26)
    simpa [Nat.shiftRight_eq_div_pow] using this
  have e2 : (a ^^^ b) / 67108864 = 0 ↔ a / 67108864 = b / 67108864 := by
    rw [e1]
    constructor
    · intro h
      apply Nat.eq_of_testBit_eq
      intro j
      have h1 : (a / 67108864 ^^^ b / 67108864).testBit j = false := by rw [h]; simp
      rw [Nat.testBit_xor] at h1
      cases h2 : (a / 67108864).testBit j <;> cases h3 : (b / 67108864).testBit j <;> simp [h2, h3] at h1 ⊢
    · intro h; rw [h, Nat.xor_self]
  constructor
  · intro h
    have h1 : (a ^^^ b) / 67108864 = 0 := by omega
    have h2 := e2.1 h1
    omega
  · intro h
    have h1 : a / 67108864 = b / 67108864 := by omega
    have h2 := e2.2 h1
    omega
/-- The last bit of any number. -/
theorem bit0 (x : Int) : bits .and .i64 x 1 = x % 2 := by
  simp only [bits, BitVec.toNat_and, BitVec.toNat_ofInt]
  have h1 : ((1 : Int) % ((2 ^ IntKind.i64.bits : Nat) : Int)).toNat = 1 := by decide
  rw [h1, Nat.and_one_is_mod]
  have h2 : (((x % ((2 ^ IntKind.i64.bits : Nat) : Int)).toNat % 2 : Nat) : Int) = x % 2 := by
    show (((x % ((2 ^ 64 : Nat) : Int)).toNat % 2 : Nat) : Int) = x % 2
    omega
  rw [h2, IntKind.wrap_i64]
  omega
end Go.Proofs.Ytcnchjlomcafeaa.B
