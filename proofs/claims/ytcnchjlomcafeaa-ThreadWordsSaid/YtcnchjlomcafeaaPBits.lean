/- Plain lemmas on masks of 64 bits. -/
import Derived.Test.YtcnchjlomcafeaaPlain
import Derived.Laws.BitsAllLaws
set_option linter.unusedVariables false
set_option linter.unusedSimpArgs false
namespace Go.Proofs.Ytcnchjlomcafeaa.B
open Go Go.RowKit
/-- A number of 64 bits. -/
def W64 (a : Int) : Prop := 0 ≤ a ∧ a < 18446744073709551616
/-- Is a bit of it 1? -/
def bt (a : Int) (k : Nat) : Bool := a.toNat.testBit k
theorem or_W {a b : Int} (ha : W64 a) (hb : W64 b) : W64 (bits .or .u64 a b) := by
  rw [u64_or a b ha.1 ha.2 hb.1 hb.2]
  have : a.toNat ||| b.toNat < 2 ^ 64 := Nat.or_lt_two_pow (by have := ha.1; have := ha.2; omega) (by have := hb.1; have := hb.2; omega)
  exact ⟨by omega, by omega⟩
theorem bt_or {a b : Int} (ha : W64 a) (hb : W64 b) (k : Nat) : bt (bits .or .u64 a b) k = (bt a k || bt b k) := by
  rw [u64_or a b ha.1 ha.2 hb.1 hb.2]
  simp [bt]
theorem W_zero : W64 0 := ⟨by decide, by decide⟩
theorem bt_zero (k : Nat) : bt 0 k = false := by simp [bt]
/-- The bit of a place. -/
def b1 (i : Int) : Int := (1 * 2 ^ (min (i % 18446744073709551616).toNat 64)) % 18446744073709551616
theorem b1_eq {i : Nat} (h : i < 64) : b1 (i : Int) = ((2 ^ i : Nat) : Int) := by
  unfold b1
  have h1 : min (((i : Int)) % 18446744073709551616).toNat 64 = i := by omega
  have h2 : 2 ^ i < 2 ^ 64 := Nat.pow_lt_pow_right (by decide) h
  rw [h1, Int.one_mul]
  have h3 : ((2 : Int) ^ i) = ((2 ^ i : Nat) : Int) := by simp
  rw [h3]
  generalize 2 ^ i = m at h2 ⊢
  omega
theorem b1_W (i : Int) : W64 (b1 i) := by unfold b1; exact ⟨by omega, by omega⟩
theorem bt_b1 {i : Nat} (h : i < 64) (k : Nat) : bt (b1 (i : Int)) k = decide (i = k) := by
  rw [b1_eq h]; simp only [bt, Int.toNat_natCast, Nat.testBit_two_pow]
end Go.Proofs.Ytcnchjlomcafeaa.B
