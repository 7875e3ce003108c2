/- Chapter 15: what the reference's words are as sums. -/
import Derived.Test.YtallojficgiemaaF21
import Derived.Test.YtallojficgiemaaWord
set_option linter.unusedVariables false
set_option linter.unusedSimpArgs false
namespace Go.Proofs.Ytallojficgiemaa.W
open Go Go.RowKit Go.Proofs.Ytallojficgiemaa.B

theorem putL (v : Int) : ∀ (n k : Nat) (w : Int), 0 ≤ w → w < 4294967296 → n ≤ 60 → n + 1 ≤ k → selvageref15_word_put.l0 v k (w, (n : Int) - 1) = some ((w * 2 ^ n + v % 2 ^ n) % 4294967296) := by
  intro n
  induction n with
  | zero =>
    intro k w h0 h1 _ hk
    obtain ⟨k, rfl⟩ : ∃ k', k = k' + 1 := ⟨k - 1, by omega⟩
    rw [selvageref15_word_put.l0]
    simp
    omega
  | succ n ih =>
    intro k w h0 h1 hn hk
    obtain ⟨k, rfl⟩ : ∃ k', k = k' + 1 := ⟨k - 1, by omega⟩
    rw [selvageref15_word_put.l0]
    have hc : ((n + 1 : Nat) : Int) - 1 = n := by omega
    simp only [hc]
    rw [if_pos (by simp)]
    have h2 : wrap64 ((n : Int) - 1) = (n : Int) - 1 := by unfold wrap64; omega
    have h3 : min ((n : Int) % 18446744073709551616).toNat 64 = n := by omega
    rw [h2, h3, bit0]
    have hb0 := Int.emod_nonneg (v / 2 ^ n) (show (2 : Int) ≠ 0 by decide)
    have hb1 := Int.emod_lt_of_pos (v / 2 ^ n) (show (0 : Int) < 2 by decide)
    generalize hb : v / 2 ^ n % 2 = b at hb0 hb1
    have h4 : (w * 2 % 4294967296 + b % 4294967296) % 4294967296 = (w * 2 + b) % 4294967296 := by omega
    rw [h4, ih k _ (Int.emod_nonneg _ (by decide)) (Int.emod_lt_of_pos _ (by decide)) (by omega) (by omega)]
    congr 1
    have hv : v % 2 ^ (n + 1) = b * 2 ^ n + v % 2 ^ n := by
      have hp : (0 : Int) < 2 ^ n := Int.pow_pos (by decide)
      have e1 := Int.mul_ediv_add_emod v (2 ^ n)
      have e2 := Int.mul_ediv_add_emod (v / 2 ^ n) 2
      rw [hb] at e2
      have e3 : v = (v / 2 ^ n / 2) * 2 ^ (n + 1) + (b * 2 ^ n + v % 2 ^ n) := by
        have h6 : (v / 2 ^ n / 2) * 2 ^ (n + 1) = 2 ^ n * (2 * (v / 2 ^ n / 2)) := by
          rw [Int.pow_succ, Int.mul_comm, Int.mul_assoc]
        have h5 : 2 ^ n * (v / 2 ^ n) = 2 ^ n * (2 * (v / 2 ^ n / 2)) + b * 2 ^ n := by
          rw [Int.mul_comm b, ← Int.mul_add, e2]
        omega
      have hr0 := Int.emod_nonneg v (show (2 : Int) ^ n ≠ 0 by omega)
      have hr1 := Int.emod_lt_of_pos v hp
      have hlt : b * 2 ^ n + v % 2 ^ n < 2 ^ (n + 1) := by
        rw [Int.pow_succ]
        rcases (by omega : b = 0 ∨ b = 1) with rfl | rfl <;> omega
      have hge : 0 ≤ b * 2 ^ n + v % 2 ^ n := by
        rcases (by omega : b = 0 ∨ b = 1) with rfl | rfl <;> omega
      conv => lhs; rw [e3]
      rw [Int.add_comm, Int.add_mul_emod_self_right]
      exact Int.emod_eq_of_lt hge hlt
    rw [hv]
    have h7 : (w * 2 + b) % 4294967296 = w * 2 + b - 4294967296 * ((w * 2 + b) / 4294967296) := by
      have := Int.mul_ediv_add_emod (w * 2 + b) 4294967296
      omega
    rw [h7]
    generalize (w * 2 + b) / 4294967296 = q
    have h8 : (w * 2 + b - 4294967296 * q) * 2 ^ n + v % 2 ^ n = (w * 2 ^ (n + 1) + (b * 2 ^ n + v % 2 ^ n)) + 4294967296 * (-(q * 2 ^ n)) := by
      rw [Int.pow_succ, Int.sub_mul, Int.add_mul, Int.mul_neg, Int.mul_assoc w, Int.mul_comm 2 (2 ^ n), Int.mul_assoc 4294967296]
      omega
    rw [h8, Int.add_mul_emod_self_left]

theorem put_m (n : Nat) (hn : n ≤ 60) (w : selvageref15_word) (v : Int) (h0 : 0 ≤ w.w) (h1 : w.w < 4294967296) :
    selvageref15_word_put.m 100 w v n = some ⟨(w.w * 2 ^ n + v % 2 ^ n) % 4294967296, wrap64 (w.bits + n)⟩ := by
  unfold selvageref15_word_put.m
  have h2 : wrap64 ((n : Int) - 1) = (n : Int) - 1 := by unfold wrap64; omega
  rw [h2, putL v n 100 w.w h0 h1 hn (by omega)]
  rfl
end Go.Proofs.Ytallojficgiemaa.W
