/- Chapter 15: what the program's encoder answers, for each kind of instruction. -/
import Derived.Test.YtallojficgiemaaPureIsaA
set_option linter.unusedVariables false
set_option linter.unusedSimpArgs false
namespace Go.Proofs.Ytallojficgiemaa.W
open Go Go.RowKit Go.Proofs.Ytallojficgiemaa.B
theorem tm4 (i : Int) : Int.tmod i 4 = 0 ↔ i % 4 = 0 := by rw [← Int.dvd_iff_tmod_eq_zero, Int.dvd_iff_emod_eq_zero]
theorem tm1 (i : Int) : Int.tmod i 1 = 0 := by simp
theorem condB (t : Int) : 0 ≤ isa_cond.m t ∧ isa_cond.m t < 67108864 ∧ isa_cond.m t % 65536 = 0 := by
  unfold isa_cond.m
  repeat' split
  all_goals decide
theorem chk1 (c t a b i : Int) : isa_check.m 1 ⟨c, t, a, b, i⟩ = some (if b ≠ 0 then 3 else if (0 ≤ t ∧ t ≤ 31) ∧ (0 ≤ a ∧ a ≤ 31) ∧ (-32768 ≤ i ∧ i ≤ 32767) then 0 else 2) := by
  have h4 := tm4 i
  simp only [isa_check.m, isa_reg.m, show isa_used.m 1 = (true, true, false, (-32768), 32767, 1) from rfl]
  by_cases hF : b ≠ 0
  · rw [if_pos (by simp <;> omega), if_pos hF]
  · by_cases hR : (0 ≤ t ∧ t ≤ 31) ∧ (0 ≤ a ∧ a ≤ 31) ∧ (-32768 ≤ i ∧ i ≤ 32767)
    · have hT := tm1 i
      rw [if_neg (by simp <;> omega), if_neg (by simp <;> omega), if_neg hF, if_pos hR]
      simp [hT]
    · rw [if_neg (by simp <;> omega), if_pos (by simp <;> omega), if_neg hF, if_neg hR]
      rfl

theorem chk2 (c t a b i : Int) : isa_check.m 2 ⟨c, t, a, b, i⟩ = some (if b ≠ 0 then 3 else if (0 ≤ t ∧ t ≤ 31) ∧ (0 ≤ a ∧ a ≤ 31) ∧ (0 ≤ i ∧ i ≤ 65535) then 0 else 2) := by
  have h4 := tm4 i
  simp only [isa_check.m, isa_reg.m, show isa_used.m 2 = (true, true, false, 0, 65535, 1) from rfl]
  by_cases hF : b ≠ 0
  · rw [if_pos (by simp <;> omega), if_pos hF]
  · by_cases hR : (0 ≤ t ∧ t ≤ 31) ∧ (0 ≤ a ∧ a ≤ 31) ∧ (0 ≤ i ∧ i ≤ 65535)
    · have hT := tm1 i
      rw [if_neg (by simp <;> omega), if_neg (by simp <;> omega), if_neg hF, if_pos hR]
      simp [hT]
    · rw [if_neg (by simp <;> omega), if_pos (by simp <;> omega), if_neg hF, if_neg hR]
      rfl

theorem chk3 (c t a b i : Int) : isa_check.m 3 ⟨c, t, a, b, i⟩ = some (if b ≠ 0 then 3 else if (0 ≤ t ∧ t ≤ 31) ∧ (0 ≤ a ∧ a ≤ 31) ∧ (0 ≤ i ∧ i ≤ 63) then 0 else 2) := by
  have h4 := tm4 i
  simp only [isa_check.m, isa_reg.m, show isa_used.m 3 = (true, true, false, 0, 63, 1) from rfl]
  by_cases hF : b ≠ 0
  · rw [if_pos (by simp <;> omega), if_pos hF]
  · by_cases hR : (0 ≤ t ∧ t ≤ 31) ∧ (0 ≤ a ∧ a ≤ 31) ∧ (0 ≤ i ∧ i ≤ 63)
    · have hT := tm1 i
      rw [if_neg (by simp <;> omega), if_neg (by simp <;> omega), if_neg hF, if_pos hR]
      simp [hT]
    · rw [if_neg (by simp <;> omega), if_pos (by simp <;> omega), if_neg hF, if_neg hR]
      rfl

theorem chk4 (c t a b i : Int) : isa_check.m 4 ⟨c, t, a, b, i⟩ = some (if i ≠ 0 then 3 else if (0 ≤ t ∧ t ≤ 31) ∧ (0 ≤ a ∧ a ≤ 31) ∧ (0 ≤ b ∧ b ≤ 31) then 0 else 2) := by
  have h4 := tm4 i
  simp only [isa_check.m, isa_reg.m, show isa_used.m 4 = (true, true, true, 0, 0, 1) from rfl]
  by_cases hF : i ≠ 0
  · rw [if_pos (by simp <;> omega), if_pos hF]
  · by_cases hR : (0 ≤ t ∧ t ≤ 31) ∧ (0 ≤ a ∧ a ≤ 31) ∧ (0 ≤ b ∧ b ≤ 31)
    · have hT := tm1 i
      rw [if_neg (by simp <;> omega), if_neg (by simp <;> omega), if_neg hF, if_pos hR]
      simp [hT]
    · rw [if_neg (by simp <;> omega), if_pos (by simp <;> omega), if_neg hF, if_neg hR]
      rfl

theorem chk5 (c t a b i : Int) : isa_check.m 5 ⟨c, t, a, b, i⟩ = some (if b ≠ 0 then 3 else if (0 ≤ t ∧ t ≤ 31) ∧ (0 ≤ a ∧ a ≤ 31) ∧ (-32768 ≤ i ∧ i ≤ 32764 ∧ i % 4 = 0) then 0 else 2) := by
  have h4 := tm4 i
  simp only [isa_check.m, isa_reg.m, show isa_used.m 5 = (true, true, false, (-32768), 32764, 4) from rfl]
  by_cases hF : b ≠ 0
  · rw [if_pos (by simp <;> omega), if_pos hF]
  · by_cases hR : (0 ≤ t ∧ t ≤ 31) ∧ (0 ≤ a ∧ a ≤ 31) ∧ (-32768 ≤ i ∧ i ≤ 32764 ∧ i % 4 = 0)
    · have hT := h4.2 (by omega)
      rw [if_neg (by simp <;> omega), if_neg (by simp <;> omega), if_neg hF, if_pos hR]
      simp [hT]
    · by_cases hQ : (0 ≤ t ∧ t ≤ 31) ∧ (0 ≤ a ∧ a ≤ 31) ∧ (-32768 ≤ i ∧ i ≤ 32764)
      · have hT : ¬ i.tmod 4 = 0 := by rw [tm4]; omega
        rw [if_neg (by simp <;> omega), if_neg (by simp <;> omega), if_neg hF, if_neg hR]
        simp [hT]
      · rw [if_neg (by simp <;> omega), if_pos (by simp <;> omega), if_neg hF, if_neg hR]
        rfl

theorem chk6 (c t a b i : Int) : isa_check.m 6 ⟨c, t, a, b, i⟩ = some (if t ≠ 0 ∨ i ≠ 0 then 3 else if (0 ≤ a ∧ a ≤ 31) ∧ (0 ≤ b ∧ b ≤ 31) then 0 else 2) := by
  have h4 := tm4 i
  simp only [isa_check.m, isa_reg.m, show isa_used.m 6 = (false, true, true, 0, 0, 1) from rfl]
  by_cases hF : t ≠ 0 ∨ i ≠ 0
  · rw [if_pos (by simp <;> omega), if_pos hF]
  · by_cases hR : (0 ≤ a ∧ a ≤ 31) ∧ (0 ≤ b ∧ b ≤ 31)
    · have hT := tm1 i
      rw [if_neg (by simp <;> omega), if_neg (by simp <;> omega), if_neg hF, if_pos hR]
      simp [hT]
    · rw [if_neg (by simp <;> omega), if_pos (by simp <;> omega), if_neg hF, if_neg hR]
      rfl

theorem chk7 (c t a b i : Int) : isa_check.m 7 ⟨c, t, a, b, i⟩ = some (if t ≠ 0 ∨ b ≠ 0 then 3 else if (0 ≤ a ∧ a ≤ 31) ∧ (-32768 ≤ i ∧ i ≤ 32767) then 0 else 2) := by
  have h4 := tm4 i
  simp only [isa_check.m, isa_reg.m, show isa_used.m 7 = (false, true, false, (-32768), 32767, 1) from rfl]
  by_cases hF : t ≠ 0 ∨ b ≠ 0
  · rw [if_pos (by simp <;> omega), if_pos hF]
  · by_cases hR : (0 ≤ a ∧ a ≤ 31) ∧ (-32768 ≤ i ∧ i ≤ 32767)
    · have hT := tm1 i
      rw [if_neg (by simp <;> omega), if_neg (by simp <;> omega), if_neg hF, if_pos hR]
      simp [hT]
    · rw [if_neg (by simp <;> omega), if_pos (by simp <;> omega), if_neg hF, if_neg hR]
      rfl

theorem chk8 (c t a b i : Int) : isa_check.m 8 ⟨c, t, a, b, i⟩ = some (if a ≠ 0 ∨ b ≠ 0 then 3 else if (0 ≤ t ∧ t ≤ 3) ∧ (-32768 ≤ i ∧ i ≤ 32764 ∧ i % 4 = 0) then 0 else 2) := by
  have h4 := tm4 i
  simp only [isa_check.m, isa_reg.m, show isa_used.m 8 = (true, false, false, (-32768), 32764, 4) from rfl]
  by_cases hF : a ≠ 0 ∨ b ≠ 0
  · rw [if_pos (by simp <;> omega), if_pos hF]
  · by_cases hR : (0 ≤ t ∧ t ≤ 3) ∧ (-32768 ≤ i ∧ i ≤ 32764 ∧ i % 4 = 0)
    · have hT := h4.2 (by omega)
      rw [if_neg (by simp <;> omega), if_neg (by simp <;> omega), if_neg hF, if_pos hR]
      simp [hT]
    · by_cases hQ : (0 ≤ t ∧ t ≤ 3) ∧ (-32768 ≤ i ∧ i ≤ 32764)
      · have hT : ¬ i.tmod 4 = 0 := by rw [tm4]; omega
        rw [if_neg (by simp <;> omega), if_neg (by simp <;> omega), if_neg hF, if_neg hR]
        simp [hT]
      · rw [if_neg (by simp <;> omega), if_pos (by simp <;> omega), if_neg hF, if_neg hR]
        rfl

theorem chk9 (c t a b i : Int) : isa_check.m 9 ⟨c, t, a, b, i⟩ = some (if t ≠ 0 ∨ a ≠ 0 ∨ b ≠ 0 then 3 else if (-33554432 ≤ i ∧ i ≤ 33554428 ∧ i % 4 = 0) then 0 else 2) := by
  have h4 := tm4 i
  simp only [isa_check.m, isa_reg.m, show isa_used.m 9 = (false, false, false, (-33554432), 33554428, 4) from rfl]
  by_cases hF : t ≠ 0 ∨ a ≠ 0 ∨ b ≠ 0
  · rw [if_pos (by simp <;> omega), if_pos hF]
  · by_cases hR : (-33554432 ≤ i ∧ i ≤ 33554428 ∧ i % 4 = 0)
    · have hT := h4.2 (by omega)
      rw [if_neg (by simp <;> omega), if_neg (by simp <;> omega), if_neg hF, if_pos hR]
      simp [hT]
    · by_cases hQ : (-33554432 ≤ i ∧ i ≤ 33554428)
      · have hT : ¬ i.tmod 4 = 0 := by rw [tm4]; omega
        rw [if_neg (by simp <;> omega), if_neg (by simp <;> omega), if_neg hF, if_neg hR]
        simp [hT]
      · rw [if_neg (by simp <;> omega), if_pos (by simp <;> omega), if_neg hF, if_neg hR]
        rfl

theorem chk10 (c t a b i : Int) : isa_check.m 10 ⟨c, t, a, b, i⟩ = some (if t ≠ 0 ∨ a ≠ 0 ∨ b ≠ 0 ∨ i ≠ 0 then 3 else if True then 0 else 2) := by
  have h4 := tm4 i
  simp only [isa_check.m, isa_reg.m, show isa_used.m 10 = (false, false, false, 0, 0, 1) from rfl]
  by_cases hF : t ≠ 0 ∨ a ≠ 0 ∨ b ≠ 0 ∨ i ≠ 0
  · rw [if_pos (by simp <;> omega), if_pos hF]
  · by_cases hR : True
    · have hT := tm1 i
      rw [if_neg (by simp <;> omega), if_neg (by simp <;> omega), if_neg hF, if_pos hR]
      simp [hT]
    · exact absurd trivial hR

theorem wl1 (h t a i : Int) (h0 : 0 ≤ h) (h1 : h < 4294967296) (hh : h % 67108864 = 0) (ht : 0 ≤ t ∧ t ≤ 31) (ha : 0 ≤ a ∧ a ≤ 31) : bits .or .u32 h (bits .or .u32 (bits .or .u32 (((t % 4294967296) * 2097152) % 4294967296) (((a % 4294967296) * 65536) % 4294967296)) (bits .and .u32 (i % 4294967296) 65535)) = h + t * 2097152 + a * 65536 + i % 65536 := by
  rw [and_cut 0 16 (by decide) (i % 4294967296) (by omega) (by omega) 65535 (by decide), show ((t % 4294967296) * 2097152) % 4294967296 = t * 2097152 by omega, show ((a % 4294967296) * 65536) % 4294967296 = a * 65536 by omega]
  rw [or_at 21 (by decide) (t * 2097152) (a * 65536) (by omega) (by omega) (by omega) (by omega) (by omega)]
  rw [or_at 16 (by decide) (t * 2097152 + a * 65536) _ (by omega) (by omega) (by omega) (by omega) (by omega)]
  rw [or_at 26 (by decide) h _ (by omega) (by omega) (by omega) (by omega) (by omega)]
  omega

theorem wl2 (h t a i : Int) (h0 : 0 ≤ h) (h1 : h < 4294967296) (hh : h % 67108864 = 0) (ht : 0 ≤ t ∧ t ≤ 31) (ha : 0 ≤ a ∧ a ≤ 31) (hi : 0 ≤ i ∧ i ≤ 65535) : bits .or .u32 h (bits .or .u32 (bits .or .u32 (((a % 4294967296) * 2097152) % 4294967296) (((t % 4294967296) * 65536) % 4294967296)) (i % 4294967296)) = h + a * 2097152 + t * 65536 + i := by
  rw [show i % 4294967296 = i by omega, show ((t % 4294967296) * 65536) % 4294967296 = t * 65536 by omega, show ((a % 4294967296) * 2097152) % 4294967296 = a * 2097152 by omega]
  rw [or_at 21 (by decide) (a * 2097152) (t * 65536) (by omega) (by omega) (by omega) (by omega) (by omega)]
  rw [or_at 16 (by decide) (a * 2097152 + t * 65536) _ (by omega) (by omega) (by omega) (by omega) (by omega)]
  rw [or_at 26 (by decide) h _ (by omega) (by omega) (by omega) (by omega) (by omega)]
  omega

theorem wl3 (h t a i : Int) (h0 : 0 ≤ h) (h1 : h < 4294967296) (hh : h % 67108864 = 4) (ht : 0 ≤ t ∧ t ≤ 31) (ha : 0 ≤ a ∧ a ≤ 31) (hi : 0 ≤ i ∧ i ≤ 63) : bits .or .u32 h (bits .or .u32 (bits .or .u32 (bits .or .u32 (bits .or .u32 (bits .or .u32 (((a % 4294967296) * 2097152) % 4294967296) (((t % 4294967296) * 65536) % 4294967296)) (((bits .and .u32 (i % 4294967296) 31) * 2048) % 4294967296)) (((bits .and .u32 ((63 - (i % 4294967296)) % 4294967296) 31) * 64) % 4294967296)) (((((63 - (i % 4294967296)) % 4294967296) / 32) * 32) % 4294967296)) ((((i % 4294967296) / 32) * 2) % 4294967296)) = h + a * 2097152 + t * 65536 + i % 32 * 2048 + (63 - i) % 32 * 64 + (63 - i) / 32 * 32 + i / 32 * 2 := by
  rw [show i % 4294967296 = i by omega, show (63 - i) % 4294967296 = 63 - i by omega, and_cut 0 5 (by decide) i (by omega) (by omega) 31 (by decide), and_cut 0 5 (by decide) (63 - i) (by omega) (by omega) 31 (by decide), show ((t % 4294967296) * 65536) % 4294967296 = t * 65536 by omega, show ((a % 4294967296) * 2097152) % 4294967296 = a * 2097152 by omega]
  rw [show (i / 2 ^ 0 % 2 ^ 5 * 2 ^ 0 * 2048) % 4294967296 = i % 32 * 2048 by omega, show ((63 - i) / 2 ^ 0 % 2 ^ 5 * 2 ^ 0 * 64) % 4294967296 = (63 - i) % 32 * 64 by omega, show ((63 - i) / 32 * 32) % 4294967296 = (63 - i) / 32 * 32 by omega, show (i / 32 * 2) % 4294967296 = i / 32 * 2 by omega]
  rw [or_at 21 (by decide) (a * 2097152) (t * 65536) (by omega) (by omega) (by omega) (by omega) (by omega)]
  rw [or_at 16 (by decide) (a * 2097152 + t * 65536) _ (by omega) (by omega) (by omega) (by omega) (by omega)]
  rw [or_at 11 (by decide) (a * 2097152 + t * 65536 + i % 32 * 2048) _ (by omega) (by omega) (by omega) (by omega) (by omega)]
  rw [or_at 6 (by decide) (a * 2097152 + t * 65536 + i % 32 * 2048 + (63 - i) % 32 * 64) _ (by omega) (by omega) (by omega) (by omega) (by omega)]
  rw [or_at 5 (by decide) (a * 2097152 + t * 65536 + i % 32 * 2048 + (63 - i) % 32 * 64 + (63 - i) / 32 * 32) _ (by omega) (by omega) (by omega) (by omega) (by omega)]
  rcases (by omega : i / 32 = 0 ∨ i / 32 = 1) with e | e
  · rw [or_sum 5 (by decide) h _ (by omega) (by omega) (by omega) (by omega) 4 0 (by omega) (by decide) (by omega) (by decide)]
    omega
  · rw [or_sum 5 (by decide) h _ (by omega) (by omega) (by omega) (by omega) 4 2 (by omega) (by decide) (by omega) (by decide)]
    omega

theorem wl4 (h t a b : Int) (h0 : 0 ≤ h) (h1 : h < 4294967296) (l : Nat) (hh : h % 67108864 = l) (hl : l < 2048) (ht : 0 ≤ t ∧ t ≤ 31) (ha : 0 ≤ a ∧ a ≤ 31) (hb : 0 ≤ b ∧ b ≤ 31) : bits .or .u32 h (bits .or .u32 (bits .or .u32 (((t % 4294967296) * 2097152) % 4294967296) (((a % 4294967296) * 65536) % 4294967296)) (((b % 4294967296) * 2048) % 4294967296)) = h + t * 2097152 + a * 65536 + b * 2048 := by
  rw [show ((t % 4294967296) * 2097152) % 4294967296 = t * 2097152 by omega, show ((a % 4294967296) * 65536) % 4294967296 = a * 65536 by omega, show ((b % 4294967296) * 2048) % 4294967296 = b * 2048 by omega]
  rw [or_at 21 (by decide) (t * 2097152) (a * 65536) (by omega) (by omega) (by omega) (by omega) (by omega)]
  rw [or_at 16 (by decide) (t * 2097152 + a * 65536) _ (by omega) (by omega) (by omega) (by omega) (by omega)]
  rw [or_sum 11 (by decide) h _ (by omega) (by omega) (by omega) (by omega) l 0 (by omega) (by omega) (by omega) (by simp)]
  omega

theorem wl5 (h t a i : Int) (h0 : 0 ≤ h) (h1 : h < 4294967296) (hh : h % 67108864 = 0) (ht : 0 ≤ t ∧ t ≤ 31) (ha : 0 ≤ a ∧ a ≤ 31) (hi : i % 4 = 0) : bits .or .u32 h (bits .or .u32 (bits .or .u32 (((t % 4294967296) * 2097152) % 4294967296) (((a % 4294967296) * 65536) % 4294967296)) (bits .and .u32 (i % 4294967296) 65532)) = h + t * 2097152 + a * 65536 + i % 65536 := by
  rw [and_cut 2 14 (by decide) (i % 4294967296) (by omega) (by omega) 65532 (by decide), show ((t % 4294967296) * 2097152) % 4294967296 = t * 2097152 by omega, show ((a % 4294967296) * 65536) % 4294967296 = a * 65536 by omega]
  rw [or_at 21 (by decide) (t * 2097152) (a * 65536) (by omega) (by omega) (by omega) (by omega) (by omega)]
  rw [or_at 16 (by decide) (t * 2097152 + a * 65536) _ (by omega) (by omega) (by omega) (by omega) (by omega)]
  rw [or_at 26 (by decide) h _ (by omega) (by omega) (by omega) (by omega) (by omega)]
  omega

theorem wl6 (h a b : Int) (h0 : 0 ≤ h) (h1 : h < 4294967296) (hh : h % 2097152 = 0) (ha : 0 ≤ a ∧ a ≤ 31) (hb : 0 ≤ b ∧ b ≤ 31) : bits .or .u32 h (bits .or .u32 (((a % 4294967296) * 65536) % 4294967296) (((b % 4294967296) * 2048) % 4294967296)) = h + a * 65536 + b * 2048 := by
  rw [show ((a % 4294967296) * 65536) % 4294967296 = a * 65536 by omega, show ((b % 4294967296) * 2048) % 4294967296 = b * 2048 by omega]
  rw [or_at 16 (by decide) (a * 65536) (b * 2048) (by omega) (by omega) (by omega) (by omega) (by omega)]
  rw [or_at 21 (by decide) h _ (by omega) (by omega) (by omega) (by omega) (by omega)]
  omega

theorem wl7 (h a i : Int) (h0 : 0 ≤ h) (h1 : h < 4294967296) (hh : h % 2097152 = 0) (ha : 0 ≤ a ∧ a ≤ 31) : bits .or .u32 h (bits .or .u32 (((a % 4294967296) * 65536) % 4294967296) (bits .and .u32 (i % 4294967296) 65535)) = h + a * 65536 + i % 65536 := by
  rw [and_cut 0 16 (by decide) (i % 4294967296) (by omega) (by omega) 65535 (by decide), show ((a % 4294967296) * 65536) % 4294967296 = a * 65536 by omega]
  rw [or_at 16 (by decide) (a * 65536) _ (by omega) (by omega) (by omega) (by omega) (by omega)]
  rw [or_at 21 (by decide) h _ (by omega) (by omega) (by omega) (by omega) (by omega)]
  omega

theorem wl8 (h c i : Int) (h0 : 0 ≤ h) (h1 : h < 4294967296) (hh : h % 67108864 = 0) (hc : 0 ≤ c ∧ c < 67108864 ∧ c % 65536 = 0) (hi : i % 4 = 0) : bits .or .u32 h (bits .or .u32 c (bits .and .u32 (i % 4294967296) 65532)) = h + c + i % 65536 := by
  rw [and_cut 2 14 (by decide) (i % 4294967296) (by omega) (by omega) 65532 (by decide)]
  rw [or_at 16 (by decide) c _ (by omega) (by omega) (by omega) (by omega) (by omega)]
  rw [or_at 26 (by decide) h _ (by omega) (by omega) (by omega) (by omega) (by omega)]
  omega

theorem wl9 (h i : Int) (h0 : 0 ≤ h) (h1 : h < 4294967296) (hh : h % 67108864 = 0) (hi : i % 4 = 0) : bits .or .u32 h (bits .and .u32 (i % 4294967296) 67108860) = h + i % 67108864 := by
  rw [and_cut 2 24 (by decide) (i % 4294967296) (by omega) (by omega) 67108860 (by decide)]
  rw [or_at 26 (by decide) h _ (by omega) (by omega) (by omega) (by omega) (by omega)]
  omega

theorem isaE1 (t a b i : Int) : isa_Encode.m ⟨1, t, a, b, i⟩ = some (if b ≠ 0 then (0, 3) else if (0 ≤ t ∧ t ≤ 31) ∧ (0 ≤ a ∧ a ≤ 31) ∧ (-32768 ≤ i ∧ i ≤ 32767) then (939524096 + t * 2097152 + a * 65536 + i % 65536, 0) else (0, 2)) := by
  have hc := chk1 1 t a b i
  unfold isa_Encode.m
  simp only [show isa_formOf.m 1 = (1, 939524096) from rfl]
  rw [hc]
  by_cases hF : b ≠ 0
  · rw [if_pos hF, if_pos hF]; rfl
  · by_cases hR : (0 ≤ t ∧ t ≤ 31) ∧ (0 ≤ a ∧ a ≤ 31) ∧ (-32768 ≤ i ∧ i ≤ 32767)
    · rw [if_neg hF, if_pos hR, if_neg hF, if_pos hR]
      have hw := wl1 939524096 t a i (by decide) (by decide) (by decide) hR.1 hR.2.1
      rw [← hw]; rfl
    · rw [if_neg hF, if_neg hR, if_neg hF, if_neg hR]; rfl

theorem isaE2 (t a b i : Int) : isa_Encode.m ⟨2, t, a, b, i⟩ = some (if b ≠ 0 then (0, 3) else if (0 ≤ t ∧ t ≤ 31) ∧ (0 ≤ a ∧ a ≤ 31) ∧ (-32768 ≤ i ∧ i ≤ 32767) then (1006632960 + t * 2097152 + a * 65536 + i % 65536, 0) else (0, 2)) := by
  have hc := chk1 2 t a b i
  unfold isa_Encode.m
  simp only [show isa_formOf.m 2 = (1, 1006632960) from rfl]
  rw [hc]
  by_cases hF : b ≠ 0
  · rw [if_pos hF, if_pos hF]; rfl
  · by_cases hR : (0 ≤ t ∧ t ≤ 31) ∧ (0 ≤ a ∧ a ≤ 31) ∧ (-32768 ≤ i ∧ i ≤ 32767)
    · rw [if_neg hF, if_pos hR, if_neg hF, if_pos hR]
      have hw := wl1 1006632960 t a i (by decide) (by decide) (by decide) hR.1 hR.2.1
      rw [← hw]; rfl
    · rw [if_neg hF, if_neg hR, if_neg hF, if_neg hR]; rfl

theorem isaE3 (t a b i : Int) : isa_Encode.m ⟨3, t, a, b, i⟩ = some (if b ≠ 0 then (0, 3) else if (0 ≤ t ∧ t ≤ 31) ∧ (0 ≤ a ∧ a ≤ 31) ∧ (0 ≤ i ∧ i ≤ 65535) then (1610612736 + a * 2097152 + t * 65536 + i, 0) else (0, 2)) := by
  have hc := chk2 3 t a b i
  unfold isa_Encode.m
  simp only [show isa_formOf.m 3 = (2, 1610612736) from rfl]
  rw [hc]
  by_cases hF : b ≠ 0
  · rw [if_pos hF, if_pos hF]; rfl
  · by_cases hR : (0 ≤ t ∧ t ≤ 31) ∧ (0 ≤ a ∧ a ≤ 31) ∧ (0 ≤ i ∧ i ≤ 65535)
    · rw [if_neg hF, if_pos hR, if_neg hF, if_pos hR]
      have hw := wl2 1610612736 t a i (by decide) (by decide) (by decide) hR.1 hR.2.1 hR.2.2
      rw [← hw]; rfl
    · rw [if_neg hF, if_neg hR, if_neg hF, if_neg hR]; rfl

theorem isaE4 (t a b i : Int) : isa_Encode.m ⟨4, t, a, b, i⟩ = some (if b ≠ 0 then (0, 3) else if (0 ≤ t ∧ t ≤ 31) ∧ (0 ≤ a ∧ a ≤ 31) ∧ (0 ≤ i ∧ i ≤ 65535) then (1677721600 + a * 2097152 + t * 65536 + i, 0) else (0, 2)) := by
  have hc := chk2 4 t a b i
  unfold isa_Encode.m
  simp only [show isa_formOf.m 4 = (2, 1677721600) from rfl]
  rw [hc]
  by_cases hF : b ≠ 0
  · rw [if_pos hF, if_pos hF]; rfl
  · by_cases hR : (0 ≤ t ∧ t ≤ 31) ∧ (0 ≤ a ∧ a ≤ 31) ∧ (0 ≤ i ∧ i ≤ 65535)
    · rw [if_neg hF, if_pos hR, if_neg hF, if_pos hR]
      have hw := wl2 1677721600 t a i (by decide) (by decide) (by decide) hR.1 hR.2.1 hR.2.2
      rw [← hw]; rfl
    · rw [if_neg hF, if_neg hR, if_neg hF, if_neg hR]; rfl

theorem isaE5 (t a b i : Int) : isa_Encode.m ⟨5, t, a, b, i⟩ = some (if b ≠ 0 then (0, 3) else if (0 ≤ t ∧ t ≤ 31) ∧ (0 ≤ a ∧ a ≤ 31) ∧ (0 ≤ i ∧ i ≤ 63) then (2013265924 + a * 2097152 + t * 65536 + i % 32 * 2048 + (63 - i) % 32 * 64 + (63 - i) / 32 * 32 + i / 32 * 2, 0) else (0, 2)) := by
  have hc := chk3 5 t a b i
  unfold isa_Encode.m
  simp only [show isa_formOf.m 5 = (3, 2013265924) from rfl]
  rw [hc]
  by_cases hF : b ≠ 0
  · rw [if_pos hF, if_pos hF]; rfl
  · by_cases hR : (0 ≤ t ∧ t ≤ 31) ∧ (0 ≤ a ∧ a ≤ 31) ∧ (0 ≤ i ∧ i ≤ 63)
    · rw [if_neg hF, if_pos hR, if_neg hF, if_pos hR]
      have hw := wl3 2013265924 t a i (by decide) (by decide) (by decide) hR.1 hR.2.1 hR.2.2
      rw [← hw]; rfl
    · rw [if_neg hF, if_neg hR, if_neg hF, if_neg hR]; rfl

theorem isaE6 (t a b i : Int) : isa_Encode.m ⟨6, t, a, b, i⟩ = some (if i ≠ 0 then (0, 3) else if (0 ≤ t ∧ t ≤ 31) ∧ (0 ≤ a ∧ a ≤ 31) ∧ (0 ≤ b ∧ b ≤ 31) then (2080375316 + t * 2097152 + a * 65536 + b * 2048, 0) else (0, 2)) := by
  have hc := chk4 6 t a b i
  unfold isa_Encode.m
  simp only [show isa_formOf.m 6 = (4, 2080375316) from rfl]
  rw [hc]
  by_cases hF : i ≠ 0
  · rw [if_pos hF, if_pos hF]; rfl
  · by_cases hR : (0 ≤ t ∧ t ≤ 31) ∧ (0 ≤ a ∧ a ≤ 31) ∧ (0 ≤ b ∧ b ≤ 31)
    · rw [if_neg hF, if_pos hR, if_neg hF, if_pos hR]
      have hw := wl4 2080375316 t a b (by decide) (by decide) 532 (by decide) (by decide) hR.1 hR.2.1 hR.2.2
      rw [← hw]; rfl
    · rw [if_neg hF, if_neg hR, if_neg hF, if_neg hR]; rfl

theorem isaE7 (t a b i : Int) : isa_Encode.m ⟨7, t, a, b, i⟩ = some (if i ≠ 0 then (0, 3) else if (0 ≤ t ∧ t ≤ 31) ∧ (0 ≤ a ∧ a ≤ 31) ∧ (0 ≤ b ∧ b ≤ 31) then (2080374864 + t * 2097152 + a * 65536 + b * 2048, 0) else (0, 2)) := by
  have hc := chk4 7 t a b i
  unfold isa_Encode.m
  simp only [show isa_formOf.m 7 = (4, 2080374864) from rfl]
  rw [hc]
  by_cases hF : i ≠ 0
  · rw [if_pos hF, if_pos hF]; rfl
  · by_cases hR : (0 ≤ t ∧ t ≤ 31) ∧ (0 ≤ a ∧ a ≤ 31) ∧ (0 ≤ b ∧ b ≤ 31)
    · rw [if_neg hF, if_pos hR, if_neg hF, if_pos hR]
      have hw := wl4 2080374864 t a b (by decide) (by decide) 80 (by decide) (by decide) hR.1 hR.2.1 hR.2.2
      rw [← hw]; rfl
    · rw [if_neg hF, if_neg hR, if_neg hF, if_neg hR]; rfl

theorem isaE8 (t a b i : Int) : isa_Encode.m ⟨8, t, a, b, i⟩ = some (if i ≠ 0 then (0, 3) else if (0 ≤ t ∧ t ≤ 31) ∧ (0 ≤ a ∧ a ≤ 31) ∧ (0 ≤ b ∧ b ≤ 31) then (2080375250 + t * 2097152 + a * 65536 + b * 2048, 0) else (0, 2)) := by
  have hc := chk4 8 t a b i
  unfold isa_Encode.m
  simp only [show isa_formOf.m 8 = (4, 2080375250) from rfl]
  rw [hc]
  by_cases hF : i ≠ 0
  · rw [if_pos hF, if_pos hF]; rfl
  · by_cases hR : (0 ≤ t ∧ t ≤ 31) ∧ (0 ≤ a ∧ a ≤ 31) ∧ (0 ≤ b ∧ b ≤ 31)
    · rw [if_neg hF, if_pos hR, if_neg hF, if_pos hR]
      have hw := wl4 2080375250 t a b (by decide) (by decide) 466 (by decide) (by decide) hR.1 hR.2.1 hR.2.2
      rw [← hw]; rfl
    · rw [if_neg hF, if_neg hR, if_neg hF, if_neg hR]; rfl

theorem isaE9 (t a b i : Int) : isa_Encode.m ⟨9, t, a, b, i⟩ = some (if i ≠ 0 then (0, 3) else if (0 ≤ t ∧ t ≤ 31) ∧ (0 ≤ a ∧ a ≤ 31) ∧ (0 ≤ b ∧ b ≤ 31) then (2080375762 + t * 2097152 + a * 65536 + b * 2048, 0) else (0, 2)) := by
  have hc := chk4 9 t a b i
  unfold isa_Encode.m
  simp only [show isa_formOf.m 9 = (4, 2080375762) from rfl]
  rw [hc]
  by_cases hF : i ≠ 0
  · rw [if_pos hF, if_pos hF]; rfl
  · by_cases hR : (0 ≤ t ∧ t ≤ 31) ∧ (0 ≤ a ∧ a ≤ 31) ∧ (0 ≤ b ∧ b ≤ 31)
    · rw [if_neg hF, if_pos hR, if_neg hF, if_pos hR]
      have hw := wl4 2080375762 t a b (by decide) (by decide) 978 (by decide) (by decide) hR.1 hR.2.1 hR.2.2
      rw [← hw]; rfl
    · rw [if_neg hF, if_neg hR, if_neg hF, if_neg hR]; rfl

theorem isaE10 (t a b i : Int) : isa_Encode.m ⟨10, t, a, b, i⟩ = some (if b ≠ 0 then (0, 3) else if (0 ≤ t ∧ t ≤ 31) ∧ (0 ≤ a ∧ a ≤ 31) ∧ (-32768 ≤ i ∧ i ≤ 32764 ∧ i % 4 = 0) then (3892314112 + t * 2097152 + a * 65536 + i % 65536, 0) else (0, 2)) := by
  have hc := chk5 10 t a b i
  unfold isa_Encode.m
  simp only [show isa_formOf.m 10 = (5, 3892314112) from rfl]
  rw [hc]
  by_cases hF : b ≠ 0
  · rw [if_pos hF, if_pos hF]; rfl
  · by_cases hR : (0 ≤ t ∧ t ≤ 31) ∧ (0 ≤ a ∧ a ≤ 31) ∧ (-32768 ≤ i ∧ i ≤ 32764 ∧ i % 4 = 0)
    · rw [if_neg hF, if_pos hR, if_neg hF, if_pos hR]
      have hw := wl5 3892314112 t a i (by decide) (by decide) (by decide) hR.1 hR.2.1 (by omega)
      rw [← hw]; rfl
    · rw [if_neg hF, if_neg hR, if_neg hF, if_neg hR]; rfl

theorem isaE11 (t a b i : Int) : isa_Encode.m ⟨11, t, a, b, i⟩ = some (if b ≠ 0 then (0, 3) else if (0 ≤ t ∧ t ≤ 31) ∧ (0 ≤ a ∧ a ≤ 31) ∧ (-32768 ≤ i ∧ i ≤ 32764 ∧ i % 4 = 0) then (4160749568 + t * 2097152 + a * 65536 + i % 65536, 0) else (0, 2)) := by
  have hc := chk5 11 t a b i
  unfold isa_Encode.m
  simp only [show isa_formOf.m 11 = (5, 4160749568) from rfl]
  rw [hc]
  by_cases hF : b ≠ 0
  · rw [if_pos hF, if_pos hF]; rfl
  · by_cases hR : (0 ≤ t ∧ t ≤ 31) ∧ (0 ≤ a ∧ a ≤ 31) ∧ (-32768 ≤ i ∧ i ≤ 32764 ∧ i % 4 = 0)
    · rw [if_neg hF, if_pos hR, if_neg hF, if_pos hR]
      have hw := wl5 4160749568 t a i (by decide) (by decide) (by decide) hR.1 hR.2.1 (by omega)
      rw [← hw]; rfl
    · rw [if_neg hF, if_neg hR, if_neg hF, if_neg hR]; rfl

theorem isaE12 (t a b i : Int) : isa_Encode.m ⟨12, t, a, b, i⟩ = some (if i ≠ 0 then (0, 3) else if (0 ≤ t ∧ t ≤ 31) ∧ (0 ≤ a ∧ a ≤ 31) ∧ (0 ≤ b ∧ b ≤ 31) then (2080374826 + t * 2097152 + a * 65536 + b * 2048, 0) else (0, 2)) := by
  have hc := chk4 12 t a b i
  unfold isa_Encode.m
  simp only [show isa_formOf.m 12 = (4, 2080374826) from rfl]
  rw [hc]
  by_cases hF : i ≠ 0
  · rw [if_pos hF, if_pos hF]; rfl
  · by_cases hR : (0 ≤ t ∧ t ≤ 31) ∧ (0 ≤ a ∧ a ≤ 31) ∧ (0 ≤ b ∧ b ≤ 31)
    · rw [if_neg hF, if_pos hR, if_neg hF, if_pos hR]
      have hw := wl4 2080374826 t a b (by decide) (by decide) 42 (by decide) (by decide) hR.1 hR.2.1 hR.2.2
      rw [← hw]; rfl
    · rw [if_neg hF, if_neg hR, if_neg hF, if_neg hR]; rfl

theorem isaE13 (t a b i : Int) : isa_Encode.m ⟨13, t, a, b, i⟩ = some (if i ≠ 0 then (0, 3) else if (0 ≤ t ∧ t ≤ 31) ∧ (0 ≤ a ∧ a ≤ 31) ∧ (0 ≤ b ∧ b ≤ 31) then (2080375082 + t * 2097152 + a * 65536 + b * 2048, 0) else (0, 2)) := by
  have hc := chk4 13 t a b i
  unfold isa_Encode.m
  simp only [show isa_formOf.m 13 = (4, 2080375082) from rfl]
  rw [hc]
  by_cases hF : i ≠ 0
  · rw [if_pos hF, if_pos hF]; rfl
  · by_cases hR : (0 ≤ t ∧ t ≤ 31) ∧ (0 ≤ a ∧ a ≤ 31) ∧ (0 ≤ b ∧ b ≤ 31)
    · rw [if_neg hF, if_pos hR, if_neg hF, if_pos hR]
      have hw := wl4 2080375082 t a b (by decide) (by decide) 298 (by decide) (by decide) hR.1 hR.2.1 hR.2.2
      rw [← hw]; rfl
    · rw [if_neg hF, if_neg hR, if_neg hF, if_neg hR]; rfl

theorem isaE14 (t a b i : Int) : isa_Encode.m ⟨14, t, a, b, i⟩ = some (if i ≠ 0 then (0, 3) else if (0 ≤ t ∧ t ≤ 31) ∧ (0 ≤ a ∧ a ≤ 31) ∧ (0 ≤ b ∧ b ≤ 31) then (2080374952 + t * 2097152 + a * 65536 + b * 2048, 0) else (0, 2)) := by
  have hc := chk4 14 t a b i
  unfold isa_Encode.m
  simp only [show isa_formOf.m 14 = (4, 2080374952) from rfl]
  rw [hc]
  by_cases hF : i ≠ 0
  · rw [if_pos hF, if_pos hF]; rfl
  · by_cases hR : (0 ≤ t ∧ t ≤ 31) ∧ (0 ≤ a ∧ a ≤ 31) ∧ (0 ≤ b ∧ b ≤ 31)
    · rw [if_neg hF, if_pos hR, if_neg hF, if_pos hR]
      have hw := wl4 2080374952 t a b (by decide) (by decide) 168 (by decide) (by decide) hR.1 hR.2.1 hR.2.2
      rw [← hw]; rfl
    · rw [if_neg hF, if_neg hR, if_neg hF, if_neg hR]; rfl

theorem isaE15 (t a b i : Int) : isa_Encode.m ⟨15, t, a, b, i⟩ = some (if i ≠ 0 then (0, 3) else if (0 ≤ t ∧ t ≤ 31) ∧ (0 ≤ a ∧ a ≤ 31) ∧ (0 ≤ b ∧ b ≤ 31) then (2080375213 + t * 2097152 + a * 65536 + b * 2048, 0) else (0, 2)) := by
  have hc := chk4 15 t a b i
  unfold isa_Encode.m
  simp only [show isa_formOf.m 15 = (4, 2080375213) from rfl]
  rw [hc]
  by_cases hF : i ≠ 0
  · rw [if_pos hF, if_pos hF]; rfl
  · by_cases hR : (0 ≤ t ∧ t ≤ 31) ∧ (0 ≤ a ∧ a ≤ 31) ∧ (0 ≤ b ∧ b ≤ 31)
    · rw [if_neg hF, if_pos hR, if_neg hF, if_pos hR]
      have hw := wl4 2080375213 t a b (by decide) (by decide) 429 (by decide) (by decide) hR.1 hR.2.1 hR.2.2
      rw [← hw]; rfl
    · rw [if_neg hF, if_neg hR, if_neg hF, if_neg hR]; rfl

theorem isaE16 (t a b i : Int) : isa_Encode.m ⟨16, t, a, b, i⟩ = some (if t ≠ 0 ∨ i ≠ 0 then (0, 3) else if (0 ≤ a ∧ a ≤ 31) ∧ (0 ≤ b ∧ b ≤ 31) then (2082471936 + a * 65536 + b * 2048, 0) else (0, 2)) := by
  have hc := chk6 16 t a b i
  unfold isa_Encode.m
  simp only [show isa_formOf.m 16 = (6, 2082471936) from rfl]
  rw [hc]
  by_cases hF : t ≠ 0 ∨ i ≠ 0
  · rw [if_pos hF, if_pos hF]; rfl
  · by_cases hR : (0 ≤ a ∧ a ≤ 31) ∧ (0 ≤ b ∧ b ≤ 31)
    · rw [if_neg hF, if_pos hR, if_neg hF, if_pos hR]
      have hw := wl6 2082471936 a b (by decide) (by decide) (by decide) hR.1 hR.2
      rw [← hw]; rfl
    · rw [if_neg hF, if_neg hR, if_neg hF, if_neg hR]; rfl

theorem isaE17 (t a b i : Int) : isa_Encode.m ⟨17, t, a, b, i⟩ = some (if t ≠ 0 ∨ b ≠ 0 then (0, 3) else if (0 ≤ a ∧ a ≤ 31) ∧ (-32768 ≤ i ∧ i ≤ 32767) then (740294656 + a * 65536 + i % 65536, 0) else (0, 2)) := by
  have hc := chk7 17 t a b i
  unfold isa_Encode.m
  simp only [show isa_formOf.m 17 = (7, 740294656) from rfl]
  rw [hc]
  by_cases hF : t ≠ 0 ∨ b ≠ 0
  · rw [if_pos hF, if_pos hF]; rfl
  · by_cases hR : (0 ≤ a ∧ a ≤ 31) ∧ (-32768 ≤ i ∧ i ≤ 32767)
    · rw [if_neg hF, if_pos hR, if_neg hF, if_pos hR]
      have hw := wl7 740294656 a i (by decide) (by decide) (by decide) hR.1
      rw [← hw]; rfl
    · rw [if_neg hF, if_neg hR, if_neg hF, if_neg hR]; rfl

theorem isaE18 (t a b i : Int) : isa_Encode.m ⟨18, t, a, b, i⟩ = some (if a ≠ 0 ∨ b ≠ 0 then (0, 3) else if (0 ≤ t ∧ t ≤ 3) ∧ (-32768 ≤ i ∧ i ≤ 32764 ∧ i % 4 = 0) then (1073741824 + isa_cond.m t + i % 65536, 0) else (0, 2)) := by
  have hc := chk8 18 t a b i
  unfold isa_Encode.m
  simp only [show isa_formOf.m 18 = (8, 1073741824) from rfl]
  rw [hc]
  by_cases hF : a ≠ 0 ∨ b ≠ 0
  · rw [if_pos hF, if_pos hF]; rfl
  · by_cases hR : (0 ≤ t ∧ t ≤ 3) ∧ (-32768 ≤ i ∧ i ≤ 32764 ∧ i % 4 = 0)
    · rw [if_neg hF, if_pos hR, if_neg hF, if_pos hR]
      have hw := wl8 1073741824 (isa_cond.m t) i (by decide) (by decide) (by decide) (condB t) (by omega)
      rw [← hw]; rfl
    · rw [if_neg hF, if_neg hR, if_neg hF, if_neg hR]; rfl

theorem isaE19 (t a b i : Int) : isa_Encode.m ⟨19, t, a, b, i⟩ = some (if t ≠ 0 ∨ a ≠ 0 ∨ b ≠ 0 then (0, 3) else if (-33554432 ≤ i ∧ i ≤ 33554428 ∧ i % 4 = 0) then (1207959552 + i % 67108864, 0) else (0, 2)) := by
  have hc := chk9 19 t a b i
  unfold isa_Encode.m
  simp only [show isa_formOf.m 19 = (9, 1207959552) from rfl]
  rw [hc]
  by_cases hF : t ≠ 0 ∨ a ≠ 0 ∨ b ≠ 0
  · rw [if_pos hF, if_pos hF]; rfl
  · by_cases hR : (-33554432 ≤ i ∧ i ≤ 33554428 ∧ i % 4 = 0)
    · rw [if_neg hF, if_pos hR, if_neg hF, if_pos hR]
      have hw := wl9 1207959552 i (by decide) (by decide) (by decide) (by omega)
      rw [← hw]; rfl
    · rw [if_neg hF, if_neg hR, if_neg hF, if_neg hR]; rfl

theorem isaE20 (t a b i : Int) : isa_Encode.m ⟨20, t, a, b, i⟩ = some (if t ≠ 0 ∨ a ≠ 0 ∨ b ≠ 0 ∨ i ≠ 0 then (0, 3) else if True then (2080375980, 0) else (0, 2)) := by
  have hc := chk10 20 t a b i
  unfold isa_Encode.m
  simp only [show isa_formOf.m 20 = (10, 2080375980) from rfl]
  rw [hc]
  by_cases hF : t ≠ 0 ∨ a ≠ 0 ∨ b ≠ 0 ∨ i ≠ 0
  · rw [if_pos hF, if_pos hF]; rfl
  · by_cases hR : True
    · rw [if_neg hF, if_pos hR, if_neg hF, if_pos hR]
      rfl
    · rw [if_neg hF, if_neg hR, if_neg hF, if_neg hR]; rfl

theorem isaE21 (t a b i : Int) : isa_Encode.m ⟨21, t, a, b, i⟩ = some (if t ≠ 0 ∨ a ≠ 0 ∨ b ≠ 0 ∨ i ≠ 0 then (0, 3) else if True then (2082473132, 0) else (0, 2)) := by
  have hc := chk10 21 t a b i
  unfold isa_Encode.m
  simp only [show isa_formOf.m 21 = (10, 2082473132) from rfl]
  rw [hc]
  by_cases hF : t ≠ 0 ∨ a ≠ 0 ∨ b ≠ 0 ∨ i ≠ 0
  · rw [if_pos hF, if_pos hF]; rfl
  · by_cases hR : True
    · rw [if_neg hF, if_pos hR, if_neg hF, if_pos hR]
      rfl
    · rw [if_neg hF, if_neg hR, if_neg hF, if_neg hR]; rfl

theorem isaE22 (t a b i : Int) : isa_Encode.m ⟨22, t, a, b, i⟩ = some (if t ≠ 0 ∨ a ≠ 0 ∨ b ≠ 0 ∨ i ≠ 0 then (0, 3) else if True then (1275068716, 0) else (0, 2)) := by
  have hc := chk10 22 t a b i
  unfold isa_Encode.m
  simp only [show isa_formOf.m 22 = (10, 1275068716) from rfl]
  rw [hc]
  by_cases hF : t ≠ 0 ∨ a ≠ 0 ∨ b ≠ 0 ∨ i ≠ 0
  · rw [if_pos hF, if_pos hF]; rfl
  · by_cases hR : True
    · rw [if_neg hF, if_pos hR, if_neg hF, if_pos hR]
      rfl
    · rw [if_neg hF, if_neg hR, if_neg hF, if_neg hR]; rfl

theorem isaE23 (t a b i : Int) : isa_Encode.m ⟨23, t, a, b, i⟩ = some (if t ≠ 0 ∨ a ≠ 0 ∨ b ≠ 0 ∨ i ≠ 0 then (0, 3) else if True then (1140850690, 0) else (0, 2)) := by
  have hc := chk10 23 t a b i
  unfold isa_Encode.m
  simp only [show isa_formOf.m 23 = (10, 1140850690) from rfl]
  rw [hc]
  by_cases hF : t ≠ 0 ∨ a ≠ 0 ∨ b ≠ 0 ∨ i ≠ 0
  · rw [if_pos hF, if_pos hF]; rfl
  · by_cases hR : True
    · rw [if_neg hF, if_pos hR, if_neg hF, if_pos hR]
      rfl
    · rw [if_neg hF, if_neg hR, if_neg hF, if_neg hR]; rfl

end Go.Proofs.Ytallojficgiemaa.W
