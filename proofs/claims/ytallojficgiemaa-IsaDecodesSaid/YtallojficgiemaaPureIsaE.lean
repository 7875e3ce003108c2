/- Chapter 15: what both decoders try, for each kind of instruction. -/
import Derived.Test.YtallojficgiemaaPureIsaD
set_option linter.unusedVariables false
set_option linter.unusedSimpArgs false
namespace Go.Proofs.Ytallojficgiemaa.W
open Go Go.RowKit Go.Proofs.Ytallojficgiemaa.B
def candI (a0 : Int) (k : Nat) (n : Int) : Option (Int × Int × Int × Int) := (if (decide (((isa_formOf.m n).1) = 1)) = true then (some (wrap64 (bits .and .u32 (a0 / 2097152) 31), wrap64 (bits .and .u32 (a0 / 65536) 31), 0, wrap64 (wrap16 (a0)))) else (if (decide (((isa_formOf.m n).1) = 2)) = true then (some (wrap64 (bits .and .u32 (a0 / 65536) 31), wrap64 (bits .and .u32 (a0 / 2097152) 31), 0, wrap64 (bits .and .u32 a0 65535))) else (if (decide (((isa_formOf.m n).1) = 3)) = true then (some (wrap64 (bits .and .u32 (a0 / 65536) 31), wrap64 (bits .and .u32 (a0 / 2097152) 31), 0, wrap64 (bits .or .u32 (bits .and .u32 (a0 / 2048) 31) (((bits .and .u32 (a0 / 2) 1) * 32) % 4294967296)))) else (if (decide (((isa_formOf.m n).1) = 4)) = true then (some (wrap64 (bits .and .u32 (a0 / 2097152) 31), wrap64 (bits .and .u32 (a0 / 65536) 31), wrap64 (bits .and .u32 (a0 / 2048) 31), 0)) else (if (decide (((isa_formOf.m n).1) = 5)) = true then (some (wrap64 (bits .and .u32 (a0 / 2097152) 31), wrap64 (bits .and .u32 (a0 / 65536) 31), 0, wrap64 (wrap16 (bits .and .u32 a0 65532)))) else (if (decide (((isa_formOf.m n).1) = 6)) = true then (some (0, wrap64 (bits .and .u32 (a0 / 65536) 31), wrap64 (bits .and .u32 (a0 / 2048) 31), 0)) else (if (decide (((isa_formOf.m n).1) = 7)) = true then (some (0, wrap64 (bits .and .u32 (a0 / 65536) 31), 0, wrap64 (wrap16 (a0)))) else (if (decide (((isa_formOf.m n).1) = 8)) = true then ((isa_Decode.l1 a0 k 0).bind fun o87 => (some (o87, 0, 0, wrap64 (wrap16 (bits .and .u32 a0 65532))))) else (if (decide (((isa_formOf.m n).1) = 9)) = true then (some (0, 0, 0, wrap64 ((wrap32 (((bits .and .u32 a0 67108860) * 64) % 4294967296)) / 64))) else (some (0, 0, 0, 0)))))))))))
theorem decI_step (a0 : Int) (k : Nat) (n : Int) : isa_Decode.l0 a0 (k + 1) n = if (decide (n ≤ 23)) = true then ((if (!decide (((bits .xor .u32 a0 ((isa_formOf.m n).2)) / 67108864) = 0)) = true then (some (Sum.inl ())) else ((candI a0 k n).bind fun o37 => ((isa_Encode.m (⟨n, o37.1, o37.2.1, o37.2.2.1, o37.2.2.2⟩ : api_Inst)).bind fun r133 => (if ((decide (r133.2 = 0)) && (decide (r133.1 = a0))) = true then (some (Sum.inr ((⟨n, o37.1, o37.2.1, o37.2.2.1, o37.2.2.2⟩ : api_Inst), 0))) else (some (Sum.inl ())))))).bind fun o25 => Sum.elim (fun s27 => (isa_Decode.l0 a0 k (wrap64 (n + 1)))) (fun r145 => some (Sum.inr r145)) o25) else (some (Sum.inl ())) := rfl
def candR (a0 : Int) (k : Nat) (n : Int) (r40 : Int) : Option (List api_Inst) := (if (decide (r40 = 1)) = true then (some ([(⟨n, (selvageref15_bits.m a0 6 5), (selvageref15_bits.m a0 11 5), 0, (selvageref15_signed.m (selvageref15_bits.m a0 16 16) 16)⟩ : api_Inst)] : List api_Inst)) else (if (decide (r40 = 2)) = true then (some ([(⟨n, (selvageref15_bits.m a0 11 5), (selvageref15_bits.m a0 6 5), 0, (selvageref15_bits.m a0 16 16)⟩ : api_Inst)] : List api_Inst)) else (if (decide (r40 = 3)) = true then (some ([(⟨n, (selvageref15_bits.m a0 11 5), (selvageref15_bits.m a0 6 5), 0, (selvageref15_bits.m a0 16 5)⟩ : api_Inst), (⟨n, (selvageref15_bits.m a0 11 5), (selvageref15_bits.m a0 6 5), 0, wrap64 ((selvageref15_bits.m a0 16 5) + 32)⟩ : api_Inst)] : List api_Inst)) else (if (decide (r40 = 4)) = true then (some ([(⟨n, (selvageref15_bits.m a0 6 5), (selvageref15_bits.m a0 11 5), (selvageref15_bits.m a0 16 5), 0⟩ : api_Inst)] : List api_Inst)) else (if (decide (r40 = 5)) = true then (some ([(⟨n, (selvageref15_bits.m a0 6 5), (selvageref15_bits.m a0 11 5), 0, wrap64 (4 * (selvageref15_signed.m (selvageref15_bits.m a0 16 14) 14))⟩ : api_Inst)] : List api_Inst)) else (if (decide (r40 = 6)) = true then (some ([(⟨n, 0, (selvageref15_bits.m a0 11 5), (selvageref15_bits.m a0 16 5), 0⟩ : api_Inst)] : List api_Inst)) else (if (decide (r40 = 7)) = true then (some ([(⟨n, 0, (selvageref15_bits.m a0 11 5), 0, (selvageref15_signed.m (selvageref15_bits.m a0 16 16) 16)⟩ : api_Inst)] : List api_Inst)) else (if (decide (r40 = 8)) = true then ((selvageref15_Decode.l1 a0 n k (([] : List api_Inst), 0)).bind fun o109 => (some o109)) else (if (decide (r40 = 9)) = true then (some ([(⟨n, 0, 0, 0, wrap64 (4 * (selvageref15_signed.m (selvageref15_bits.m a0 6 24) 24))⟩ : api_Inst)] : List api_Inst)) else (some ([(⟨n, 0, 0, 0, 0⟩ : api_Inst)] : List api_Inst)))))))))))
theorem decR_step (a0 : Int) (k : Nat) (n : Int) : selvageref15_Decode.l0 a0 (k + 1) n = if (decide (n ≤ 23)) = true then ((selvageref15_sort.m n).bind fun r40 => ((candR a0 k n r40).bind fun o41 => ((selvageref15_Decode.l2 a0 k (o41, 0)).bind fun o199 => Sum.elim (fun s201 => (selvageref15_Decode.l0 a0 k (wrap64 (n + 1)))) (fun r251 => some (Sum.inr r251)) o199))) else (some (Sum.inl ())) := rfl
theorem bt6_5 (w : Int) (h0 : 0 ≤ w) (h1 : w < 4294967296) : selvageref15_bits.m w 6 5 = w / 2097152 % 32 := by
  unfold selvageref15_bits.m
  rw [show min ((6 : Int) % 18446744073709551616).toNat 32 = 6 from rfl, show min ((wrap64 (32 - 5)) % 18446744073709551616).toNat 32 = 27 from rfl]
  unfold wrap64
  omega
theorem bt11_5 (w : Int) (h0 : 0 ≤ w) (h1 : w < 4294967296) : selvageref15_bits.m w 11 5 = w / 65536 % 32 := by
  unfold selvageref15_bits.m
  rw [show min ((11 : Int) % 18446744073709551616).toNat 32 = 11 from rfl, show min ((wrap64 (32 - 5)) % 18446744073709551616).toNat 32 = 27 from rfl]
  unfold wrap64
  omega
theorem bt16_16 (w : Int) (h0 : 0 ≤ w) (h1 : w < 4294967296) : selvageref15_bits.m w 16 16 = w / 1 % 65536 := by
  unfold selvageref15_bits.m
  rw [show min ((16 : Int) % 18446744073709551616).toNat 32 = 16 from rfl, show min ((wrap64 (32 - 16)) % 18446744073709551616).toNat 32 = 16 from rfl]
  unfold wrap64
  omega
theorem bt16_5 (w : Int) (h0 : 0 ≤ w) (h1 : w < 4294967296) : selvageref15_bits.m w 16 5 = w / 2048 % 32 := by
  unfold selvageref15_bits.m
  rw [show min ((16 : Int) % 18446744073709551616).toNat 32 = 16 from rfl, show min ((wrap64 (32 - 5)) % 18446744073709551616).toNat 32 = 27 from rfl]
  unfold wrap64
  omega
theorem bt16_14 (w : Int) (h0 : 0 ≤ w) (h1 : w < 4294967296) : selvageref15_bits.m w 16 14 = w / 4 % 16384 := by
  unfold selvageref15_bits.m
  rw [show min ((16 : Int) % 18446744073709551616).toNat 32 = 16 from rfl, show min ((wrap64 (32 - 14)) % 18446744073709551616).toNat 32 = 18 from rfl]
  unfold wrap64
  omega
theorem bt6_24 (w : Int) (h0 : 0 ≤ w) (h1 : w < 4294967296) : selvageref15_bits.m w 6 24 = w / 4 % 16777216 := by
  unfold selvageref15_bits.m
  rw [show min ((6 : Int) % 18446744073709551616).toNat 32 = 6 from rfl, show min ((wrap64 (32 - 24)) % 18446744073709551616).toNat 32 = 8 from rfl]
  unfold wrap64
  omega
theorem sg14 (v : Int) (h0 : 0 ≤ v) (h1 : v < 16384) : selvageref15_signed.m v 14 = (v + 8192) % 16384 - 8192 := by
  unfold selvageref15_signed.m
  rw [show wrap64 (1 * 2 ^ (min ((wrap64 (14 - 1)) % 18446744073709551616).toNat 64)) = 8192 from rfl, show wrap64 (1 * 2 ^ (min ((14 : Int) % 18446744073709551616).toNat 64)) = 16384 from rfl]
  by_cases h : v ≥ 8192
  · rw [if_pos (by simpa using h)]; unfold wrap64; omega
  · rw [if_neg (by simpa using h)]; omega
theorem sg16 (v : Int) (h0 : 0 ≤ v) (h1 : v < 65536) : selvageref15_signed.m v 16 = (v + 32768) % 65536 - 32768 := by
  unfold selvageref15_signed.m
  rw [show wrap64 (1 * 2 ^ (min ((wrap64 (16 - 1)) % 18446744073709551616).toNat 64)) = 32768 from rfl, show wrap64 (1 * 2 ^ (min ((16 : Int) % 18446744073709551616).toNat 64)) = 65536 from rfl]
  by_cases h : v ≥ 32768
  · rw [if_pos (by simpa using h)]; unfold wrap64; omega
  · rw [if_neg (by simpa using h)]; omega
theorem sg24 (v : Int) (h0 : 0 ≤ v) (h1 : v < 16777216) : selvageref15_signed.m v 24 = (v + 8388608) % 16777216 - 8388608 := by
  unfold selvageref15_signed.m
  rw [show wrap64 (1 * 2 ^ (min ((wrap64 (24 - 1)) % 18446744073709551616).toNat 64)) = 8388608 from rfl, show wrap64 (1 * 2 ^ (min ((24 : Int) % 18446744073709551616).toNat 64)) = 16777216 from rfl]
  by_cases h : v ≥ 8388608
  · rw [if_pos (by simpa using h)]; unfold wrap64; omega
  · rw [if_neg (by simpa using h)]; omega
theorem cu21 (w : Int) (h0 : 0 ≤ w) (h1 : w < 4294967296) : wrap64 (bits .and .u32 (w / 2097152) 31) = w / 2097152 % 32 := by
  rw [and_cut 0 5 (by decide) (w / 2097152) (by omega) (by omega) 31 (by decide)]; unfold wrap64; omega
theorem cu16 (w : Int) (h0 : 0 ≤ w) (h1 : w < 4294967296) : wrap64 (bits .and .u32 (w / 65536) 31) = w / 65536 % 32 := by
  rw [and_cut 0 5 (by decide) (w / 65536) (by omega) (by omega) 31 (by decide)]; unfold wrap64; omega
theorem cu11 (w : Int) (h0 : 0 ≤ w) (h1 : w < 4294967296) : wrap64 (bits .and .u32 (w / 2048) 31) = w / 2048 % 32 := by
  rw [and_cut 0 5 (by decide) (w / 2048) (by omega) (by omega) 31 (by decide)]; unfold wrap64; omega
theorem cu0 (w : Int) (h0 : 0 ≤ w) (h1 : w < 4294967296) : wrap64 (bits .and .u32 w 65535) = w % 65536 := by
  rw [and_cut 0 16 (by decide) w (by omega) (by omega) 65535 (by decide)]; unfold wrap64; omega
theorem cuS (w : Int) (h0 : 0 ≤ w) (h1 : w < 4294967296) : wrap64 (wrap16 w) = (w % 65536 + 32768) % 65536 - 32768 := by unfold wrap64 wrap16; omega
theorem cu4 (w : Int) (h0 : 0 ≤ w) (h1 : w < 4294967296) : wrap64 (wrap16 (bits .and .u32 w 65532)) = (w % 65536 / 4 * 4 + 32768) % 65536 - 32768 := by
  rw [and_cut 2 14 (by decide) w (by omega) (by omega) 65532 (by decide)]; unfold wrap64 wrap16; omega
theorem cu26 (w : Int) (h0 : 0 ≤ w) (h1 : w < 4294967296) : wrap64 ((wrap32 (((bits .and .u32 w 67108860) * 64) % 4294967296)) / 64) = (w % 67108864 / 4 * 4 + 33554432) % 67108864 - 33554432 := by
  rw [and_cut 2 24 (by decide) w (by omega) (by omega) 67108860 (by decide)]; unfold wrap64 wrap32; omega
theorem cuX (w : Int) (h0 : 0 ≤ w) (h1 : w < 4294967296) : wrap64 (bits .or .u32 (bits .and .u32 (w / 2048) 31) (((bits .and .u32 (w / 2) 1) * 32) % 4294967296)) = w % 65536 / 2048 + w % 65536 / 2 % 2 * 32 := by
  rw [and_cut 0 5 (by decide) (w / 2048) (by omega) (by omega) 31 (by decide), and_cut 0 1 (by decide) (w / 2) (by omega) (by omega) 1 (by decide)]
  have e1 : w / 2048 / 2 ^ 0 % 2 ^ 5 * 2 ^ 0 = w % 65536 / 2048 := by omega
  have e2 : (w / 2 / 2 ^ 0 % 2 ^ 1 * 2 ^ 0 * 32) % 4294967296 = w % 65536 / 2 % 2 * 32 := by omega
  rw [e1, e2]
  have b1 : 0 ≤ w % 65536 / 2048 ∧ w % 65536 / 2048 < 32 := by omega
  have b2 : w % 65536 / 2 % 2 = 0 ∨ w % 65536 / 2 % 2 = 1 := by omega
  generalize w % 65536 / 2048 = x at b1
  generalize w % 65536 / 2 % 2 = y at b2
  rw [or_sum 5 (by decide) x (y * 32) b1.1 (by omega) (by omega) (by omega) x.toNat 0 (by omega) (by omega) (by omega) (by simp)]
  unfold wrap64; omega
theorem cuC (w : Int) (h0 : 0 ≤ w) (h1 : w < 4294967296) : bits .and .u32 w 67043328 = w / 65536 % 1024 * 65536 := and_cut 16 10 (by decide) w h0 h1 67043328 (by decide)
/-- Two fields of five bits, and sixteen bits. -/
theorem fields (q t a l w : Int) (hq : 0 ≤ q ∧ q < 64) (hw : w = q * 67108864 + t * 2097152 + a * 65536 + l) (ht : 0 ≤ t ∧ t ≤ 31) (ha : 0 ≤ a ∧ a ≤ 31) (hl : 0 ≤ l ∧ l < 65536) :
    0 ≤ w ∧ w < 4294967296 ∧ w / 2097152 % 32 = t ∧ w / 65536 % 32 = a ∧ w % 65536 = l ∧ w / 67108864 = q := by
  refine ⟨by omega, by omega, by omega, by omega, by omega, by omega⟩
theorem low3 (i : Int) (hi : 0 ≤ i ∧ i ≤ 63) : (i % 32 * 2048 + (63 - i) % 32 * 64 + (63 - i) / 32 * 32 + i / 32 * 2 + 4) / 2048 + (i % 32 * 2048 + (63 - i) % 32 * 64 + (63 - i) / 32 * 32 + i / 32 * 2 + 4) / 2 % 2 * 32 = i := by
  have e1 : (63 - i) / 32 = 1 - i / 32 := by omega
  have e2 : (63 - i) % 32 = 31 - i % 32 := by omega
  rw [e1, e2]
  rcases (by omega : i / 32 = 0 ∨ i / 32 = 1) with e | e
  · rw [e]; omega
  · rw [e]; omega
theorem l11 (w : Int) : w / 2048 % 32 = w % 65536 / 2048 := by omega
theorem cI1 (k : Nat) (n h t a i w : Int) (hf : isa_formOf.m n = (1, h)) (h0 : 0 ≤ h) (h1 : h < 4294967296) (hh : h % 67108864 = 0) (ht : 0 ≤ t ∧ t ≤ 31) (ha : 0 ≤ a ∧ a ≤ 31) (hi : -32768 ≤ i ∧ i ≤ 32767) (hw : w = h + t * 2097152 + a * 65536 + i % 65536) : candI w (k + 10) n = some (t, a, 0, i) ∧ w / 67108864 = h / 67108864 ∧ 0 ≤ w ∧ w < 4294967296 := by
  obtain ⟨w0, w1, e1, e2, e3, e4⟩ := fields (h / 67108864) (t) (a) (i % 65536) w (by omega) (by omega) (by omega) (by omega) (by omega)
  refine ⟨?_, e4, w0, w1⟩
  unfold candI
  simp only [hf, show decide ((1 : Int) = 1) = true from rfl, show decide ((1 : Int) = 2) = false from rfl, show decide ((1 : Int) = 3) = false from rfl, show decide ((1 : Int) = 4) = false from rfl, show decide ((1 : Int) = 5) = false from rfl, show decide ((1 : Int) = 6) = false from rfl, show decide ((1 : Int) = 7) = false from rfl, show decide ((1 : Int) = 8) = false from rfl, show decide ((1 : Int) = 9) = false from rfl, Bool.false_eq_true, if_false, if_true, reduceIte]
  rw [cu21 w w0 w1, cu16 w w0 w1, cuS w w0 w1]
  rw [e1, e2, e3]
  refine congrArg some (Prod.ext rfl (Prod.ext rfl (Prod.ext ?_ ?_)))
  all_goals simp only []
  all_goals omega

theorem cI2 (k : Nat) (n h t a i w : Int) (hf : isa_formOf.m n = (2, h)) (h0 : 0 ≤ h) (h1 : h < 4294967296) (hh : h % 67108864 = 0) (ht : 0 ≤ t ∧ t ≤ 31) (ha : 0 ≤ a ∧ a ≤ 31) (hi : 0 ≤ i ∧ i ≤ 65535) (hw : w = h + a * 2097152 + t * 65536 + i) : candI w (k + 10) n = some (t, a, 0, i) ∧ w / 67108864 = h / 67108864 ∧ 0 ≤ w ∧ w < 4294967296 := by
  obtain ⟨w0, w1, e1, e2, e3, e4⟩ := fields (h / 67108864) (a) (t) (i) w (by omega) (by omega) (by omega) (by omega) (by omega)
  refine ⟨?_, e4, w0, w1⟩
  unfold candI
  simp only [hf, show decide ((2 : Int) = 1) = false from rfl, show decide ((2 : Int) = 2) = true from rfl, show decide ((2 : Int) = 3) = false from rfl, show decide ((2 : Int) = 4) = false from rfl, show decide ((2 : Int) = 5) = false from rfl, show decide ((2 : Int) = 6) = false from rfl, show decide ((2 : Int) = 7) = false from rfl, show decide ((2 : Int) = 8) = false from rfl, show decide ((2 : Int) = 9) = false from rfl, Bool.false_eq_true, if_false, if_true, reduceIte]
  rw [cu21 w w0 w1, cu16 w w0 w1, cu0 w w0 w1]
  rw [e1, e2, e3]
  refine congrArg some (Prod.ext rfl (Prod.ext rfl (Prod.ext ?_ ?_)))
  all_goals simp only []
  all_goals omega

theorem cI3 (k : Nat) (n h t a i w : Int) (hf : isa_formOf.m n = (3, h)) (h0 : 0 ≤ h) (h1 : h < 4294967296) (hh : h % 67108864 = 4) (ht : 0 ≤ t ∧ t ≤ 31) (ha : 0 ≤ a ∧ a ≤ 31) (hi : 0 ≤ i ∧ i ≤ 63) (hw : w = h + a * 2097152 + t * 65536 + i % 32 * 2048 + (63 - i) % 32 * 64 + (63 - i) / 32 * 32 + i / 32 * 2) : candI w (k + 10) n = some (t, a, 0, i) ∧ w / 67108864 = h / 67108864 ∧ 0 ≤ w ∧ w < 4294967296 := by
  obtain ⟨w0, w1, e1, e2, e3, e4⟩ := fields (h / 67108864) (a) (t) (i % 32 * 2048 + (63 - i) % 32 * 64 + (63 - i) / 32 * 32 + i / 32 * 2 + 4) w (by omega) (by omega) (by omega) (by omega) (by omega)
  refine ⟨?_, e4, w0, w1⟩
  unfold candI
  simp only [hf, show decide ((3 : Int) = 1) = false from rfl, show decide ((3 : Int) = 2) = false from rfl, show decide ((3 : Int) = 3) = true from rfl, show decide ((3 : Int) = 4) = false from rfl, show decide ((3 : Int) = 5) = false from rfl, show decide ((3 : Int) = 6) = false from rfl, show decide ((3 : Int) = 7) = false from rfl, show decide ((3 : Int) = 8) = false from rfl, show decide ((3 : Int) = 9) = false from rfl, Bool.false_eq_true, if_false, if_true, reduceIte]
  rw [cu21 w w0 w1, cu16 w w0 w1, cuX w w0 w1]
  rw [e1, e2, e3]
  refine congrArg some (Prod.ext rfl (Prod.ext rfl (Prod.ext rfl ?_)))
  exact low3 i hi

theorem cI4 (k : Nat) (n h t a b w : Int) (hf : isa_formOf.m n = (4, h)) (h0 : 0 ≤ h) (h1 : h < 4294967296) (hh : h % 67108864 < 2048) (ht : 0 ≤ t ∧ t ≤ 31) (ha : 0 ≤ a ∧ a ≤ 31) (hb : 0 ≤ b ∧ b ≤ 31) (hw : w = h + t * 2097152 + a * 65536 + b * 2048) : candI w (k + 10) n = some (t, a, b, 0) ∧ w / 67108864 = h / 67108864 ∧ 0 ≤ w ∧ w < 4294967296 := by
  obtain ⟨w0, w1, e1, e2, e3, e4⟩ := fields (h / 67108864) (t) (a) (b * 2048 + h % 67108864) w (by omega) (by omega) (by omega) (by omega) (by omega)
  refine ⟨?_, e4, w0, w1⟩
  unfold candI
  simp only [hf, show decide ((4 : Int) = 1) = false from rfl, show decide ((4 : Int) = 2) = false from rfl, show decide ((4 : Int) = 3) = false from rfl, show decide ((4 : Int) = 4) = true from rfl, show decide ((4 : Int) = 5) = false from rfl, show decide ((4 : Int) = 6) = false from rfl, show decide ((4 : Int) = 7) = false from rfl, show decide ((4 : Int) = 8) = false from rfl, show decide ((4 : Int) = 9) = false from rfl, Bool.false_eq_true, if_false, if_true, reduceIte]
  rw [cu21 w w0 w1, cu16 w w0 w1, cu11 w w0 w1]
  simp only [l11]
  rw [e1, e2, e3]
  refine congrArg some (Prod.ext rfl (Prod.ext rfl (Prod.ext ?_ ?_)))
  all_goals simp only []
  all_goals omega

theorem cI5 (k : Nat) (n h t a i w : Int) (hf : isa_formOf.m n = (5, h)) (h0 : 0 ≤ h) (h1 : h < 4294967296) (hh : h % 67108864 = 0) (ht : 0 ≤ t ∧ t ≤ 31) (ha : 0 ≤ a ∧ a ≤ 31) (hi : -32768 ≤ i ∧ i ≤ 32764 ∧ i % 4 = 0) (hw : w = h + t * 2097152 + a * 65536 + i % 65536) : candI w (k + 10) n = some (t, a, 0, i) ∧ w / 67108864 = h / 67108864 ∧ 0 ≤ w ∧ w < 4294967296 := by
  obtain ⟨w0, w1, e1, e2, e3, e4⟩ := fields (h / 67108864) (t) (a) (i % 65536) w (by omega) (by omega) (by omega) (by omega) (by omega)
  refine ⟨?_, e4, w0, w1⟩
  unfold candI
  simp only [hf, show decide ((5 : Int) = 1) = false from rfl, show decide ((5 : Int) = 2) = false from rfl, show decide ((5 : Int) = 3) = false from rfl, show decide ((5 : Int) = 4) = false from rfl, show decide ((5 : Int) = 5) = true from rfl, show decide ((5 : Int) = 6) = false from rfl, show decide ((5 : Int) = 7) = false from rfl, show decide ((5 : Int) = 8) = false from rfl, show decide ((5 : Int) = 9) = false from rfl, Bool.false_eq_true, if_false, if_true, reduceIte]
  rw [cu21 w w0 w1, cu16 w w0 w1, cu4 w w0 w1]
  rw [e1, e2, e3]
  refine congrArg some (Prod.ext rfl (Prod.ext rfl (Prod.ext ?_ ?_)))
  all_goals simp only []
  all_goals omega

theorem cI6 (k : Nat) (n h a b w : Int) (hf : isa_formOf.m n = (6, h)) (h0 : 0 ≤ h) (h1 : h < 4294967296) (hh : h % 67108864 = 2097152) (ha : 0 ≤ a ∧ a ≤ 31) (hb : 0 ≤ b ∧ b ≤ 31) (hw : w = h + a * 65536 + b * 2048) : candI w (k + 10) n = some (0, a, b, 0) ∧ w / 67108864 = h / 67108864 ∧ 0 ≤ w ∧ w < 4294967296 := by
  obtain ⟨w0, w1, e1, e2, e3, e4⟩ := fields (h / 67108864) (1) (a) (b * 2048) w (by omega) (by omega) (by omega) (by omega) (by omega)
  refine ⟨?_, e4, w0, w1⟩
  unfold candI
  simp only [hf, show decide ((6 : Int) = 1) = false from rfl, show decide ((6 : Int) = 2) = false from rfl, show decide ((6 : Int) = 3) = false from rfl, show decide ((6 : Int) = 4) = false from rfl, show decide ((6 : Int) = 5) = false from rfl, show decide ((6 : Int) = 6) = true from rfl, show decide ((6 : Int) = 7) = false from rfl, show decide ((6 : Int) = 8) = false from rfl, show decide ((6 : Int) = 9) = false from rfl, Bool.false_eq_true, if_false, if_true, reduceIte]
  rw [cu16 w w0 w1, cu11 w w0 w1]
  simp only [l11]
  rw [e2, e3]
  refine congrArg some (Prod.ext rfl (Prod.ext rfl (Prod.ext ?_ ?_)))
  all_goals simp only []
  all_goals omega

theorem cI7 (k : Nat) (n h a i w : Int) (hf : isa_formOf.m n = (7, h)) (h0 : 0 ≤ h) (h1 : h < 4294967296) (hh : h % 67108864 = 2097152) (ha : 0 ≤ a ∧ a ≤ 31) (hi : -32768 ≤ i ∧ i ≤ 32767) (hw : w = h + a * 65536 + i % 65536) : candI w (k + 10) n = some (0, a, 0, i) ∧ w / 67108864 = h / 67108864 ∧ 0 ≤ w ∧ w < 4294967296 := by
  obtain ⟨w0, w1, e1, e2, e3, e4⟩ := fields (h / 67108864) (1) (a) (i % 65536) w (by omega) (by omega) (by omega) (by omega) (by omega)
  refine ⟨?_, e4, w0, w1⟩
  unfold candI
  simp only [hf, show decide ((7 : Int) = 1) = false from rfl, show decide ((7 : Int) = 2) = false from rfl, show decide ((7 : Int) = 3) = false from rfl, show decide ((7 : Int) = 4) = false from rfl, show decide ((7 : Int) = 5) = false from rfl, show decide ((7 : Int) = 6) = false from rfl, show decide ((7 : Int) = 7) = true from rfl, show decide ((7 : Int) = 8) = false from rfl, show decide ((7 : Int) = 9) = false from rfl, Bool.false_eq_true, if_false, if_true, reduceIte]
  rw [cu16 w w0 w1, cuS w w0 w1]
  rw [e2, e3]
  refine congrArg some (Prod.ext rfl (Prod.ext rfl (Prod.ext ?_ ?_)))
  all_goals simp only []
  all_goals omega

theorem cI8 (k : Nat) (n h t i w : Int) (hf : isa_formOf.m n = (8, h)) (h0 : 0 ≤ h) (h1 : h < 4294967296) (hh : h % 67108864 = 0) (ht : 0 ≤ t ∧ t ≤ 3) (hi : -32768 ≤ i ∧ i ≤ 32764 ∧ i % 4 = 0) (hw : w = h + isa_cond.m t + i % 65536) : candI w (k + 10) n = some (t, 0, 0, i) ∧ w / 67108864 = h / 67108864 ∧ 0 ≤ w ∧ w < 4294967296 := by
  have key : ∀ (x y : Int), isa_cond.m t = x * 2097152 + y * 65536 → 0 ≤ x ∧ x ≤ 31 → 0 ≤ y ∧ y ≤ 31 → (isa_Decode.l1 w (k + 10) 0 = some t ∨ bits .and .u32 w 67043328 ≠ isa_cond.m t) → candI w (k + 10) n = some (t, 0, 0, i) ∧ w / 67108864 = h / 67108864 ∧ 0 ≤ w ∧ w < 4294967296 := by
    intro x y hc hx hy hl
    obtain ⟨w0, w1, e1, e2, e3, e4⟩ := fields (h / 67108864) x y (i % 65536) w (by omega) (by omega) hx hy (by omega)
    have hC : bits .and .u32 w 67043328 = isa_cond.m t := by rw [cuC w w0 w1, hc]; omega
    refine ⟨?_, e4, w0, w1⟩
    unfold candI
    simp only [hf, show decide ((8 : Int) = 1) = false from rfl, show decide ((8 : Int) = 2) = false from rfl, show decide ((8 : Int) = 3) = false from rfl, show decide ((8 : Int) = 4) = false from rfl, show decide ((8 : Int) = 5) = false from rfl, show decide ((8 : Int) = 6) = false from rfl, show decide ((8 : Int) = 7) = false from rfl, show decide ((8 : Int) = 8) = true from rfl, show decide ((8 : Int) = 9) = false from rfl, Bool.false_eq_true, if_false, if_true, reduceIte]
    rw [hl.resolve_right fun h => h hC, Option.bind_some, cu4 w w0 w1, e3]
    refine congrArg some (Prod.ext rfl (Prod.ext rfl (Prod.ext rfl ?_)))
    simp only []
    omega
  have loop : bits .and .u32 w 67043328 = isa_cond.m t → isa_Decode.l1 w (k + 10) 0 = some t := by
    intro eC
    rcases (by omega : t = 0 ∨ t = 1 ∨ t = 2 ∨ t = 3) with rfl | rfl | rfl | rfl
    · rw [isa_Decode.l1, eC, if_neg (by decide)]
    · rw [isa_Decode.l1, eC, if_pos (by decide), isa_Decode.l1, eC, if_neg (by decide)]; rfl
    · rw [isa_Decode.l1, eC, if_pos (by decide), isa_Decode.l1, eC, if_pos (by decide), isa_Decode.l1, eC, if_neg (by decide)]; rfl
    · rw [isa_Decode.l1, eC, if_pos (by decide), isa_Decode.l1, eC, if_pos (by decide), isa_Decode.l1, eC, if_pos (by decide), isa_Decode.l1, eC, if_neg (by decide)]; rfl
  have hl : isa_Decode.l1 w (k + 10) 0 = some t ∨ bits .and .u32 w 67043328 ≠ isa_cond.m t := by
    by_cases e : bits .and .u32 w 67043328 = isa_cond.m t
    · exact .inl (loop e)
    · exact .inr e
  rcases (by omega : t = 0 ∨ t = 1 ∨ t = 2 ∨ t = 3) with rfl | rfl | rfl | rfl
  · exact key 12 0 rfl (by decide) (by decide) hl
  · exact key 4 0 rfl (by decide) (by decide) hl
  · exact key 12 2 rfl (by decide) (by decide) hl
  · exact key 4 2 rfl (by decide) (by decide) hl

theorem cI9 (k : Nat) (n h i w : Int) (hf : isa_formOf.m n = (9, h)) (h0 : 0 ≤ h) (h1 : h < 4294967296) (hh : h % 67108864 = 0) (hi : -33554432 ≤ i ∧ i ≤ 33554428 ∧ i % 4 = 0) (hw : w = h + i % 67108864) : candI w (k + 10) n = some (0, 0, 0, i) ∧ w / 67108864 = h / 67108864 ∧ 0 ≤ w ∧ w < 4294967296 := by
  have w0 : 0 ≤ w := by omega
  have w1 : w < 4294967296 := by omega
  have e3 : w % 67108864 = i % 67108864 := by omega
  refine ⟨?_, by omega, w0, w1⟩
  unfold candI
  simp only [hf, show decide ((9 : Int) = 1) = false from rfl, show decide ((9 : Int) = 2) = false from rfl, show decide ((9 : Int) = 3) = false from rfl, show decide ((9 : Int) = 4) = false from rfl, show decide ((9 : Int) = 5) = false from rfl, show decide ((9 : Int) = 6) = false from rfl, show decide ((9 : Int) = 7) = false from rfl, show decide ((9 : Int) = 8) = false from rfl, show decide ((9 : Int) = 9) = true from rfl, Bool.false_eq_true, if_false, if_true, reduceIte]
  rw [cu26 w w0 w1, e3]
  refine congrArg some (Prod.ext rfl (Prod.ext rfl (Prod.ext rfl ?_)))
  simp only []
  omega

theorem cI10 (k : Nat) (n h  w : Int) (hf : isa_formOf.m n = (10, h)) (h0 : 0 ≤ h) (h1 : h < 4294967296)   (hw : w = h) : candI w (k + 10) n = some (0, 0, 0, 0) ∧ w / 67108864 = h / 67108864 ∧ 0 ≤ w ∧ w < 4294967296 := by
  subst hw
  refine ⟨?_, rfl, h0, h1⟩
  unfold candI
  simp only [hf, show decide ((10 : Int) = 1) = false from rfl, show decide ((10 : Int) = 2) = false from rfl, show decide ((10 : Int) = 3) = false from rfl, show decide ((10 : Int) = 4) = false from rfl, show decide ((10 : Int) = 5) = false from rfl, show decide ((10 : Int) = 6) = false from rfl, show decide ((10 : Int) = 7) = false from rfl, show decide ((10 : Int) = 8) = false from rfl, show decide ((10 : Int) = 9) = false from rfl, Bool.false_eq_true, if_false, if_true]

end Go.Proofs.Ytallojficgiemaa.W
