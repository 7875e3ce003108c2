/- Chapter 15: what is decoded, and the laws that follow. -/
import Derived.Test.YtallojficgiemaaPureIsaE
set_option linter.unusedVariables false
set_option linter.unusedSimpArgs false
namespace Go.Proofs.Ytallojficgiemaa.W
open Go Go.RowKit Go.Proofs.Ytallojficgiemaa.B
def key (w : Int) : Int := if w / 67108864 = 31 then (if w % 2048 = 1196 then 5000 + w / 2097152 % 32 else w % 2048) else 10000 + w / 67108864
def opK (v : Int) : Int := if v = 10014 then 1 else if v = 10015 then 2 else if v = 10024 then 3 else if v = 10025 then 4 else if v = 10030 then 5 else if v = 532 then 6 else if v = 80 then 7 else if v = 466 then 8 else if v = 978 then 9 else if v = 10058 then 10 else if v = 10062 then 11 else if v = 42 then 12 else if v = 298 then 13 else if v = 168 then 14 else if v = 429 then 15 else if v = 0 then 16 else if v = 10011 then 17 else if v = 10016 then 18 else if v = 10018 then 19 else if v = 5000 then 20 else if v = 5001 then 21 else if v = 10019 then 22 else if v = 10017 then 23 else 0
theorem encOk1 (t a b i w : Int) (h : isa_Encode.m ⟨1, t, a, b, i⟩ = some (w, 0)) : ¬ (b ≠ 0) ∧ ((0 ≤ t ∧ t ≤ 31) ∧ (0 ≤ a ∧ a ≤ 31) ∧ (-32768 ≤ i ∧ i ≤ 32767)) ∧ w = 939524096 + t * 2097152 + a * 65536 + i % 65536 := by
  rw [isaE1] at h
  by_cases hF : b ≠ 0
  · rw [if_pos hF] at h; simp at h
  · by_cases hR : (0 ≤ t ∧ t ≤ 31) ∧ (0 ≤ a ∧ a ≤ 31) ∧ (-32768 ≤ i ∧ i ≤ 32767)
    · rw [if_neg hF, if_pos hR] at h
      exact ⟨hF, hR, (congrArg Prod.fst (Option.some.inj h)).symm⟩
    · rw [if_neg hF, if_neg hR] at h; simp at h
theorem dec1 (k : Nat) (t a b i w : Int) (h : isa_Encode.m ⟨1, t, a, b, i⟩ = some (w, 0)) :
    candI w (k + 10) 1 = some (t, a, b, i) ∧ w / 67108864 = (isa_formOf.m 1).2 / 67108864 ∧ 0 ≤ w ∧ w < 4294967296 ∧ opK (key w) = 1 := by
  obtain ⟨hF, hR, hw⟩ := encOk1 t a b i w h
  have hb : b = 0 := by omega
  subst hb
  obtain ⟨e1, e2, w0, w1⟩ := cI1 k 1 939524096 t a i w rfl (by decide) (by decide) (by decide) hR.1 hR.2.1 hR.2.2 hw
  refine ⟨e1, e2, w0, w1, ?_⟩
  have hk : key w = 10014 := by
    clear e1 h
    unfold key
    have e3 : w / 67108864 = 14 := e2
    rw [if_neg (by omega)]; omega
  rw [hk]; rfl
theorem encOk2 (t a b i w : Int) (h : isa_Encode.m ⟨2, t, a, b, i⟩ = some (w, 0)) : ¬ (b ≠ 0) ∧ ((0 ≤ t ∧ t ≤ 31) ∧ (0 ≤ a ∧ a ≤ 31) ∧ (-32768 ≤ i ∧ i ≤ 32767)) ∧ w = 1006632960 + t * 2097152 + a * 65536 + i % 65536 := by
  rw [isaE2] at h
  by_cases hF : b ≠ 0
  · rw [if_pos hF] at h; simp at h
  · by_cases hR : (0 ≤ t ∧ t ≤ 31) ∧ (0 ≤ a ∧ a ≤ 31) ∧ (-32768 ≤ i ∧ i ≤ 32767)
    · rw [if_neg hF, if_pos hR] at h
      exact ⟨hF, hR, (congrArg Prod.fst (Option.some.inj h)).symm⟩
    · rw [if_neg hF, if_neg hR] at h; simp at h
theorem dec2 (k : Nat) (t a b i w : Int) (h : isa_Encode.m ⟨2, t, a, b, i⟩ = some (w, 0)) :
    candI w (k + 10) 2 = some (t, a, b, i) ∧ w / 67108864 = (isa_formOf.m 2).2 / 67108864 ∧ 0 ≤ w ∧ w < 4294967296 ∧ opK (key w) = 2 := by
  obtain ⟨hF, hR, hw⟩ := encOk2 t a b i w h
  have hb : b = 0 := by omega
  subst hb
  obtain ⟨e1, e2, w0, w1⟩ := cI1 k 2 1006632960 t a i w rfl (by decide) (by decide) (by decide) hR.1 hR.2.1 hR.2.2 hw
  refine ⟨e1, e2, w0, w1, ?_⟩
  have hk : key w = 10015 := by
    clear e1 h
    unfold key
    have e3 : w / 67108864 = 15 := e2
    rw [if_neg (by omega)]; omega
  rw [hk]; rfl
theorem encOk3 (t a b i w : Int) (h : isa_Encode.m ⟨3, t, a, b, i⟩ = some (w, 0)) : ¬ (b ≠ 0) ∧ ((0 ≤ t ∧ t ≤ 31) ∧ (0 ≤ a ∧ a ≤ 31) ∧ (0 ≤ i ∧ i ≤ 65535)) ∧ w = 1610612736 + a * 2097152 + t * 65536 + i := by
  rw [isaE3] at h
  by_cases hF : b ≠ 0
  · rw [if_pos hF] at h; simp at h
  · by_cases hR : (0 ≤ t ∧ t ≤ 31) ∧ (0 ≤ a ∧ a ≤ 31) ∧ (0 ≤ i ∧ i ≤ 65535)
    · rw [if_neg hF, if_pos hR] at h
      exact ⟨hF, hR, (congrArg Prod.fst (Option.some.inj h)).symm⟩
    · rw [if_neg hF, if_neg hR] at h; simp at h
theorem dec3 (k : Nat) (t a b i w : Int) (h : isa_Encode.m ⟨3, t, a, b, i⟩ = some (w, 0)) :
    candI w (k + 10) 3 = some (t, a, b, i) ∧ w / 67108864 = (isa_formOf.m 3).2 / 67108864 ∧ 0 ≤ w ∧ w < 4294967296 ∧ opK (key w) = 3 := by
  obtain ⟨hF, hR, hw⟩ := encOk3 t a b i w h
  have hb : b = 0 := by omega
  subst hb
  obtain ⟨e1, e2, w0, w1⟩ := cI2 k 3 1610612736 t a i w rfl (by decide) (by decide) (by decide) hR.1 hR.2.1 hR.2.2 hw
  refine ⟨e1, e2, w0, w1, ?_⟩
  have hk : key w = 10024 := by
    clear e1 h
    unfold key
    have e3 : w / 67108864 = 24 := e2
    rw [if_neg (by omega)]; omega
  rw [hk]; rfl
theorem encOk4 (t a b i w : Int) (h : isa_Encode.m ⟨4, t, a, b, i⟩ = some (w, 0)) : ¬ (b ≠ 0) ∧ ((0 ≤ t ∧ t ≤ 31) ∧ (0 ≤ a ∧ a ≤ 31) ∧ (0 ≤ i ∧ i ≤ 65535)) ∧ w = 1677721600 + a * 2097152 + t * 65536 + i := by
  rw [isaE4] at h
  by_cases hF : b ≠ 0
  · rw [if_pos hF] at h; simp at h
  · by_cases hR : (0 ≤ t ∧ t ≤ 31) ∧ (0 ≤ a ∧ a ≤ 31) ∧ (0 ≤ i ∧ i ≤ 65535)
    · rw [if_neg hF, if_pos hR] at h
      exact ⟨hF, hR, (congrArg Prod.fst (Option.some.inj h)).symm⟩
    · rw [if_neg hF, if_neg hR] at h; simp at h
theorem dec4 (k : Nat) (t a b i w : Int) (h : isa_Encode.m ⟨4, t, a, b, i⟩ = some (w, 0)) :
    candI w (k + 10) 4 = some (t, a, b, i) ∧ w / 67108864 = (isa_formOf.m 4).2 / 67108864 ∧ 0 ≤ w ∧ w < 4294967296 ∧ opK (key w) = 4 := by
  obtain ⟨hF, hR, hw⟩ := encOk4 t a b i w h
  have hb : b = 0 := by omega
  subst hb
  obtain ⟨e1, e2, w0, w1⟩ := cI2 k 4 1677721600 t a i w rfl (by decide) (by decide) (by decide) hR.1 hR.2.1 hR.2.2 hw
  refine ⟨e1, e2, w0, w1, ?_⟩
  have hk : key w = 10025 := by
    clear e1 h
    unfold key
    have e3 : w / 67108864 = 25 := e2
    rw [if_neg (by omega)]; omega
  rw [hk]; rfl
theorem encOk5 (t a b i w : Int) (h : isa_Encode.m ⟨5, t, a, b, i⟩ = some (w, 0)) : ¬ (b ≠ 0) ∧ ((0 ≤ t ∧ t ≤ 31) ∧ (0 ≤ a ∧ a ≤ 31) ∧ (0 ≤ i ∧ i ≤ 63)) ∧ w = 2013265924 + a * 2097152 + t * 65536 + i % 32 * 2048 + (63 - i) % 32 * 64 + (63 - i) / 32 * 32 + i / 32 * 2 := by
  rw [isaE5] at h
  by_cases hF : b ≠ 0
  · rw [if_pos hF] at h; simp at h
  · by_cases hR : (0 ≤ t ∧ t ≤ 31) ∧ (0 ≤ a ∧ a ≤ 31) ∧ (0 ≤ i ∧ i ≤ 63)
    · rw [if_neg hF, if_pos hR] at h
      exact ⟨hF, hR, (congrArg Prod.fst (Option.some.inj h)).symm⟩
    · rw [if_neg hF, if_neg hR] at h; simp at h
theorem dec5 (k : Nat) (t a b i w : Int) (h : isa_Encode.m ⟨5, t, a, b, i⟩ = some (w, 0)) :
    candI w (k + 10) 5 = some (t, a, b, i) ∧ w / 67108864 = (isa_formOf.m 5).2 / 67108864 ∧ 0 ≤ w ∧ w < 4294967296 ∧ opK (key w) = 5 := by
  obtain ⟨hF, hR, hw⟩ := encOk5 t a b i w h
  have hb : b = 0 := by omega
  subst hb
  obtain ⟨e1, e2, w0, w1⟩ := cI3 k 5 2013265924 t a i w rfl (by decide) (by decide) (by decide) hR.1 hR.2.1 hR.2.2 hw
  refine ⟨e1, e2, w0, w1, ?_⟩
  have hk : key w = 10030 := by
    clear e1 h
    unfold key
    have e3 : w / 67108864 = 30 := e2
    rw [if_neg (by omega)]; omega
  rw [hk]; rfl
theorem encOk6 (t a b i w : Int) (h : isa_Encode.m ⟨6, t, a, b, i⟩ = some (w, 0)) : ¬ (i ≠ 0) ∧ ((0 ≤ t ∧ t ≤ 31) ∧ (0 ≤ a ∧ a ≤ 31) ∧ (0 ≤ b ∧ b ≤ 31)) ∧ w = 2080375316 + t * 2097152 + a * 65536 + b * 2048 := by
  rw [isaE6] at h
  by_cases hF : i ≠ 0
  · rw [if_pos hF] at h; simp at h
  · by_cases hR : (0 ≤ t ∧ t ≤ 31) ∧ (0 ≤ a ∧ a ≤ 31) ∧ (0 ≤ b ∧ b ≤ 31)
    · rw [if_neg hF, if_pos hR] at h
      exact ⟨hF, hR, (congrArg Prod.fst (Option.some.inj h)).symm⟩
    · rw [if_neg hF, if_neg hR] at h; simp at h
theorem dec6 (k : Nat) (t a b i w : Int) (h : isa_Encode.m ⟨6, t, a, b, i⟩ = some (w, 0)) :
    candI w (k + 10) 6 = some (t, a, b, i) ∧ w / 67108864 = (isa_formOf.m 6).2 / 67108864 ∧ 0 ≤ w ∧ w < 4294967296 ∧ opK (key w) = 6 := by
  obtain ⟨hF, hR, hw⟩ := encOk6 t a b i w h
  have hi : i = 0 := by omega
  subst hi
  obtain ⟨e1, e2, w0, w1⟩ := cI4 k 6 2080375316 t a b w rfl (by decide) (by decide) (by decide) hR.1 hR.2.1 hR.2.2 hw
  refine ⟨e1, e2, w0, w1, ?_⟩
  have hk : key w = 532 := by
    clear e1 h
    unfold key
    have e3 : w / 67108864 = 31 := e2
    have e4 : w % 2048 = 532 := by omega
    rw [if_pos e3, if_neg (by omega)]; omega
  rw [hk]; rfl
theorem encOk7 (t a b i w : Int) (h : isa_Encode.m ⟨7, t, a, b, i⟩ = some (w, 0)) : ¬ (i ≠ 0) ∧ ((0 ≤ t ∧ t ≤ 31) ∧ (0 ≤ a ∧ a ≤ 31) ∧ (0 ≤ b ∧ b ≤ 31)) ∧ w = 2080374864 + t * 2097152 + a * 65536 + b * 2048 := by
  rw [isaE7] at h
  by_cases hF : i ≠ 0
  · rw [if_pos hF] at h; simp at h
  · by_cases hR : (0 ≤ t ∧ t ≤ 31) ∧ (0 ≤ a ∧ a ≤ 31) ∧ (0 ≤ b ∧ b ≤ 31)
    · rw [if_neg hF, if_pos hR] at h
      exact ⟨hF, hR, (congrArg Prod.fst (Option.some.inj h)).symm⟩
    · rw [if_neg hF, if_neg hR] at h; simp at h
theorem dec7 (k : Nat) (t a b i w : Int) (h : isa_Encode.m ⟨7, t, a, b, i⟩ = some (w, 0)) :
    candI w (k + 10) 7 = some (t, a, b, i) ∧ w / 67108864 = (isa_formOf.m 7).2 / 67108864 ∧ 0 ≤ w ∧ w < 4294967296 ∧ opK (key w) = 7 := by
  obtain ⟨hF, hR, hw⟩ := encOk7 t a b i w h
  have hi : i = 0 := by omega
  subst hi
  obtain ⟨e1, e2, w0, w1⟩ := cI4 k 7 2080374864 t a b w rfl (by decide) (by decide) (by decide) hR.1 hR.2.1 hR.2.2 hw
  refine ⟨e1, e2, w0, w1, ?_⟩
  have hk : key w = 80 := by
    clear e1 h
    unfold key
    have e3 : w / 67108864 = 31 := e2
    have e4 : w % 2048 = 80 := by omega
    rw [if_pos e3, if_neg (by omega)]; omega
  rw [hk]; rfl
theorem encOk8 (t a b i w : Int) (h : isa_Encode.m ⟨8, t, a, b, i⟩ = some (w, 0)) : ¬ (i ≠ 0) ∧ ((0 ≤ t ∧ t ≤ 31) ∧ (0 ≤ a ∧ a ≤ 31) ∧ (0 ≤ b ∧ b ≤ 31)) ∧ w = 2080375250 + t * 2097152 + a * 65536 + b * 2048 := by
  rw [isaE8] at h
  by_cases hF : i ≠ 0
  · rw [if_pos hF] at h; simp at h
  · by_cases hR : (0 ≤ t ∧ t ≤ 31) ∧ (0 ≤ a ∧ a ≤ 31) ∧ (0 ≤ b ∧ b ≤ 31)
    · rw [if_neg hF, if_pos hR] at h
      exact ⟨hF, hR, (congrArg Prod.fst (Option.some.inj h)).symm⟩
    · rw [if_neg hF, if_neg hR] at h; simp at h
theorem dec8 (k : Nat) (t a b i w : Int) (h : isa_Encode.m ⟨8, t, a, b, i⟩ = some (w, 0)) :
    candI w (k + 10) 8 = some (t, a, b, i) ∧ w / 67108864 = (isa_formOf.m 8).2 / 67108864 ∧ 0 ≤ w ∧ w < 4294967296 ∧ opK (key w) = 8 := by
  obtain ⟨hF, hR, hw⟩ := encOk8 t a b i w h
  have hi : i = 0 := by omega
  subst hi
  obtain ⟨e1, e2, w0, w1⟩ := cI4 k 8 2080375250 t a b w rfl (by decide) (by decide) (by decide) hR.1 hR.2.1 hR.2.2 hw
  refine ⟨e1, e2, w0, w1, ?_⟩
  have hk : key w = 466 := by
    clear e1 h
    unfold key
    have e3 : w / 67108864 = 31 := e2
    have e4 : w % 2048 = 466 := by omega
    rw [if_pos e3, if_neg (by omega)]; omega
  rw [hk]; rfl
theorem encOk9 (t a b i w : Int) (h : isa_Encode.m ⟨9, t, a, b, i⟩ = some (w, 0)) : ¬ (i ≠ 0) ∧ ((0 ≤ t ∧ t ≤ 31) ∧ (0 ≤ a ∧ a ≤ 31) ∧ (0 ≤ b ∧ b ≤ 31)) ∧ w = 2080375762 + t * 2097152 + a * 65536 + b * 2048 := by
  rw [isaE9] at h
  by_cases hF : i ≠ 0
  · rw [if_pos hF] at h; simp at h
  · by_cases hR : (0 ≤ t ∧ t ≤ 31) ∧ (0 ≤ a ∧ a ≤ 31) ∧ (0 ≤ b ∧ b ≤ 31)
    · rw [if_neg hF, if_pos hR] at h
      exact ⟨hF, hR, (congrArg Prod.fst (Option.some.inj h)).symm⟩
    · rw [if_neg hF, if_neg hR] at h; simp at h
theorem dec9 (k : Nat) (t a b i w : Int) (h : isa_Encode.m ⟨9, t, a, b, i⟩ = some (w, 0)) :
    candI w (k + 10) 9 = some (t, a, b, i) ∧ w / 67108864 = (isa_formOf.m 9).2 / 67108864 ∧ 0 ≤ w ∧ w < 4294967296 ∧ opK (key w) = 9 := by
  obtain ⟨hF, hR, hw⟩ := encOk9 t a b i w h
  have hi : i = 0 := by omega
  subst hi
  obtain ⟨e1, e2, w0, w1⟩ := cI4 k 9 2080375762 t a b w rfl (by decide) (by decide) (by decide) hR.1 hR.2.1 hR.2.2 hw
  refine ⟨e1, e2, w0, w1, ?_⟩
  have hk : key w = 978 := by
    clear e1 h
    unfold key
    have e3 : w / 67108864 = 31 := e2
    have e4 : w % 2048 = 978 := by omega
    rw [if_pos e3, if_neg (by omega)]; omega
  rw [hk]; rfl
theorem encOk10 (t a b i w : Int) (h : isa_Encode.m ⟨10, t, a, b, i⟩ = some (w, 0)) : ¬ (b ≠ 0) ∧ ((0 ≤ t ∧ t ≤ 31) ∧ (0 ≤ a ∧ a ≤ 31) ∧ (-32768 ≤ i ∧ i ≤ 32764 ∧ i % 4 = 0)) ∧ w = 3892314112 + t * 2097152 + a * 65536 + i % 65536 := by
  rw [isaE10] at h
  by_cases hF : b ≠ 0
  · rw [if_pos hF] at h; simp at h
  · by_cases hR : (0 ≤ t ∧ t ≤ 31) ∧ (0 ≤ a ∧ a ≤ 31) ∧ (-32768 ≤ i ∧ i ≤ 32764 ∧ i % 4 = 0)
    · rw [if_neg hF, if_pos hR] at h
      exact ⟨hF, hR, (congrArg Prod.fst (Option.some.inj h)).symm⟩
    · rw [if_neg hF, if_neg hR] at h; simp at h
theorem dec10 (k : Nat) (t a b i w : Int) (h : isa_Encode.m ⟨10, t, a, b, i⟩ = some (w, 0)) :
    candI w (k + 10) 10 = some (t, a, b, i) ∧ w / 67108864 = (isa_formOf.m 10).2 / 67108864 ∧ 0 ≤ w ∧ w < 4294967296 ∧ opK (key w) = 10 := by
  obtain ⟨hF, hR, hw⟩ := encOk10 t a b i w h
  have hb : b = 0 := by omega
  subst hb
  obtain ⟨e1, e2, w0, w1⟩ := cI5 k 10 3892314112 t a i w rfl (by decide) (by decide) (by decide) hR.1 hR.2.1 hR.2.2 hw
  refine ⟨e1, e2, w0, w1, ?_⟩
  have hk : key w = 10058 := by
    clear e1 h
    unfold key
    have e3 : w / 67108864 = 58 := e2
    rw [if_neg (by omega)]; omega
  rw [hk]; rfl
theorem encOk11 (t a b i w : Int) (h : isa_Encode.m ⟨11, t, a, b, i⟩ = some (w, 0)) : ¬ (b ≠ 0) ∧ ((0 ≤ t ∧ t ≤ 31) ∧ (0 ≤ a ∧ a ≤ 31) ∧ (-32768 ≤ i ∧ i ≤ 32764 ∧ i % 4 = 0)) ∧ w = 4160749568 + t * 2097152 + a * 65536 + i % 65536 := by
  rw [isaE11] at h
  by_cases hF : b ≠ 0
  · rw [if_pos hF] at h; simp at h
  · by_cases hR : (0 ≤ t ∧ t ≤ 31) ∧ (0 ≤ a ∧ a ≤ 31) ∧ (-32768 ≤ i ∧ i ≤ 32764 ∧ i % 4 = 0)
    · rw [if_neg hF, if_pos hR] at h
      exact ⟨hF, hR, (congrArg Prod.fst (Option.some.inj h)).symm⟩
    · rw [if_neg hF, if_neg hR] at h; simp at h
theorem dec11 (k : Nat) (t a b i w : Int) (h : isa_Encode.m ⟨11, t, a, b, i⟩ = some (w, 0)) :
    candI w (k + 10) 11 = some (t, a, b, i) ∧ w / 67108864 = (isa_formOf.m 11).2 / 67108864 ∧ 0 ≤ w ∧ w < 4294967296 ∧ opK (key w) = 11 := by
  obtain ⟨hF, hR, hw⟩ := encOk11 t a b i w h
  have hb : b = 0 := by omega
  subst hb
  obtain ⟨e1, e2, w0, w1⟩ := cI5 k 11 4160749568 t a i w rfl (by decide) (by decide) (by decide) hR.1 hR.2.1 hR.2.2 hw
  refine ⟨e1, e2, w0, w1, ?_⟩
  have hk : key w = 10062 := by
    clear e1 h
    unfold key
    have e3 : w / 67108864 = 62 := e2
    rw [if_neg (by omega)]; omega
  rw [hk]; rfl
theorem encOk12 (t a b i w : Int) (h : isa_Encode.m ⟨12, t, a, b, i⟩ = some (w, 0)) : ¬ (i ≠ 0) ∧ ((0 ≤ t ∧ t ≤ 31) ∧ (0 ≤ a ∧ a ≤ 31) ∧ (0 ≤ b ∧ b ≤ 31)) ∧ w = 2080374826 + t * 2097152 + a * 65536 + b * 2048 := by
  rw [isaE12] at h
  by_cases hF : i ≠ 0
  · rw [if_pos hF] at h; simp at h
  · by_cases hR : (0 ≤ t ∧ t ≤ 31) ∧ (0 ≤ a ∧ a ≤ 31) ∧ (0 ≤ b ∧ b ≤ 31)
    · rw [if_neg hF, if_pos hR] at h
      exact ⟨hF, hR, (congrArg Prod.fst (Option.some.inj h)).symm⟩
    · rw [if_neg hF, if_neg hR] at h; simp at h
theorem dec12 (k : Nat) (t a b i w : Int) (h : isa_Encode.m ⟨12, t, a, b, i⟩ = some (w, 0)) :
    candI w (k + 10) 12 = some (t, a, b, i) ∧ w / 67108864 = (isa_formOf.m 12).2 / 67108864 ∧ 0 ≤ w ∧ w < 4294967296 ∧ opK (key w) = 12 := by
  obtain ⟨hF, hR, hw⟩ := encOk12 t a b i w h
  have hi : i = 0 := by omega
  subst hi
  obtain ⟨e1, e2, w0, w1⟩ := cI4 k 12 2080374826 t a b w rfl (by decide) (by decide) (by decide) hR.1 hR.2.1 hR.2.2 hw
  refine ⟨e1, e2, w0, w1, ?_⟩
  have hk : key w = 42 := by
    clear e1 h
    unfold key
    have e3 : w / 67108864 = 31 := e2
    have e4 : w % 2048 = 42 := by omega
    rw [if_pos e3, if_neg (by omega)]; omega
  rw [hk]; rfl
theorem encOk13 (t a b i w : Int) (h : isa_Encode.m ⟨13, t, a, b, i⟩ = some (w, 0)) : ¬ (i ≠ 0) ∧ ((0 ≤ t ∧ t ≤ 31) ∧ (0 ≤ a ∧ a ≤ 31) ∧ (0 ≤ b ∧ b ≤ 31)) ∧ w = 2080375082 + t * 2097152 + a * 65536 + b * 2048 := by
  rw [isaE13] at h
  by_cases hF : i ≠ 0
  · rw [if_pos hF] at h; simp at h
  · by_cases hR : (0 ≤ t ∧ t ≤ 31) ∧ (0 ≤ a ∧ a ≤ 31) ∧ (0 ≤ b ∧ b ≤ 31)
    · rw [if_neg hF, if_pos hR] at h
      exact ⟨hF, hR, (congrArg Prod.fst (Option.some.inj h)).symm⟩
    · rw [if_neg hF, if_neg hR] at h; simp at h
theorem dec13 (k : Nat) (t a b i w : Int) (h : isa_Encode.m ⟨13, t, a, b, i⟩ = some (w, 0)) :
    candI w (k + 10) 13 = some (t, a, b, i) ∧ w / 67108864 = (isa_formOf.m 13).2 / 67108864 ∧ 0 ≤ w ∧ w < 4294967296 ∧ opK (key w) = 13 := by
  obtain ⟨hF, hR, hw⟩ := encOk13 t a b i w h
  have hi : i = 0 := by omega
  subst hi
  obtain ⟨e1, e2, w0, w1⟩ := cI4 k 13 2080375082 t a b w rfl (by decide) (by decide) (by decide) hR.1 hR.2.1 hR.2.2 hw
  refine ⟨e1, e2, w0, w1, ?_⟩
  have hk : key w = 298 := by
    clear e1 h
    unfold key
    have e3 : w / 67108864 = 31 := e2
    have e4 : w % 2048 = 298 := by omega
    rw [if_pos e3, if_neg (by omega)]; omega
  rw [hk]; rfl
theorem encOk14 (t a b i w : Int) (h : isa_Encode.m ⟨14, t, a, b, i⟩ = some (w, 0)) : ¬ (i ≠ 0) ∧ ((0 ≤ t ∧ t ≤ 31) ∧ (0 ≤ a ∧ a ≤ 31) ∧ (0 ≤ b ∧ b ≤ 31)) ∧ w = 2080374952 + t * 2097152 + a * 65536 + b * 2048 := by
  rw [isaE14] at h
  by_cases hF : i ≠ 0
  · rw [if_pos hF] at h; simp at h
  · by_cases hR : (0 ≤ t ∧ t ≤ 31) ∧ (0 ≤ a ∧ a ≤ 31) ∧ (0 ≤ b ∧ b ≤ 31)
    · rw [if_neg hF, if_pos hR] at h
      exact ⟨hF, hR, (congrArg Prod.fst (Option.some.inj h)).symm⟩
    · rw [if_neg hF, if_neg hR] at h; simp at h
theorem dec14 (k : Nat) (t a b i w : Int) (h : isa_Encode.m ⟨14, t, a, b, i⟩ = some (w, 0)) :
    candI w (k + 10) 14 = some (t, a, b, i) ∧ w / 67108864 = (isa_formOf.m 14).2 / 67108864 ∧ 0 ≤ w ∧ w < 4294967296 ∧ opK (key w) = 14 := by
  obtain ⟨hF, hR, hw⟩ := encOk14 t a b i w h
  have hi : i = 0 := by omega
  subst hi
  obtain ⟨e1, e2, w0, w1⟩ := cI4 k 14 2080374952 t a b w rfl (by decide) (by decide) (by decide) hR.1 hR.2.1 hR.2.2 hw
  refine ⟨e1, e2, w0, w1, ?_⟩
  have hk : key w = 168 := by
    clear e1 h
    unfold key
    have e3 : w / 67108864 = 31 := e2
    have e4 : w % 2048 = 168 := by omega
    rw [if_pos e3, if_neg (by omega)]; omega
  rw [hk]; rfl
theorem encOk15 (t a b i w : Int) (h : isa_Encode.m ⟨15, t, a, b, i⟩ = some (w, 0)) : ¬ (i ≠ 0) ∧ ((0 ≤ t ∧ t ≤ 31) ∧ (0 ≤ a ∧ a ≤ 31) ∧ (0 ≤ b ∧ b ≤ 31)) ∧ w = 2080375213 + t * 2097152 + a * 65536 + b * 2048 := by
  rw [isaE15] at h
  by_cases hF : i ≠ 0
  · rw [if_pos hF] at h; simp at h
  · by_cases hR : (0 ≤ t ∧ t ≤ 31) ∧ (0 ≤ a ∧ a ≤ 31) ∧ (0 ≤ b ∧ b ≤ 31)
    · rw [if_neg hF, if_pos hR] at h
      exact ⟨hF, hR, (congrArg Prod.fst (Option.some.inj h)).symm⟩
    · rw [if_neg hF, if_neg hR] at h; simp at h
theorem dec15 (k : Nat) (t a b i w : Int) (h : isa_Encode.m ⟨15, t, a, b, i⟩ = some (w, 0)) :
    candI w (k + 10) 15 = some (t, a, b, i) ∧ w / 67108864 = (isa_formOf.m 15).2 / 67108864 ∧ 0 ≤ w ∧ w < 4294967296 ∧ opK (key w) = 15 := by
  obtain ⟨hF, hR, hw⟩ := encOk15 t a b i w h
  have hi : i = 0 := by omega
  subst hi
  obtain ⟨e1, e2, w0, w1⟩ := cI4 k 15 2080375213 t a b w rfl (by decide) (by decide) (by decide) hR.1 hR.2.1 hR.2.2 hw
  refine ⟨e1, e2, w0, w1, ?_⟩
  have hk : key w = 429 := by
    clear e1 h
    unfold key
    have e3 : w / 67108864 = 31 := e2
    have e4 : w % 2048 = 429 := by omega
    rw [if_pos e3, if_neg (by omega)]; omega
  rw [hk]; rfl
theorem encOk16 (t a b i w : Int) (h : isa_Encode.m ⟨16, t, a, b, i⟩ = some (w, 0)) : ¬ (t ≠ 0 ∨ i ≠ 0) ∧ ((0 ≤ a ∧ a ≤ 31) ∧ (0 ≤ b ∧ b ≤ 31)) ∧ w = 2082471936 + a * 65536 + b * 2048 := by
  rw [isaE16] at h
  by_cases hF : t ≠ 0 ∨ i ≠ 0
  · rw [if_pos hF] at h; simp at h
  · by_cases hR : (0 ≤ a ∧ a ≤ 31) ∧ (0 ≤ b ∧ b ≤ 31)
    · rw [if_neg hF, if_pos hR] at h
      exact ⟨hF, hR, (congrArg Prod.fst (Option.some.inj h)).symm⟩
    · rw [if_neg hF, if_neg hR] at h; simp at h
theorem dec16 (k : Nat) (t a b i w : Int) (h : isa_Encode.m ⟨16, t, a, b, i⟩ = some (w, 0)) :
    candI w (k + 10) 16 = some (t, a, b, i) ∧ w / 67108864 = (isa_formOf.m 16).2 / 67108864 ∧ 0 ≤ w ∧ w < 4294967296 ∧ opK (key w) = 16 := by
  obtain ⟨hF, hR, hw⟩ := encOk16 t a b i w h
  have ht : t = 0 := by omega
  subst ht
  have hi : i = 0 := by omega
  subst hi
  obtain ⟨e1, e2, w0, w1⟩ := cI6 k 16 2082471936 a b w rfl (by decide) (by decide) (by decide) hR.1 hR.2 hw
  refine ⟨e1, e2, w0, w1, ?_⟩
  have hk : key w = 0 := by
    clear e1 h
    unfold key
    have e3 : w / 67108864 = 31 := e2
    have e4 : w % 2048 = 0 := by omega
    rw [if_pos e3, if_neg (by omega)]; omega
  rw [hk]; rfl
theorem encOk17 (t a b i w : Int) (h : isa_Encode.m ⟨17, t, a, b, i⟩ = some (w, 0)) : ¬ (t ≠ 0 ∨ b ≠ 0) ∧ ((0 ≤ a ∧ a ≤ 31) ∧ (-32768 ≤ i ∧ i ≤ 32767)) ∧ w = 740294656 + a * 65536 + i % 65536 := by
  rw [isaE17] at h
  by_cases hF : t ≠ 0 ∨ b ≠ 0
  · rw [if_pos hF] at h; simp at h
  · by_cases hR : (0 ≤ a ∧ a ≤ 31) ∧ (-32768 ≤ i ∧ i ≤ 32767)
    · rw [if_neg hF, if_pos hR] at h
      exact ⟨hF, hR, (congrArg Prod.fst (Option.some.inj h)).symm⟩
    · rw [if_neg hF, if_neg hR] at h; simp at h
theorem dec17 (k : Nat) (t a b i w : Int) (h : isa_Encode.m ⟨17, t, a, b, i⟩ = some (w, 0)) :
    candI w (k + 10) 17 = some (t, a, b, i) ∧ w / 67108864 = (isa_formOf.m 17).2 / 67108864 ∧ 0 ≤ w ∧ w < 4294967296 ∧ opK (key w) = 17 := by
  obtain ⟨hF, hR, hw⟩ := encOk17 t a b i w h
  have ht : t = 0 := by omega
  subst ht
  have hb : b = 0 := by omega
  subst hb
  obtain ⟨e1, e2, w0, w1⟩ := cI7 k 17 740294656 a i w rfl (by decide) (by decide) (by decide) hR.1 hR.2 hw
  refine ⟨e1, e2, w0, w1, ?_⟩
  have hk : key w = 10011 := by
    clear e1 h
    unfold key
    have e3 : w / 67108864 = 11 := e2
    rw [if_neg (by omega)]; omega
  rw [hk]; rfl
theorem encOk18 (t a b i w : Int) (h : isa_Encode.m ⟨18, t, a, b, i⟩ = some (w, 0)) : ¬ (a ≠ 0 ∨ b ≠ 0) ∧ ((0 ≤ t ∧ t ≤ 3) ∧ (-32768 ≤ i ∧ i ≤ 32764 ∧ i % 4 = 0)) ∧ w = 1073741824 + isa_cond.m t + i % 65536 := by
  rw [isaE18] at h
  by_cases hF : a ≠ 0 ∨ b ≠ 0
  · rw [if_pos hF] at h; simp at h
  · by_cases hR : (0 ≤ t ∧ t ≤ 3) ∧ (-32768 ≤ i ∧ i ≤ 32764 ∧ i % 4 = 0)
    · rw [if_neg hF, if_pos hR] at h
      exact ⟨hF, hR, (congrArg Prod.fst (Option.some.inj h)).symm⟩
    · rw [if_neg hF, if_neg hR] at h; simp at h
theorem dec18 (k : Nat) (t a b i w : Int) (h : isa_Encode.m ⟨18, t, a, b, i⟩ = some (w, 0)) :
    candI w (k + 10) 18 = some (t, a, b, i) ∧ w / 67108864 = (isa_formOf.m 18).2 / 67108864 ∧ 0 ≤ w ∧ w < 4294967296 ∧ opK (key w) = 18 := by
  obtain ⟨hF, hR, hw⟩ := encOk18 t a b i w h
  have ha : a = 0 := by omega
  subst ha
  have hb : b = 0 := by omega
  subst hb
  obtain ⟨e1, e2, w0, w1⟩ := cI8 k 18 1073741824 t i w rfl (by decide) (by decide) (by decide) hR.1 hR.2 hw
  refine ⟨e1, e2, w0, w1, ?_⟩
  have hk : key w = 10016 := by
    clear e1 h
    unfold key
    have e3 : w / 67108864 = 16 := e2
    rw [if_neg (by omega)]; omega
  rw [hk]; rfl
theorem encOk19 (t a b i w : Int) (h : isa_Encode.m ⟨19, t, a, b, i⟩ = some (w, 0)) : ¬ (t ≠ 0 ∨ a ≠ 0 ∨ b ≠ 0) ∧ ((-33554432 ≤ i ∧ i ≤ 33554428 ∧ i % 4 = 0)) ∧ w = 1207959552 + i % 67108864 := by
  rw [isaE19] at h
  by_cases hF : t ≠ 0 ∨ a ≠ 0 ∨ b ≠ 0
  · rw [if_pos hF] at h; simp at h
  · by_cases hR : (-33554432 ≤ i ∧ i ≤ 33554428 ∧ i % 4 = 0)
    · rw [if_neg hF, if_pos hR] at h
      exact ⟨hF, hR, (congrArg Prod.fst (Option.some.inj h)).symm⟩
    · rw [if_neg hF, if_neg hR] at h; simp at h
theorem dec19 (k : Nat) (t a b i w : Int) (h : isa_Encode.m ⟨19, t, a, b, i⟩ = some (w, 0)) :
    candI w (k + 10) 19 = some (t, a, b, i) ∧ w / 67108864 = (isa_formOf.m 19).2 / 67108864 ∧ 0 ≤ w ∧ w < 4294967296 ∧ opK (key w) = 19 := by
  obtain ⟨hF, hR, hw⟩ := encOk19 t a b i w h
  have ht : t = 0 := by omega
  subst ht
  have ha : a = 0 := by omega
  subst ha
  have hb : b = 0 := by omega
  subst hb
  obtain ⟨e1, e2, w0, w1⟩ := cI9 k 19 1207959552 i w rfl (by decide) (by decide) (by decide) hR hw
  refine ⟨e1, e2, w0, w1, ?_⟩
  have hk : key w = 10018 := by
    clear e1 h
    unfold key
    have e3 : w / 67108864 = 18 := e2
    rw [if_neg (by omega)]; omega
  rw [hk]; rfl
theorem encOk20 (t a b i w : Int) (h : isa_Encode.m ⟨20, t, a, b, i⟩ = some (w, 0)) : ¬ (t ≠ 0 ∨ a ≠ 0 ∨ b ≠ 0 ∨ i ≠ 0) ∧ (True) ∧ w = 2080375980 := by
  rw [isaE20] at h
  by_cases hF : t ≠ 0 ∨ a ≠ 0 ∨ b ≠ 0 ∨ i ≠ 0
  · rw [if_pos hF] at h; simp at h
  · by_cases hR : True
    · rw [if_neg hF, if_pos hR] at h
      exact ⟨hF, hR, (congrArg Prod.fst (Option.some.inj h)).symm⟩
    · rw [if_neg hF, if_neg hR] at h; simp at h
theorem dec20 (k : Nat) (t a b i w : Int) (h : isa_Encode.m ⟨20, t, a, b, i⟩ = some (w, 0)) :
    candI w (k + 10) 20 = some (t, a, b, i) ∧ w / 67108864 = (isa_formOf.m 20).2 / 67108864 ∧ 0 ≤ w ∧ w < 4294967296 ∧ opK (key w) = 20 := by
  obtain ⟨hF, hR, hw⟩ := encOk20 t a b i w h
  have ht : t = 0 := by omega
  subst ht
  have ha : a = 0 := by omega
  subst ha
  have hb : b = 0 := by omega
  subst hb
  have hi : i = 0 := by omega
  subst hi
  obtain ⟨e1, e2, w0, w1⟩ := cI10 k 20 2080375980  w rfl (by decide) (by decide)   hw
  refine ⟨e1, e2, w0, w1, ?_⟩
  have hk : key w = 5000 := by
    clear e1 h
    unfold key
    have e3 : w / 67108864 = 31 := e2
    rw [if_pos e3, if_pos (by omega)]; omega
  rw [hk]; rfl
theorem encOk21 (t a b i w : Int) (h : isa_Encode.m ⟨21, t, a, b, i⟩ = some (w, 0)) : ¬ (t ≠ 0 ∨ a ≠ 0 ∨ b ≠ 0 ∨ i ≠ 0) ∧ (True) ∧ w = 2082473132 := by
  rw [isaE21] at h
  by_cases hF : t ≠ 0 ∨ a ≠ 0 ∨ b ≠ 0 ∨ i ≠ 0
  · rw [if_pos hF] at h; simp at h
  · by_cases hR : True
    · rw [if_neg hF, if_pos hR] at h
      exact ⟨hF, hR, (congrArg Prod.fst (Option.some.inj h)).symm⟩
    · rw [if_neg hF, if_neg hR] at h; simp at h
theorem dec21 (k : Nat) (t a b i w : Int) (h : isa_Encode.m ⟨21, t, a, b, i⟩ = some (w, 0)) :
    candI w (k + 10) 21 = some (t, a, b, i) ∧ w / 67108864 = (isa_formOf.m 21).2 / 67108864 ∧ 0 ≤ w ∧ w < 4294967296 ∧ opK (key w) = 21 := by
  obtain ⟨hF, hR, hw⟩ := encOk21 t a b i w h
  have ht : t = 0 := by omega
  subst ht
  have ha : a = 0 := by omega
  subst ha
  have hb : b = 0 := by omega
  subst hb
  have hi : i = 0 := by omega
  subst hi
  obtain ⟨e1, e2, w0, w1⟩ := cI10 k 21 2082473132  w rfl (by decide) (by decide)   hw
  refine ⟨e1, e2, w0, w1, ?_⟩
  have hk : key w = 5001 := by
    clear e1 h
    unfold key
    have e3 : w / 67108864 = 31 := e2
    rw [if_pos e3, if_pos (by omega)]; omega
  rw [hk]; rfl
theorem encOk22 (t a b i w : Int) (h : isa_Encode.m ⟨22, t, a, b, i⟩ = some (w, 0)) : ¬ (t ≠ 0 ∨ a ≠ 0 ∨ b ≠ 0 ∨ i ≠ 0) ∧ (True) ∧ w = 1275068716 := by
  rw [isaE22] at h
  by_cases hF : t ≠ 0 ∨ a ≠ 0 ∨ b ≠ 0 ∨ i ≠ 0
  · rw [if_pos hF] at h; simp at h
  · by_cases hR : True
    · rw [if_neg hF, if_pos hR] at h
      exact ⟨hF, hR, (congrArg Prod.fst (Option.some.inj h)).symm⟩
    · rw [if_neg hF, if_neg hR] at h; simp at h
theorem dec22 (k : Nat) (t a b i w : Int) (h : isa_Encode.m ⟨22, t, a, b, i⟩ = some (w, 0)) :
    candI w (k + 10) 22 = some (t, a, b, i) ∧ w / 67108864 = (isa_formOf.m 22).2 / 67108864 ∧ 0 ≤ w ∧ w < 4294967296 ∧ opK (key w) = 22 := by
  obtain ⟨hF, hR, hw⟩ := encOk22 t a b i w h
  have ht : t = 0 := by omega
  subst ht
  have ha : a = 0 := by omega
  subst ha
  have hb : b = 0 := by omega
  subst hb
  have hi : i = 0 := by omega
  subst hi
  obtain ⟨e1, e2, w0, w1⟩ := cI10 k 22 1275068716  w rfl (by decide) (by decide)   hw
  refine ⟨e1, e2, w0, w1, ?_⟩
  have hk : key w = 10019 := by
    clear e1 h
    unfold key
    have e3 : w / 67108864 = 19 := e2
    rw [if_neg (by omega)]; omega
  rw [hk]; rfl
theorem encOk23 (t a b i w : Int) (h : isa_Encode.m ⟨23, t, a, b, i⟩ = some (w, 0)) : ¬ (t ≠ 0 ∨ a ≠ 0 ∨ b ≠ 0 ∨ i ≠ 0) ∧ (True) ∧ w = 1140850690 := by
  rw [isaE23] at h
  by_cases hF : t ≠ 0 ∨ a ≠ 0 ∨ b ≠ 0 ∨ i ≠ 0
  · rw [if_pos hF] at h; simp at h
  · by_cases hR : True
    · rw [if_neg hF, if_pos hR] at h
      exact ⟨hF, hR, (congrArg Prod.fst (Option.some.inj h)).symm⟩
    · rw [if_neg hF, if_neg hR] at h; simp at h
theorem dec23 (k : Nat) (t a b i w : Int) (h : isa_Encode.m ⟨23, t, a, b, i⟩ = some (w, 0)) :
    candI w (k + 10) 23 = some (t, a, b, i) ∧ w / 67108864 = (isa_formOf.m 23).2 / 67108864 ∧ 0 ≤ w ∧ w < 4294967296 ∧ opK (key w) = 23 := by
  obtain ⟨hF, hR, hw⟩ := encOk23 t a b i w h
  have ht : t = 0 := by omega
  subst ht
  have ha : a = 0 := by omega
  subst ha
  have hb : b = 0 := by omega
  subst hb
  have hi : i = 0 := by omega
  subst hi
  obtain ⟨e1, e2, w0, w1⟩ := cI10 k 23 1140850690  w rfl (by decide) (by decide)   hw
  refine ⟨e1, e2, w0, w1, ?_⟩
  have hk : key w = 10017 := by
    clear e1 h
    unfold key
    have e3 : w / 67108864 = 17 := e2
    rw [if_neg (by omega)]; omega
  rw [hk]; rfl
theorem encIn (x : api_Inst) (w : Int) (h : isa_Encode.m x = some (w, 0)) : 1 ≤ x.Op ∧ x.Op ≤ 23 := by
  obtain ⟨c, t, a, b, i⟩ := x
  by_cases h0 : c < 1 ∨ 23 < c
  · rw [isaOut c t a b i h0] at h; simp at h
  · simp only []; omega
theorem decAll (k : Nat) (x : api_Inst) (w : Int) (h : isa_Encode.m x = some (w, 0)) :
    candI w (k + 10) x.Op = some (x.T, x.A, x.B, x.Imm) ∧ w / 67108864 = (isa_formOf.m x.Op).2 / 67108864 ∧ 0 ≤ w ∧ w < 4294967296 ∧ opK (key w) = x.Op := by
  have hin := encIn x w h
  obtain ⟨c, t, a, b, i⟩ := x
  rcases opCases c (by simp only [] at hin; omega) with rfl | rfl | rfl | rfl | rfl | rfl | rfl | rfl | rfl | rfl | rfl | rfl | rfl | rfl | rfl | rfl | rfl | rfl | rfl | rfl | rfl | rfl | rfl
  · exact dec1 k t a b i w h
  · exact dec2 k t a b i w h
  · exact dec3 k t a b i w h
  · exact dec4 k t a b i w h
  · exact dec5 k t a b i w h
  · exact dec6 k t a b i w h
  · exact dec7 k t a b i w h
  · exact dec8 k t a b i w h
  · exact dec9 k t a b i w h
  · exact dec10 k t a b i w h
  · exact dec11 k t a b i w h
  · exact dec12 k t a b i w h
  · exact dec13 k t a b i w h
  · exact dec14 k t a b i w h
  · exact dec15 k t a b i w h
  · exact dec16 k t a b i w h
  · exact dec17 k t a b i w h
  · exact dec18 k t a b i w h
  · exact dec19 k t a b i w h
  · exact dec20 k t a b i w h
  · exact dec21 k t a b i w h
  · exact dec22 k t a b i w h
  · exact dec23 k t a b i w h
theorem encErr (x : api_Inst) (w e : Int) (h : isa_Encode.m x = some (w, e)) : e = 0 ∨ w = 0 := by
  obtain ⟨c, t, a, b, i⟩ := x
  by_cases h0 : c < 1 ∨ 23 < c
  · rw [isaOut c t a b i h0] at h; simp at h; omega
  · rcases opCases c h0 with rfl | rfl | rfl | rfl | rfl | rfl | rfl | rfl | rfl | rfl | rfl | rfl | rfl | rfl | rfl | rfl | rfl | rfl | rfl | rfl | rfl | rfl | rfl
    · rw [isaE1] at h
      split at h
      · simp at h; omega
      · split at h
        · simp at h; omega
        · simp at h; omega
    · rw [isaE2] at h
      split at h
      · simp at h; omega
      · split at h
        · simp at h; omega
        · simp at h; omega
    · rw [isaE3] at h
      split at h
      · simp at h; omega
      · split at h
        · simp at h; omega
        · simp at h; omega
    · rw [isaE4] at h
      split at h
      · simp at h; omega
      · split at h
        · simp at h; omega
        · simp at h; omega
    · rw [isaE5] at h
      split at h
      · simp at h; omega
      · split at h
        · simp at h; omega
        · simp at h; omega
    · rw [isaE6] at h
      split at h
      · simp at h; omega
      · split at h
        · simp at h; omega
        · simp at h; omega
    · rw [isaE7] at h
      split at h
      · simp at h; omega
      · split at h
        · simp at h; omega
        · simp at h; omega
    · rw [isaE8] at h
      split at h
      · simp at h; omega
      · split at h
        · simp at h; omega
        · simp at h; omega
    · rw [isaE9] at h
      split at h
      · simp at h; omega
      · split at h
        · simp at h; omega
        · simp at h; omega
    · rw [isaE10] at h
      split at h
      · simp at h; omega
      · split at h
        · simp at h; omega
        · simp at h; omega
    · rw [isaE11] at h
      split at h
      · simp at h; omega
      · split at h
        · simp at h; omega
        · simp at h; omega
    · rw [isaE12] at h
      split at h
      · simp at h; omega
      · split at h
        · simp at h; omega
        · simp at h; omega
    · rw [isaE13] at h
      split at h
      · simp at h; omega
      · split at h
        · simp at h; omega
        · simp at h; omega
    · rw [isaE14] at h
      split at h
      · simp at h; omega
      · split at h
        · simp at h; omega
        · simp at h; omega
    · rw [isaE15] at h
      split at h
      · simp at h; omega
      · split at h
        · simp at h; omega
        · simp at h; omega
    · rw [isaE16] at h
      split at h
      · simp at h; omega
      · split at h
        · simp at h; omega
        · simp at h; omega
    · rw [isaE17] at h
      split at h
      · simp at h; omega
      · split at h
        · simp at h; omega
        · simp at h; omega
    · rw [isaE18] at h
      split at h
      · simp at h; omega
      · split at h
        · simp at h; omega
        · simp at h; omega
    · rw [isaE19] at h
      split at h
      · simp at h; omega
      · split at h
        · simp at h; omega
        · simp at h; omega
    · rw [isaE20] at h
      split at h
      · simp at h; omega
      · rw [if_pos trivial] at h; simp at h; omega
    · rw [isaE21] at h
      split at h
      · simp at h; omega
      · rw [if_pos trivial] at h; simp at h; omega
    · rw [isaE22] at h
      split at h
      · simp at h; omega
      · rw [if_pos trivial] at h; simp at h; omega
    · rw [isaE23] at h
      split at h
      · simp at h; omega
      · rw [if_pos trivial] at h; simp at h; omega
theorem encInj (x y : api_Inst) (w : Int) (hx : isa_Encode.m x = some (w, 0)) (hy : isa_Encode.m y = some (w, 0)) : x = y := by
  obtain ⟨c1, _, _, _, o1⟩ := decAll 0 x w hx
  obtain ⟨c2, _, _, _, o2⟩ := decAll 0 y w hy
  have ho : x.Op = y.Op := o1.symm.trans o2
  rw [ho, c2] at c1
  have := Option.some.inj c1
  obtain ⟨xo, xt, xa, xb, xi⟩ := x
  obtain ⟨yo, yt, ya, yb, yi⟩ := y
  simp only [Prod.mk.injEq] at this ho
  obtain ⟨h1, h2, h3, h4⟩ := this
  subst ho; subst h1; subst h2; subst h3; subst h4; rfl
theorem headRange (n : Int) : 0 ≤ (isa_formOf.m n).2 ∧ (isa_formOf.m n).2 < 4294967296 := by
  by_cases h0 : n < 1 ∨ 23 < n
  · rw [formOut n h0]; decide
  · rcases opCases n h0 with rfl | rfl | rfl | rfl | rfl | rfl | rfl | rfl | rfl | rfl | rfl | rfl | rfl | rfl | rfl | rfl | rfl | rfl | rfl | rfl | rfl | rfl | rfl <;> decide
theorem l1tot (w : Int) (k : Nat) : ∃ o, isa_Decode.l1 w (k + 10) 0 = some o := by
  rw [isa_Decode.l1]; split
  · rw [show wrap64 (0 + 1) = 1 from rfl, isa_Decode.l1]; split
    · rw [show wrap64 (1 + 1) = 2 from rfl, isa_Decode.l1]; split
      · rw [show wrap64 (2 + 1) = 3 from rfl, isa_Decode.l1]; rw [if_neg (by simp)]; exact ⟨_, rfl⟩
      · exact ⟨_, rfl⟩
    · exact ⟨_, rfl⟩
  · exact ⟨_, rfl⟩
theorem candTot (w : Int) (k : Nat) (n : Int) : ∃ o, candI w (k + 10) n = some o := by
  obtain ⟨o, ho⟩ := l1tot w k
  unfold candI
  rw [ho]
  repeat' split
  all_goals exact ⟨_, rfl⟩
theorem decI_hit (k : Nat) (x : api_Inst) (w : Int) (h : isa_Encode.m x = some (w, 0)) : isa_Decode.l0 w (k + 11) x.Op = some (Sum.inr (x, 0)) := by
  obtain ⟨hc, hh, w0, w1, _⟩ := decAll k x w h
  have hin := encIn x w h
  have hr := headRange x.Op
  rw [decI_step w (k + 10) x.Op, if_pos (by simpa using hin.2), if_neg (by simp [xor_top w _ w0 w1 hr.1 hr.2, hh]), hc, Option.bind_some]
  obtain ⟨c, t, a, b, i⟩ := x
  simp only []
  rw [h, Option.bind_some, if_pos (by simp)]
  rfl
theorem decI_miss (k : Nat) (n w : Int) (hn : 1 ≤ n ∧ n ≤ 23) (h : ∀ x : api_Inst, x.Op = n → isa_Encode.m x ≠ some (w, 0)) : isa_Decode.l0 w (k + 11) n = isa_Decode.l0 w (k + 10) (n + 1) := by
  have hw : wrap64 (n + 1) = n + 1 := by unfold wrap64; omega
  rw [decI_step w (k + 10) n, if_pos (by simpa using hn.2), hw]
  split
  · rfl
  · obtain ⟨o, ho⟩ := candTot w k n
    obtain ⟨r, hr⟩ := encSome ⟨n, o.1, o.2.1, o.2.2.1, o.2.2.2⟩
    rw [ho, Option.bind_some, hr, Option.bind_some, if_neg ?_]
    · rfl
    · intro hb
      simp only [Bool.and_eq_true, decide_eq_true_eq] at hb
      exact h _ rfl (by rw [hr, ← hb.1, ← hb.2])
theorem decI_to (x : api_Inst) (w : Int) (h : isa_Encode.m x = some (w, 0)) : ∀ (j k : Nat) (n : Int), 1 ≤ n → n + j = x.Op → isa_Decode.l0 w (k + 11 + j) n = some (Sum.inr (x, 0)) := by
  have hin := encIn x w h
  intro j
  induction j with
  | zero => intro k n _ hn; have : n = x.Op := by omega
            subst this; exact decI_hit k x w h
  | succ j ih =>
    intro k n h1 hn
    have := decI_miss (k + j + 1) n w ⟨h1, by omega⟩ (fun y hy he => by
      have := encInj x y w h he
      subst this; omega)
    rw [show k + 11 + (j + 1) = k + j + 1 + 11 by omega, this, show k + j + 1 + 10 = k + 11 + j by omega]
    exact ih k (n + 1) (by omega) (by omega)
theorem decI_none (w : Int) (h : ∀ x : api_Inst, isa_Encode.m x ≠ some (w, 0)) : ∀ (j k : Nat) (n : Int), 1 ≤ n → n + j = 24 → isa_Decode.l0 w (k + 11 + j) n = some (Sum.inl ()) := by
  intro j
  induction j with
  | zero => intro k n _ hn
            rw [show k + 11 + 0 = (k + 10) + 1 by omega, decI_step, if_neg (by simp <;> omega)]
  | succ j ih =>
    intro k n h1 hn
    rw [show k + 11 + (j + 1) = k + j + 1 + 11 by omega, decI_miss (k + j + 1) n w ⟨h1, by omega⟩ (fun y _ => h y), show k + j + 1 + 10 = k + 11 + j by omega]
    exact ih k (n + 1) (by omega) (by omega)
theorem decode_hit (x : api_Inst) (w : Int) (h : isa_Encode.m x = some (w, 0)) : isa_Decode.m 100 w = some (x, 0) := by
  have hin := encIn x w h
  have := decI_to x w h (x.Op - 1).toNat (89 - (x.Op - 1).toNat) 1 (by decide) (by omega)
  rw [show 89 - (x.Op - 1).toNat + 11 + (x.Op - 1).toNat = 100 by omega] at this
  unfold isa_Decode.m
  rw [this]; rfl
theorem decode_none (w : Int) (h : ∀ x : api_Inst, isa_Encode.m x ≠ some (w, 0)) : isa_Decode.m 100 w = some (⟨0, 0, 0, 0, 0⟩, 3) := by
  have := decI_none w h 23 66 1 (by decide) (by decide)
  unfold isa_Decode.m
  rw [show (100 : Nat) = 66 + 11 + 23 from rfl, this]; rfl
theorem pureIsaApart (x y : api_Inst) {p q : Prop} (h : p) (h' : q) : ∃ k, selvagelaw15_IsaApart.m k x y = some true := by
  refine ⟨100, ?_⟩
  unfold selvagelaw15_IsaApart.m
  obtain ⟨⟨r, e⟩, hr⟩ := encSome x
  obtain ⟨⟨s, g⟩, hs⟩ := encSome y
  rw [awake100, Option.bind_some, if_neg (by simp), hr, hs, Option.bind_some, Option.bind_some]
  congr 1
  simp only []
  by_cases he : e = 0
  · by_cases hg : g = 0
    · subst he; subst hg
      by_cases hrs : r = s
      · subst hrs
        have := encInj x y r hr hs
        subst this
        simp
      · have hne : x ≠ y := fun hxy => by subst hxy; rw [hr] at hs; simp at hs; exact hrs hs
        have : ¬ (x.Op = y.Op ∧ x.T = y.T ∧ x.A = y.A ∧ x.B = y.B ∧ x.Imm = y.Imm) := fun ⟨h1, h2, h3, h4, h5⟩ => hne (by
          obtain ⟨xo, xt, xa, xb, xi⟩ := x
          obtain ⟨yo, yt, ya, yb, yi⟩ := y
          simp only [] at h1 h2 h3 h4 h5
          subst h1; subst h2; subst h3; subst h4; subst h5; rfl)
        have h2 : ((x.Op == y.Op) && ((x.T == y.T) && ((x.A == y.A) && ((x.B == y.B) && ((x.Imm == y.Imm) && true))))) = false := by
          rw [Bool.eq_false_iff]
          intro hb
          simp only [Bool.and_eq_true, beq_iff_eq, and_true] at hb
          exact this hb
        rw [h2]; simp [hrs]
    · simp [hg]
  · simp [he]
theorem pureIsaBack (x : api_Inst) (u : Int) {p q : Prop} (h : p) (h' : q) : ∃ k, selvagelaw15_IsaBack.m k x u = some true := by
  refine ⟨100, ?_⟩
  unfold selvagelaw15_IsaBack.m
  obtain ⟨⟨r, e⟩, hr⟩ := encSome x
  rw [awake100, Option.bind_some, if_neg (by simp), hr, Option.bind_some]
  have back : (isa_Decode.m 100 u).bind (fun r36 => (if (!decide (r36.2 = 0)) = true then (some ((decide (r36.2 = 3)) && ((r36.1.Op == 0) && ((r36.1.T == 0) && ((r36.1.A == 0) && ((r36.1.B == 0) && ((r36.1.Imm == 0) && true))))))) else ((isa_Encode.m (⟨r36.1.Op, r36.1.T, r36.1.A, r36.1.B, r36.1.Imm⟩ : api_Inst)).bind fun r46 => (some ((decide (r46.2 = 0)) && (decide (r46.1 = u))))))) = some true := by
    by_cases hu : ∃ y, isa_Encode.m y = some (u, 0)
    · obtain ⟨y, hy⟩ := hu
      rw [decode_hit y u hy, Option.bind_some, if_neg (by simp)]
      obtain ⟨yo, yt, ya, yb, yi⟩ := y
      simp only []
      rw [hy]; simp
    · rw [decode_none u (fun y hy => hu ⟨y, hy⟩)]; rfl
  simp only []
  by_cases he : e = 0
  · subst he
    rw [if_pos (by simp), decode_hit x r hr, Option.bind_some, if_neg (by simp), Option.bind_some, Sum.elim_inl]
    exact back
  · have hz : r = 0 := (encErr x r e hr).resolve_left he
    rw [if_neg (by simpa using he), if_neg (by simp [hz]), Option.bind_some, Sum.elim_inl]
    exact back
end Go.Proofs.Ytallojficgiemaa.W
