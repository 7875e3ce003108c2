/- Chapter 15: what the reference's encoder answers, for each kind of instruction. -/
import Derived.Test.YtallojficgiemaaPureIsaB
set_option linter.unusedVariables false
set_option linter.unusedSimpArgs false
namespace Go.Proofs.Ytallojficgiemaa.W
open Go Go.RowKit Go.Proofs.Ytallojficgiemaa.B
theorem put_n (k : Nat) (n : Nat) (m : Int) (hm : m = (n : Int)) (hn : n ≤ 59) (w : selvageref15_word) (v : Int) (h0 : 0 ≤ w.w) (h1 : w.w < 4294967296) :
    selvageref15_word_put.m (k + 60) w v m = some ⟨(w.w * 2 ^ n + v % 2 ^ n) % 4294967296, wrap64 (w.bits + m)⟩ := by
  subst hm
  unfold selvageref15_word_put.m
  have h2 : wrap64 ((n : Int) - 1) = (n : Int) - 1 := by unfold wrap64; omega
  rw [h2, putL v n (k + 60) w.w h0 h1 (by omega) (by omega)]
  rfl
theorem put_v {k : Nat} (n : Nat) (m : Int) (hm : m = (n : Int)) (hn : n ≤ 59) (w : selvageref15_word) (v : Int) (u : Int) (hu : w.w * 2 ^ n + v % 2 ^ n = u) (h : 0 ≤ w.w ∧ w.w < 4294967296) (h2 : 0 ≤ u ∧ u < 4294967296) :
    selvageref15_word_put.m (k + 60) w v m = some ⟨u, wrap64 (w.bits + m)⟩ := by
  rw [put_n k n m hm hn w v h.1 h.2, hu, Int.emod_eq_of_lt h2.1 h2.2]
theorem refE1 (k : Nat) (t a b i : Int) : selvageref15_Encode.m (k + 60) ⟨1, t, a, b, i⟩ = some (if b ≠ 0 then (0, 3) else if (0 ≤ t ∧ t ≤ 31) ∧ (0 ≤ a ∧ a ≤ 31) ∧ (-32768 ≤ i ∧ i ≤ 32767) then (939524096 + t * 2097152 + a * 65536 + i % 65536, 0) else (0, 2)) := by
  unfold selvageref15_Encode.m
  simp only [show selvageref15_sort.m 1 = some 1 from rfl, show selvageref15_uses.m 1 = some (⟨#[116, 97, 105]⟩ : ByteArray) from rfl, show selvageref15_has.m (k + 60) (⟨#[116, 97, 105]⟩ : ByteArray) 116 = some true by rfl, show selvageref15_has.m (k + 60) (⟨#[116, 97, 105]⟩ : ByteArray) 97 = some true by rfl, show selvageref15_has.m (k + 60) (⟨#[116, 97, 105]⟩ : ByteArray) 98 = some false by rfl, show selvageref15_has.m (k + 60) (⟨#[116, 97, 105]⟩ : ByteArray) 105 = some true by rfl, show selvageref15_bounds.m 1 = ((-32768), 32767, 1) from rfl, Option.bind_some]
  by_cases hF : b ≠ 0
  · rw [if_pos hF]
    by_cases hb : b = 0 <;> first | (simp [hb]; done) | (exfalso; omega)
  · rw [if_neg hF]
    have hb : b = 0 := by omega
    subst hb
    have hB : ((((((((decide (t < 0)) || (decide (t > 31))) || (decide (a < 0))) || (decide (a > 31))) || (decide ((0 : Int) < 0))) || (decide ((0 : Int) > 31))) || (decide (i < (-32768)))) || (decide (i > 32767))) = decide (¬ ((0 ≤ t ∧ t ≤ 31) ∧ (0 ≤ a ∧ a ≤ 31) ∧ (-32768 ≤ i ∧ i ≤ 32767))) := by rw [Bool.eq_iff_iff]; simp <;> omega
    simp only [decide_true, decide_false, Bool.false_eq_true, if_false, if_true, Bool.not_true, Bool.not_false, Bool.false_and, Bool.true_and, show decide ((0 : Int) = 0) = true from rfl, Option.bind_some, reduceIte, show decide ((1 : Int) = 0) = false from rfl, show decide ((1 : Int) = 1) = true from rfl, show decide ((1 : Int) = 2) = false from rfl, show decide ((1 : Int) = 3) = false from rfl, show decide ((1 : Int) = 4) = false from rfl, show decide ((1 : Int) = 5) = false from rfl, show decide ((1 : Int) = 6) = false from rfl, show decide ((1 : Int) = 7) = false from rfl, show decide ((1 : Int) = 8) = false from rfl, show decide ((1 : Int) = 9) = false from rfl, show decide ((1 : Int) = 15) = false from rfl, show decide ((1 : Int) = 23) = false from rfl]
    rw [hB]
    by_cases hQ : (0 ≤ t ∧ t ≤ 31) ∧ (0 ≤ a ∧ a ≤ 31) ∧ (-32768 ≤ i ∧ i ≤ 32767)
    · rw [if_neg (by simp <;> omega), if_pos (by decide)]
      have hT : i.tmod 1 = 0 := tm1 i
      rw [if_pos (by omega)]
      simp only [hT, decide_true, Bool.not_true, Bool.false_eq_true, if_false, Option.bind_some, if_true, decide_false, Bool.not_false, show decide ((1 : Int) = 23) = false from rfl, show selvageref15_pick.m (k + 60) 1 ([1, 2] : List Int) ([14, 15] : List Int) = some 14 by rfl]
      rw [put_v 6 6 rfl (by decide) _ _ (14) (by first | (simp only []; omega) | omega | decide) (by first | (simp only []; omega) | omega | decide) (by omega), Option.bind_some]
      rw [put_v 5 5 rfl (by decide) _ _ ((14) * 32 + t) (by first | (simp only []; omega) | omega | decide) (by first | (simp only []; omega) | omega | decide) (by omega), Option.bind_some]
      rw [put_v 5 5 rfl (by decide) _ _ (((14) * 32 + t) * 32 + a) (by first | (simp only []; omega) | omega | decide) (by first | (simp only []; omega) | omega | decide) (by omega), Option.bind_some]
      rw [put_v 16 16 rfl (by decide) _ _ ((((14) * 32 + t) * 32 + a) * 65536 + i % 65536) (by first | (simp only []; omega) | omega | decide) (by first | (simp only []; omega) | omega | decide) (by omega), Option.bind_some]
      simp only [Option.bind_some, Sum.elim_inl, Sum.elim_inr]
      refine congrArg (fun z => some (z, (0 : Int))) ?_
      omega
    · rw [if_pos (by simp <;> omega), if_neg (by omega)]
      rfl

theorem refE2 (k : Nat) (t a b i : Int) : selvageref15_Encode.m (k + 60) ⟨2, t, a, b, i⟩ = some (if b ≠ 0 then (0, 3) else if (0 ≤ t ∧ t ≤ 31) ∧ (0 ≤ a ∧ a ≤ 31) ∧ (-32768 ≤ i ∧ i ≤ 32767) then (1006632960 + t * 2097152 + a * 65536 + i % 65536, 0) else (0, 2)) := by
  unfold selvageref15_Encode.m
  simp only [show selvageref15_sort.m 2 = some 1 from rfl, show selvageref15_uses.m 1 = some (⟨#[116, 97, 105]⟩ : ByteArray) from rfl, show selvageref15_has.m (k + 60) (⟨#[116, 97, 105]⟩ : ByteArray) 116 = some true by rfl, show selvageref15_has.m (k + 60) (⟨#[116, 97, 105]⟩ : ByteArray) 97 = some true by rfl, show selvageref15_has.m (k + 60) (⟨#[116, 97, 105]⟩ : ByteArray) 98 = some false by rfl, show selvageref15_has.m (k + 60) (⟨#[116, 97, 105]⟩ : ByteArray) 105 = some true by rfl, show selvageref15_bounds.m 1 = ((-32768), 32767, 1) from rfl, Option.bind_some]
  by_cases hF : b ≠ 0
  · rw [if_pos hF]
    by_cases hb : b = 0 <;> first | (simp [hb]; done) | (exfalso; omega)
  · rw [if_neg hF]
    have hb : b = 0 := by omega
    subst hb
    have hB : ((((((((decide (t < 0)) || (decide (t > 31))) || (decide (a < 0))) || (decide (a > 31))) || (decide ((0 : Int) < 0))) || (decide ((0 : Int) > 31))) || (decide (i < (-32768)))) || (decide (i > 32767))) = decide (¬ ((0 ≤ t ∧ t ≤ 31) ∧ (0 ≤ a ∧ a ≤ 31) ∧ (-32768 ≤ i ∧ i ≤ 32767))) := by rw [Bool.eq_iff_iff]; simp <;> omega
    simp only [decide_true, decide_false, Bool.false_eq_true, if_false, if_true, Bool.not_true, Bool.not_false, Bool.false_and, Bool.true_and, show decide ((0 : Int) = 0) = true from rfl, Option.bind_some, reduceIte, show decide ((1 : Int) = 0) = false from rfl, show decide ((1 : Int) = 1) = true from rfl, show decide ((1 : Int) = 2) = false from rfl, show decide ((1 : Int) = 3) = false from rfl, show decide ((1 : Int) = 4) = false from rfl, show decide ((1 : Int) = 5) = false from rfl, show decide ((1 : Int) = 6) = false from rfl, show decide ((1 : Int) = 7) = false from rfl, show decide ((1 : Int) = 8) = false from rfl, show decide ((1 : Int) = 9) = false from rfl, show decide ((2 : Int) = 15) = false from rfl, show decide ((2 : Int) = 23) = false from rfl]
    rw [hB]
    by_cases hQ : (0 ≤ t ∧ t ≤ 31) ∧ (0 ≤ a ∧ a ≤ 31) ∧ (-32768 ≤ i ∧ i ≤ 32767)
    · rw [if_neg (by simp <;> omega), if_pos (by decide)]
      have hT : i.tmod 1 = 0 := tm1 i
      rw [if_pos (by omega)]
      simp only [hT, decide_true, Bool.not_true, Bool.false_eq_true, if_false, Option.bind_some, if_true, decide_false, Bool.not_false, show decide ((2 : Int) = 23) = false from rfl, show selvageref15_pick.m (k + 60) 2 ([1, 2] : List Int) ([14, 15] : List Int) = some 15 by rfl]
      rw [put_v 6 6 rfl (by decide) _ _ (15) (by first | (simp only []; omega) | omega | decide) (by first | (simp only []; omega) | omega | decide) (by omega), Option.bind_some]
      rw [put_v 5 5 rfl (by decide) _ _ ((15) * 32 + t) (by first | (simp only []; omega) | omega | decide) (by first | (simp only []; omega) | omega | decide) (by omega), Option.bind_some]
      rw [put_v 5 5 rfl (by decide) _ _ (((15) * 32 + t) * 32 + a) (by first | (simp only []; omega) | omega | decide) (by first | (simp only []; omega) | omega | decide) (by omega), Option.bind_some]
      rw [put_v 16 16 rfl (by decide) _ _ ((((15) * 32 + t) * 32 + a) * 65536 + i % 65536) (by first | (simp only []; omega) | omega | decide) (by first | (simp only []; omega) | omega | decide) (by omega), Option.bind_some]
      simp only [Option.bind_some, Sum.elim_inl, Sum.elim_inr]
      refine congrArg (fun z => some (z, (0 : Int))) ?_
      omega
    · rw [if_pos (by simp <;> omega), if_neg (by omega)]
      rfl

theorem refE3 (k : Nat) (t a b i : Int) : selvageref15_Encode.m (k + 60) ⟨3, t, a, b, i⟩ = some (if b ≠ 0 then (0, 3) else if (0 ≤ t ∧ t ≤ 31) ∧ (0 ≤ a ∧ a ≤ 31) ∧ (0 ≤ i ∧ i ≤ 65535) then (1610612736 + a * 2097152 + t * 65536 + i, 0) else (0, 2)) := by
  unfold selvageref15_Encode.m
  simp only [show selvageref15_sort.m 3 = some 2 from rfl, show selvageref15_uses.m 2 = some (⟨#[116, 97, 105]⟩ : ByteArray) from rfl, show selvageref15_has.m (k + 60) (⟨#[116, 97, 105]⟩ : ByteArray) 116 = some true by rfl, show selvageref15_has.m (k + 60) (⟨#[116, 97, 105]⟩ : ByteArray) 97 = some true by rfl, show selvageref15_has.m (k + 60) (⟨#[116, 97, 105]⟩ : ByteArray) 98 = some false by rfl, show selvageref15_has.m (k + 60) (⟨#[116, 97, 105]⟩ : ByteArray) 105 = some true by rfl, show selvageref15_bounds.m 2 = (0, 65535, 1) from rfl, Option.bind_some]
  by_cases hF : b ≠ 0
  · rw [if_pos hF]
    by_cases hb : b = 0 <;> first | (simp [hb]; done) | (exfalso; omega)
  · rw [if_neg hF]
    have hb : b = 0 := by omega
    subst hb
    have hB : ((((((((decide (t < 0)) || (decide (t > 31))) || (decide (a < 0))) || (decide (a > 31))) || (decide ((0 : Int) < 0))) || (decide ((0 : Int) > 31))) || (decide (i < 0))) || (decide (i > 65535))) = decide (¬ ((0 ≤ t ∧ t ≤ 31) ∧ (0 ≤ a ∧ a ≤ 31) ∧ (0 ≤ i ∧ i ≤ 65535))) := by rw [Bool.eq_iff_iff]; simp <;> omega
    simp only [decide_true, decide_false, Bool.false_eq_true, if_false, if_true, Bool.not_true, Bool.not_false, Bool.false_and, Bool.true_and, show decide ((0 : Int) = 0) = true from rfl, Option.bind_some, reduceIte, show decide ((2 : Int) = 0) = false from rfl, show decide ((2 : Int) = 1) = false from rfl, show decide ((2 : Int) = 2) = true from rfl, show decide ((2 : Int) = 3) = false from rfl, show decide ((2 : Int) = 4) = false from rfl, show decide ((2 : Int) = 5) = false from rfl, show decide ((2 : Int) = 6) = false from rfl, show decide ((2 : Int) = 7) = false from rfl, show decide ((2 : Int) = 8) = false from rfl, show decide ((2 : Int) = 9) = false from rfl, show decide ((3 : Int) = 15) = false from rfl, show decide ((3 : Int) = 23) = false from rfl]
    rw [hB]
    by_cases hQ : (0 ≤ t ∧ t ≤ 31) ∧ (0 ≤ a ∧ a ≤ 31) ∧ (0 ≤ i ∧ i ≤ 65535)
    · rw [if_neg (by simp <;> omega), if_pos (by decide)]
      have hT : i.tmod 1 = 0 := tm1 i
      rw [if_pos (by omega)]
      simp only [hT, decide_true, Bool.not_true, Bool.false_eq_true, if_false, Option.bind_some, if_true, decide_false, Bool.not_false, show decide ((3 : Int) = 23) = false from rfl, show selvageref15_pick.m (k + 60) 3 ([3, 4] : List Int) ([24, 25] : List Int) = some 24 by rfl]
      rw [put_v 6 6 rfl (by decide) _ _ (24) (by first | (simp only []; omega) | omega | decide) (by first | (simp only []; omega) | omega | decide) (by omega), Option.bind_some]
      rw [put_v 5 5 rfl (by decide) _ _ ((24) * 32 + a) (by first | (simp only []; omega) | omega | decide) (by first | (simp only []; omega) | omega | decide) (by omega), Option.bind_some]
      rw [put_v 5 5 rfl (by decide) _ _ (((24) * 32 + a) * 32 + t) (by first | (simp only []; omega) | omega | decide) (by first | (simp only []; omega) | omega | decide) (by omega), Option.bind_some]
      rw [put_v 16 16 rfl (by decide) _ _ ((((24) * 32 + a) * 32 + t) * 65536 + i) (by first | (simp only []; omega) | omega | decide) (by first | (simp only []; omega) | omega | decide) (by omega), Option.bind_some]
      simp only [Option.bind_some, Sum.elim_inl, Sum.elim_inr]
      refine congrArg (fun z => some (z, (0 : Int))) ?_
      omega
    · rw [if_pos (by simp <;> omega), if_neg (by omega)]
      rfl

theorem refE4 (k : Nat) (t a b i : Int) : selvageref15_Encode.m (k + 60) ⟨4, t, a, b, i⟩ = some (if b ≠ 0 then (0, 3) else if (0 ≤ t ∧ t ≤ 31) ∧ (0 ≤ a ∧ a ≤ 31) ∧ (0 ≤ i ∧ i ≤ 65535) then (1677721600 + a * 2097152 + t * 65536 + i, 0) else (0, 2)) := by
  unfold selvageref15_Encode.m
  simp only [show selvageref15_sort.m 4 = some 2 from rfl, show selvageref15_uses.m 2 = some (⟨#[116, 97, 105]⟩ : ByteArray) from rfl, show selvageref15_has.m (k + 60) (⟨#[116, 97, 105]⟩ : ByteArray) 116 = some true by rfl, show selvageref15_has.m (k + 60) (⟨#[116, 97, 105]⟩ : ByteArray) 97 = some true by rfl, show selvageref15_has.m (k + 60) (⟨#[116, 97, 105]⟩ : ByteArray) 98 = some false by rfl, show selvageref15_has.m (k + 60) (⟨#[116, 97, 105]⟩ : ByteArray) 105 = some true by rfl, show selvageref15_bounds.m 2 = (0, 65535, 1) from rfl, Option.bind_some]
  by_cases hF : b ≠ 0
  · rw [if_pos hF]
    by_cases hb : b = 0 <;> first | (simp [hb]; done) | (exfalso; omega)
  · rw [if_neg hF]
    have hb : b = 0 := by omega
    subst hb
    have hB : ((((((((decide (t < 0)) || (decide (t > 31))) || (decide (a < 0))) || (decide (a > 31))) || (decide ((0 : Int) < 0))) || (decide ((0 : Int) > 31))) || (decide (i < 0))) || (decide (i > 65535))) = decide (¬ ((0 ≤ t ∧ t ≤ 31) ∧ (0 ≤ a ∧ a ≤ 31) ∧ (0 ≤ i ∧ i ≤ 65535))) := by rw [Bool.eq_iff_iff]; simp <;> omega
    simp only [decide_true, decide_false, Bool.false_eq_true, if_false, if_true, Bool.not_true, Bool.not_false, Bool.false_and, Bool.true_and, show decide ((0 : Int) = 0) = true from rfl, Option.bind_some, reduceIte, show decide ((2 : Int) = 0) = false from rfl, show decide ((2 : Int) = 1) = false from rfl, show decide ((2 : Int) = 2) = true from rfl, show decide ((2 : Int) = 3) = false from rfl, show decide ((2 : Int) = 4) = false from rfl, show decide ((2 : Int) = 5) = false from rfl, show decide ((2 : Int) = 6) = false from rfl, show decide ((2 : Int) = 7) = false from rfl, show decide ((2 : Int) = 8) = false from rfl, show decide ((2 : Int) = 9) = false from rfl, show decide ((4 : Int) = 15) = false from rfl, show decide ((4 : Int) = 23) = false from rfl]
    rw [hB]
    by_cases hQ : (0 ≤ t ∧ t ≤ 31) ∧ (0 ≤ a ∧ a ≤ 31) ∧ (0 ≤ i ∧ i ≤ 65535)
    · rw [if_neg (by simp <;> omega), if_pos (by decide)]
      have hT : i.tmod 1 = 0 := tm1 i
      rw [if_pos (by omega)]
      simp only [hT, decide_true, Bool.not_true, Bool.false_eq_true, if_false, Option.bind_some, if_true, decide_false, Bool.not_false, show decide ((4 : Int) = 23) = false from rfl, show selvageref15_pick.m (k + 60) 4 ([3, 4] : List Int) ([24, 25] : List Int) = some 25 by rfl]
      rw [put_v 6 6 rfl (by decide) _ _ (25) (by first | (simp only []; omega) | omega | decide) (by first | (simp only []; omega) | omega | decide) (by omega), Option.bind_some]
      rw [put_v 5 5 rfl (by decide) _ _ ((25) * 32 + a) (by first | (simp only []; omega) | omega | decide) (by first | (simp only []; omega) | omega | decide) (by omega), Option.bind_some]
      rw [put_v 5 5 rfl (by decide) _ _ (((25) * 32 + a) * 32 + t) (by first | (simp only []; omega) | omega | decide) (by first | (simp only []; omega) | omega | decide) (by omega), Option.bind_some]
      rw [put_v 16 16 rfl (by decide) _ _ ((((25) * 32 + a) * 32 + t) * 65536 + i) (by first | (simp only []; omega) | omega | decide) (by first | (simp only []; omega) | omega | decide) (by omega), Option.bind_some]
      simp only [Option.bind_some, Sum.elim_inl, Sum.elim_inr]
      refine congrArg (fun z => some (z, (0 : Int))) ?_
      omega
    · rw [if_pos (by simp <;> omega), if_neg (by omega)]
      rfl

theorem refE5 (k : Nat) (t a b i : Int) : selvageref15_Encode.m (k + 60) ⟨5, t, a, b, i⟩ = some (if b ≠ 0 then (0, 3) else if (0 ≤ t ∧ t ≤ 31) ∧ (0 ≤ a ∧ a ≤ 31) ∧ (0 ≤ i ∧ i ≤ 63) then (2013265924 + a * 2097152 + t * 65536 + i % 32 * 2048 + (63 - i) % 32 * 64 + (63 - i) / 32 * 32 + i / 32 * 2, 0) else (0, 2)) := by
  unfold selvageref15_Encode.m
  simp only [show selvageref15_sort.m 5 = some 3 from rfl, show selvageref15_uses.m 3 = some (⟨#[116, 97, 105]⟩ : ByteArray) from rfl, show selvageref15_has.m (k + 60) (⟨#[116, 97, 105]⟩ : ByteArray) 116 = some true by rfl, show selvageref15_has.m (k + 60) (⟨#[116, 97, 105]⟩ : ByteArray) 97 = some true by rfl, show selvageref15_has.m (k + 60) (⟨#[116, 97, 105]⟩ : ByteArray) 98 = some false by rfl, show selvageref15_has.m (k + 60) (⟨#[116, 97, 105]⟩ : ByteArray) 105 = some true by rfl, show selvageref15_bounds.m 3 = (0, 63, 1) from rfl, Option.bind_some]
  by_cases hF : b ≠ 0
  · rw [if_pos hF]
    by_cases hb : b = 0 <;> first | (simp [hb]; done) | (exfalso; omega)
  · rw [if_neg hF]
    have hb : b = 0 := by omega
    subst hb
    have hB : ((((((((decide (t < 0)) || (decide (t > 31))) || (decide (a < 0))) || (decide (a > 31))) || (decide ((0 : Int) < 0))) || (decide ((0 : Int) > 31))) || (decide (i < 0))) || (decide (i > 63))) = decide (¬ ((0 ≤ t ∧ t ≤ 31) ∧ (0 ≤ a ∧ a ≤ 31) ∧ (0 ≤ i ∧ i ≤ 63))) := by rw [Bool.eq_iff_iff]; simp <;> omega
    simp only [decide_true, decide_false, Bool.false_eq_true, if_false, if_true, Bool.not_true, Bool.not_false, Bool.false_and, Bool.true_and, show decide ((0 : Int) = 0) = true from rfl, Option.bind_some, reduceIte, show decide ((3 : Int) = 0) = false from rfl, show decide ((3 : Int) = 1) = false from rfl, show decide ((3 : Int) = 2) = false from rfl, show decide ((3 : Int) = 3) = true from rfl, show decide ((3 : Int) = 4) = false from rfl, show decide ((3 : Int) = 5) = false from rfl, show decide ((3 : Int) = 6) = false from rfl, show decide ((3 : Int) = 7) = false from rfl, show decide ((3 : Int) = 8) = false from rfl, show decide ((3 : Int) = 9) = false from rfl, show decide ((5 : Int) = 15) = false from rfl, show decide ((5 : Int) = 23) = false from rfl]
    rw [hB]
    by_cases hQ : (0 ≤ t ∧ t ≤ 31) ∧ (0 ≤ a ∧ a ≤ 31) ∧ (0 ≤ i ∧ i ≤ 63)
    · rw [if_neg (by simp <;> omega), if_pos (by decide)]
      have hT : i.tmod 1 = 0 := tm1 i
      rw [if_pos (by omega)]
      simp only [hT, decide_true, Bool.not_true, Bool.false_eq_true, if_false, Option.bind_some, if_true, decide_false, Bool.not_false, show decide ((5 : Int) = 23) = false from rfl]
      have e1 : wrap64 (63 - i) = 63 - i := by unfold wrap64; omega
      have e2 : wrap64 (Int.tdiv (63 - i) 32) = (63 - i) / 32 := by rw [Int.tdiv_eq_ediv_of_nonneg (by omega)]; unfold wrap64; omega
      have e3 : wrap64 (Int.tdiv i 32) = i / 32 := by rw [Int.tdiv_eq_ediv_of_nonneg (by omega)]; unfold wrap64; omega
      rw [e1, e2, e3]
      rw [put_v 6 6 rfl (by decide) _ _ (30) (by first | (simp only []; omega) | omega | decide) (by first | (simp only []; omega) | omega | decide) (by omega), Option.bind_some]
      rw [put_v 5 5 rfl (by decide) _ _ ((30) * 32 + a) (by first | (simp only []; omega) | omega | decide) (by first | (simp only []; omega) | omega | decide) (by omega), Option.bind_some]
      rw [put_v 5 5 rfl (by decide) _ _ (((30) * 32 + a) * 32 + t) (by first | (simp only []; omega) | omega | decide) (by first | (simp only []; omega) | omega | decide) (by omega), Option.bind_some]
      rw [put_v 5 5 rfl (by decide) _ _ ((((30) * 32 + a) * 32 + t) * 32 + i % 32) (by first | (simp only []; omega) | omega | decide) (by first | (simp only []; omega) | omega | decide) (by omega), Option.bind_some]
      rw [put_v 5 5 rfl (by decide) _ _ (((((30) * 32 + a) * 32 + t) * 32 + i % 32) * 32 + (63 - i) % 32) (by first | (simp only []; omega) | omega | decide) (by first | (simp only []; omega) | omega | decide) (by omega), Option.bind_some]
      rw [put_v 1 1 rfl (by decide) _ _ ((((((30) * 32 + a) * 32 + t) * 32 + i % 32) * 32 + (63 - i) % 32) * 2 + (63 - i) / 32) (by first | (simp only []; omega) | omega | decide) (by first | (simp only []; omega) | omega | decide) (by omega), Option.bind_some]
      rw [put_v 3 3 rfl (by decide) _ _ (((((((30) * 32 + a) * 32 + t) * 32 + i % 32) * 32 + (63 - i) % 32) * 2 + (63 - i) / 32) * 8 + 1) (by first | (simp only []; omega) | omega | decide) (by first | (simp only []; omega) | omega | decide) (by omega), Option.bind_some]
      rw [put_v 1 1 rfl (by decide) _ _ ((((((((30) * 32 + a) * 32 + t) * 32 + i % 32) * 32 + (63 - i) % 32) * 2 + (63 - i) / 32) * 8 + 1) * 2 + i / 32) (by first | (simp only []; omega) | omega | decide) (by first | (simp only []; omega) | omega | decide) (by omega), Option.bind_some]
      rw [put_v 1 1 rfl (by decide) _ _ (((((((((30) * 32 + a) * 32 + t) * 32 + i % 32) * 32 + (63 - i) % 32) * 2 + (63 - i) / 32) * 8 + 1) * 2 + i / 32) * 2 + 0) (by first | (simp only []; omega) | omega | decide) (by first | (simp only []; omega) | omega | decide) (by omega), Option.bind_some]
      simp only [Option.bind_some, Sum.elim_inl, Sum.elim_inr]
      refine congrArg (fun z => some (z, (0 : Int))) ?_
      omega
    · rw [if_pos (by simp <;> omega), if_neg (by omega)]
      rfl

theorem refE6 (k : Nat) (t a b i : Int) : selvageref15_Encode.m (k + 60) ⟨6, t, a, b, i⟩ = some (if i ≠ 0 then (0, 3) else if (0 ≤ t ∧ t ≤ 31) ∧ (0 ≤ a ∧ a ≤ 31) ∧ (0 ≤ b ∧ b ≤ 31) then (2080375316 + t * 2097152 + a * 65536 + b * 2048, 0) else (0, 2)) := by
  unfold selvageref15_Encode.m
  simp only [show selvageref15_sort.m 6 = some 4 from rfl, show selvageref15_uses.m 4 = some (⟨#[116, 97, 98]⟩ : ByteArray) from rfl, show selvageref15_has.m (k + 60) (⟨#[116, 97, 98]⟩ : ByteArray) 116 = some true by rfl, show selvageref15_has.m (k + 60) (⟨#[116, 97, 98]⟩ : ByteArray) 97 = some true by rfl, show selvageref15_has.m (k + 60) (⟨#[116, 97, 98]⟩ : ByteArray) 98 = some true by rfl, show selvageref15_has.m (k + 60) (⟨#[116, 97, 98]⟩ : ByteArray) 105 = some false by rfl, show selvageref15_bounds.m 4 = (0, 0, 1) from rfl, Option.bind_some]
  by_cases hF : i ≠ 0
  · rw [if_pos hF]
    by_cases hi : i = 0 <;> first | (simp [hi]; done) | (exfalso; omega)
  · rw [if_neg hF]
    have hi : i = 0 := by omega
    subst hi
    have hB : ((((((((decide (t < 0)) || (decide (t > 31))) || (decide (a < 0))) || (decide (a > 31))) || (decide (b < 0))) || (decide (b > 31))) || (decide ((0 : Int) < 0))) || (decide ((0 : Int) > 0))) = decide (¬ ((0 ≤ t ∧ t ≤ 31) ∧ (0 ≤ a ∧ a ≤ 31) ∧ (0 ≤ b ∧ b ≤ 31))) := by rw [Bool.eq_iff_iff]; simp <;> omega
    simp only [decide_true, decide_false, Bool.false_eq_true, if_false, if_true, Bool.not_true, Bool.not_false, Bool.false_and, Bool.true_and, show decide ((0 : Int) = 0) = true from rfl, Option.bind_some, reduceIte, show decide ((4 : Int) = 0) = false from rfl, show decide ((4 : Int) = 1) = false from rfl, show decide ((4 : Int) = 2) = false from rfl, show decide ((4 : Int) = 3) = false from rfl, show decide ((4 : Int) = 4) = true from rfl, show decide ((4 : Int) = 5) = false from rfl, show decide ((4 : Int) = 6) = false from rfl, show decide ((4 : Int) = 7) = false from rfl, show decide ((4 : Int) = 8) = false from rfl, show decide ((4 : Int) = 9) = false from rfl, show decide ((6 : Int) = 15) = false from rfl, show decide ((6 : Int) = 23) = false from rfl]
    rw [hB]
    by_cases hQ : (0 ≤ t ∧ t ≤ 31) ∧ (0 ≤ a ∧ a ≤ 31) ∧ (0 ≤ b ∧ b ≤ 31)
    · rw [if_neg (by simp <;> omega), if_pos (by decide)]
      have hT : (0 : Int).tmod 1 = 0 := tm1 0
      rw [if_pos (by omega)]
      simp only [hT, decide_true, Bool.not_true, Bool.false_eq_true, if_false, Option.bind_some, if_true, decide_false, Bool.not_false, show decide ((6 : Int) = 23) = false from rfl, show selvageref15_pick.m (k + 60) 6 ([6, 7, 8, 9, 12, 13, 14, 15] : List Int) ([266, 40, 233, 489, 21, 149, 84, 214] : List Int) = some 266 by rfl]
      rw [put_v 6 6 rfl (by decide) _ _ (31) (by first | (simp only []; omega) | omega | decide) (by first | (simp only []; omega) | omega | decide) (by omega), Option.bind_some]
      rw [put_v 5 5 rfl (by decide) _ _ ((31) * 32 + t) (by first | (simp only []; omega) | omega | decide) (by first | (simp only []; omega) | omega | decide) (by omega), Option.bind_some]
      rw [put_v 5 5 rfl (by decide) _ _ (((31) * 32 + t) * 32 + a) (by first | (simp only []; omega) | omega | decide) (by first | (simp only []; omega) | omega | decide) (by omega), Option.bind_some]
      rw [put_v 5 5 rfl (by decide) _ _ ((((31) * 32 + t) * 32 + a) * 32 + b) (by first | (simp only []; omega) | omega | decide) (by first | (simp only []; omega) | omega | decide) (by omega), Option.bind_some]
      rw [put_v 10 10 rfl (by decide) _ _ (((((31) * 32 + t) * 32 + a) * 32 + b) * 1024 + 266) (by first | (simp only []; omega) | omega | decide) (by first | (simp only []; omega) | omega | decide) (by omega), Option.bind_some]
      rw [put_v 1 1 rfl (by decide) _ _ ((((((31) * 32 + t) * 32 + a) * 32 + b) * 1024 + 266) * 2 + 0) (by first | (simp only []; omega) | omega | decide) (by first | (simp only []; omega) | omega | decide) (by omega), Option.bind_some]
      simp only [Option.bind_some, Sum.elim_inl, Sum.elim_inr]
      refine congrArg (fun z => some (z, (0 : Int))) ?_
      omega
    · rw [if_pos (by simp <;> omega), if_neg (by omega)]
      rfl

theorem refE7 (k : Nat) (t a b i : Int) : selvageref15_Encode.m (k + 60) ⟨7, t, a, b, i⟩ = some (if i ≠ 0 then (0, 3) else if (0 ≤ t ∧ t ≤ 31) ∧ (0 ≤ a ∧ a ≤ 31) ∧ (0 ≤ b ∧ b ≤ 31) then (2080374864 + t * 2097152 + a * 65536 + b * 2048, 0) else (0, 2)) := by
  unfold selvageref15_Encode.m
  simp only [show selvageref15_sort.m 7 = some 4 from rfl, show selvageref15_uses.m 4 = some (⟨#[116, 97, 98]⟩ : ByteArray) from rfl, show selvageref15_has.m (k + 60) (⟨#[116, 97, 98]⟩ : ByteArray) 116 = some true by rfl, show selvageref15_has.m (k + 60) (⟨#[116, 97, 98]⟩ : ByteArray) 97 = some true by rfl, show selvageref15_has.m (k + 60) (⟨#[116, 97, 98]⟩ : ByteArray) 98 = some true by rfl, show selvageref15_has.m (k + 60) (⟨#[116, 97, 98]⟩ : ByteArray) 105 = some false by rfl, show selvageref15_bounds.m 4 = (0, 0, 1) from rfl, Option.bind_some]
  by_cases hF : i ≠ 0
  · rw [if_pos hF]
    by_cases hi : i = 0 <;> first | (simp [hi]; done) | (exfalso; omega)
  · rw [if_neg hF]
    have hi : i = 0 := by omega
    subst hi
    have hB : ((((((((decide (t < 0)) || (decide (t > 31))) || (decide (a < 0))) || (decide (a > 31))) || (decide (b < 0))) || (decide (b > 31))) || (decide ((0 : Int) < 0))) || (decide ((0 : Int) > 0))) = decide (¬ ((0 ≤ t ∧ t ≤ 31) ∧ (0 ≤ a ∧ a ≤ 31) ∧ (0 ≤ b ∧ b ≤ 31))) := by rw [Bool.eq_iff_iff]; simp <;> omega
    simp only [decide_true, decide_false, Bool.false_eq_true, if_false, if_true, Bool.not_true, Bool.not_false, Bool.false_and, Bool.true_and, show decide ((0 : Int) = 0) = true from rfl, Option.bind_some, reduceIte, show decide ((4 : Int) = 0) = false from rfl, show decide ((4 : Int) = 1) = false from rfl, show decide ((4 : Int) = 2) = false from rfl, show decide ((4 : Int) = 3) = false from rfl, show decide ((4 : Int) = 4) = true from rfl, show decide ((4 : Int) = 5) = false from rfl, show decide ((4 : Int) = 6) = false from rfl, show decide ((4 : Int) = 7) = false from rfl, show decide ((4 : Int) = 8) = false from rfl, show decide ((4 : Int) = 9) = false from rfl, show decide ((7 : Int) = 15) = false from rfl, show decide ((7 : Int) = 23) = false from rfl]
    rw [hB]
    by_cases hQ : (0 ≤ t ∧ t ≤ 31) ∧ (0 ≤ a ∧ a ≤ 31) ∧ (0 ≤ b ∧ b ≤ 31)
    · rw [if_neg (by simp <;> omega), if_pos (by decide)]
      have hT : (0 : Int).tmod 1 = 0 := tm1 0
      rw [if_pos (by omega)]
      simp only [hT, decide_true, Bool.not_true, Bool.false_eq_true, if_false, Option.bind_some, if_true, decide_false, Bool.not_false, show decide ((7 : Int) = 23) = false from rfl, show selvageref15_pick.m (k + 60) 7 ([6, 7, 8, 9, 12, 13, 14, 15] : List Int) ([266, 40, 233, 489, 21, 149, 84, 214] : List Int) = some 40 by rfl]
      rw [put_v 6 6 rfl (by decide) _ _ (31) (by first | (simp only []; omega) | omega | decide) (by first | (simp only []; omega) | omega | decide) (by omega), Option.bind_some]
      rw [put_v 5 5 rfl (by decide) _ _ ((31) * 32 + t) (by first | (simp only []; omega) | omega | decide) (by first | (simp only []; omega) | omega | decide) (by omega), Option.bind_some]
      rw [put_v 5 5 rfl (by decide) _ _ (((31) * 32 + t) * 32 + a) (by first | (simp only []; omega) | omega | decide) (by first | (simp only []; omega) | omega | decide) (by omega), Option.bind_some]
      rw [put_v 5 5 rfl (by decide) _ _ ((((31) * 32 + t) * 32 + a) * 32 + b) (by first | (simp only []; omega) | omega | decide) (by first | (simp only []; omega) | omega | decide) (by omega), Option.bind_some]
      rw [put_v 10 10 rfl (by decide) _ _ (((((31) * 32 + t) * 32 + a) * 32 + b) * 1024 + 40) (by first | (simp only []; omega) | omega | decide) (by first | (simp only []; omega) | omega | decide) (by omega), Option.bind_some]
      rw [put_v 1 1 rfl (by decide) _ _ ((((((31) * 32 + t) * 32 + a) * 32 + b) * 1024 + 40) * 2 + 0) (by first | (simp only []; omega) | omega | decide) (by first | (simp only []; omega) | omega | decide) (by omega), Option.bind_some]
      simp only [Option.bind_some, Sum.elim_inl, Sum.elim_inr]
      refine congrArg (fun z => some (z, (0 : Int))) ?_
      omega
    · rw [if_pos (by simp <;> omega), if_neg (by omega)]
      rfl

theorem refE8 (k : Nat) (t a b i : Int) : selvageref15_Encode.m (k + 60) ⟨8, t, a, b, i⟩ = some (if i ≠ 0 then (0, 3) else if (0 ≤ t ∧ t ≤ 31) ∧ (0 ≤ a ∧ a ≤ 31) ∧ (0 ≤ b ∧ b ≤ 31) then (2080375250 + t * 2097152 + a * 65536 + b * 2048, 0) else (0, 2)) := by
  unfold selvageref15_Encode.m
  simp only [show selvageref15_sort.m 8 = some 4 from rfl, show selvageref15_uses.m 4 = some (⟨#[116, 97, 98]⟩ : ByteArray) from rfl, show selvageref15_has.m (k + 60) (⟨#[116, 97, 98]⟩ : ByteArray) 116 = some true by rfl, show selvageref15_has.m (k + 60) (⟨#[116, 97, 98]⟩ : ByteArray) 97 = some true by rfl, show selvageref15_has.m (k + 60) (⟨#[116, 97, 98]⟩ : ByteArray) 98 = some true by rfl, show selvageref15_has.m (k + 60) (⟨#[116, 97, 98]⟩ : ByteArray) 105 = some false by rfl, show selvageref15_bounds.m 4 = (0, 0, 1) from rfl, Option.bind_some]
  by_cases hF : i ≠ 0
  · rw [if_pos hF]
    by_cases hi : i = 0 <;> first | (simp [hi]; done) | (exfalso; omega)
  · rw [if_neg hF]
    have hi : i = 0 := by omega
    subst hi
    have hB : ((((((((decide (t < 0)) || (decide (t > 31))) || (decide (a < 0))) || (decide (a > 31))) || (decide (b < 0))) || (decide (b > 31))) || (decide ((0 : Int) < 0))) || (decide ((0 : Int) > 0))) = decide (¬ ((0 ≤ t ∧ t ≤ 31) ∧ (0 ≤ a ∧ a ≤ 31) ∧ (0 ≤ b ∧ b ≤ 31))) := by rw [Bool.eq_iff_iff]; simp <;> omega
    simp only [decide_true, decide_false, Bool.false_eq_true, if_false, if_true, Bool.not_true, Bool.not_false, Bool.false_and, Bool.true_and, show decide ((0 : Int) = 0) = true from rfl, Option.bind_some, reduceIte, show decide ((4 : Int) = 0) = false from rfl, show decide ((4 : Int) = 1) = false from rfl, show decide ((4 : Int) = 2) = false from rfl, show decide ((4 : Int) = 3) = false from rfl, show decide ((4 : Int) = 4) = true from rfl, show decide ((4 : Int) = 5) = false from rfl, show decide ((4 : Int) = 6) = false from rfl, show decide ((4 : Int) = 7) = false from rfl, show decide ((4 : Int) = 8) = false from rfl, show decide ((4 : Int) = 9) = false from rfl, show decide ((8 : Int) = 15) = false from rfl, show decide ((8 : Int) = 23) = false from rfl]
    rw [hB]
    by_cases hQ : (0 ≤ t ∧ t ≤ 31) ∧ (0 ≤ a ∧ a ≤ 31) ∧ (0 ≤ b ∧ b ≤ 31)
    · rw [if_neg (by simp <;> omega), if_pos (by decide)]
      have hT : (0 : Int).tmod 1 = 0 := tm1 0
      rw [if_pos (by omega)]
      simp only [hT, decide_true, Bool.not_true, Bool.false_eq_true, if_false, Option.bind_some, if_true, decide_false, Bool.not_false, show decide ((8 : Int) = 23) = false from rfl, show selvageref15_pick.m (k + 60) 8 ([6, 7, 8, 9, 12, 13, 14, 15] : List Int) ([266, 40, 233, 489, 21, 149, 84, 214] : List Int) = some 233 by rfl]
      rw [put_v 6 6 rfl (by decide) _ _ (31) (by first | (simp only []; omega) | omega | decide) (by first | (simp only []; omega) | omega | decide) (by omega), Option.bind_some]
      rw [put_v 5 5 rfl (by decide) _ _ ((31) * 32 + t) (by first | (simp only []; omega) | omega | decide) (by first | (simp only []; omega) | omega | decide) (by omega), Option.bind_some]
      rw [put_v 5 5 rfl (by decide) _ _ (((31) * 32 + t) * 32 + a) (by first | (simp only []; omega) | omega | decide) (by first | (simp only []; omega) | omega | decide) (by omega), Option.bind_some]
      rw [put_v 5 5 rfl (by decide) _ _ ((((31) * 32 + t) * 32 + a) * 32 + b) (by first | (simp only []; omega) | omega | decide) (by first | (simp only []; omega) | omega | decide) (by omega), Option.bind_some]
      rw [put_v 10 10 rfl (by decide) _ _ (((((31) * 32 + t) * 32 + a) * 32 + b) * 1024 + 233) (by first | (simp only []; omega) | omega | decide) (by first | (simp only []; omega) | omega | decide) (by omega), Option.bind_some]
      rw [put_v 1 1 rfl (by decide) _ _ ((((((31) * 32 + t) * 32 + a) * 32 + b) * 1024 + 233) * 2 + 0) (by first | (simp only []; omega) | omega | decide) (by first | (simp only []; omega) | omega | decide) (by omega), Option.bind_some]
      simp only [Option.bind_some, Sum.elim_inl, Sum.elim_inr]
      refine congrArg (fun z => some (z, (0 : Int))) ?_
      omega
    · rw [if_pos (by simp <;> omega), if_neg (by omega)]
      rfl

theorem refE9 (k : Nat) (t a b i : Int) : selvageref15_Encode.m (k + 60) ⟨9, t, a, b, i⟩ = some (if i ≠ 0 then (0, 3) else if (0 ≤ t ∧ t ≤ 31) ∧ (0 ≤ a ∧ a ≤ 31) ∧ (0 ≤ b ∧ b ≤ 31) then (2080375762 + t * 2097152 + a * 65536 + b * 2048, 0) else (0, 2)) := by
  unfold selvageref15_Encode.m
  simp only [show selvageref15_sort.m 9 = some 4 from rfl, show selvageref15_uses.m 4 = some (⟨#[116, 97, 98]⟩ : ByteArray) from rfl, show selvageref15_has.m (k + 60) (⟨#[116, 97, 98]⟩ : ByteArray) 116 = some true by rfl, show selvageref15_has.m (k + 60) (⟨#[116, 97, 98]⟩ : ByteArray) 97 = some true by rfl, show selvageref15_has.m (k + 60) (⟨#[116, 97, 98]⟩ : ByteArray) 98 = some true by rfl, show selvageref15_has.m (k + 60) (⟨#[116, 97, 98]⟩ : ByteArray) 105 = some false by rfl, show selvageref15_bounds.m 4 = (0, 0, 1) from rfl, Option.bind_some]
  by_cases hF : i ≠ 0
  · rw [if_pos hF]
    by_cases hi : i = 0 <;> first | (simp [hi]; done) | (exfalso; omega)
  · rw [if_neg hF]
    have hi : i = 0 := by omega
    subst hi
    have hB : ((((((((decide (t < 0)) || (decide (t > 31))) || (decide (a < 0))) || (decide (a > 31))) || (decide (b < 0))) || (decide (b > 31))) || (decide ((0 : Int) < 0))) || (decide ((0 : Int) > 0))) = decide (¬ ((0 ≤ t ∧ t ≤ 31) ∧ (0 ≤ a ∧ a ≤ 31) ∧ (0 ≤ b ∧ b ≤ 31))) := by rw [Bool.eq_iff_iff]; simp <;> omega
    simp only [decide_true, decide_false, Bool.false_eq_true, if_false, if_true, Bool.not_true, Bool.not_false, Bool.false_and, Bool.true_and, show decide ((0 : Int) = 0) = true from rfl, Option.bind_some, reduceIte, show decide ((4 : Int) = 0) = false from rfl, show decide ((4 : Int) = 1) = false from rfl, show decide ((4 : Int) = 2) = false from rfl, show decide ((4 : Int) = 3) = false from rfl, show decide ((4 : Int) = 4) = true from rfl, show decide ((4 : Int) = 5) = false from rfl, show decide ((4 : Int) = 6) = false from rfl, show decide ((4 : Int) = 7) = false from rfl, show decide ((4 : Int) = 8) = false from rfl, show decide ((4 : Int) = 9) = false from rfl, show decide ((9 : Int) = 15) = false from rfl, show decide ((9 : Int) = 23) = false from rfl]
    rw [hB]
    by_cases hQ : (0 ≤ t ∧ t ≤ 31) ∧ (0 ≤ a ∧ a ≤ 31) ∧ (0 ≤ b ∧ b ≤ 31)
    · rw [if_neg (by simp <;> omega), if_pos (by decide)]
      have hT : (0 : Int).tmod 1 = 0 := tm1 0
      rw [if_pos (by omega)]
      simp only [hT, decide_true, Bool.not_true, Bool.false_eq_true, if_false, Option.bind_some, if_true, decide_false, Bool.not_false, show decide ((9 : Int) = 23) = false from rfl, show selvageref15_pick.m (k + 60) 9 ([6, 7, 8, 9, 12, 13, 14, 15] : List Int) ([266, 40, 233, 489, 21, 149, 84, 214] : List Int) = some 489 by rfl]
      rw [put_v 6 6 rfl (by decide) _ _ (31) (by first | (simp only []; omega) | omega | decide) (by first | (simp only []; omega) | omega | decide) (by omega), Option.bind_some]
      rw [put_v 5 5 rfl (by decide) _ _ ((31) * 32 + t) (by first | (simp only []; omega) | omega | decide) (by first | (simp only []; omega) | omega | decide) (by omega), Option.bind_some]
      rw [put_v 5 5 rfl (by decide) _ _ (((31) * 32 + t) * 32 + a) (by first | (simp only []; omega) | omega | decide) (by first | (simp only []; omega) | omega | decide) (by omega), Option.bind_some]
      rw [put_v 5 5 rfl (by decide) _ _ ((((31) * 32 + t) * 32 + a) * 32 + b) (by first | (simp only []; omega) | omega | decide) (by first | (simp only []; omega) | omega | decide) (by omega), Option.bind_some]
      rw [put_v 10 10 rfl (by decide) _ _ (((((31) * 32 + t) * 32 + a) * 32 + b) * 1024 + 489) (by first | (simp only []; omega) | omega | decide) (by first | (simp only []; omega) | omega | decide) (by omega), Option.bind_some]
      rw [put_v 1 1 rfl (by decide) _ _ ((((((31) * 32 + t) * 32 + a) * 32 + b) * 1024 + 489) * 2 + 0) (by first | (simp only []; omega) | omega | decide) (by first | (simp only []; omega) | omega | decide) (by omega), Option.bind_some]
      simp only [Option.bind_some, Sum.elim_inl, Sum.elim_inr]
      refine congrArg (fun z => some (z, (0 : Int))) ?_
      omega
    · rw [if_pos (by simp <;> omega), if_neg (by omega)]
      rfl

theorem refE10 (k : Nat) (t a b i : Int) : selvageref15_Encode.m (k + 60) ⟨10, t, a, b, i⟩ = some (if b ≠ 0 then (0, 3) else if (0 ≤ t ∧ t ≤ 31) ∧ (0 ≤ a ∧ a ≤ 31) ∧ (-32768 ≤ i ∧ i ≤ 32764 ∧ i % 4 = 0) then (3892314112 + t * 2097152 + a * 65536 + i % 65536, 0) else (0, 2)) := by
  unfold selvageref15_Encode.m
  simp only [show selvageref15_sort.m 10 = some 5 from rfl, show selvageref15_uses.m 5 = some (⟨#[116, 97, 105]⟩ : ByteArray) from rfl, show selvageref15_has.m (k + 60) (⟨#[116, 97, 105]⟩ : ByteArray) 116 = some true by rfl, show selvageref15_has.m (k + 60) (⟨#[116, 97, 105]⟩ : ByteArray) 97 = some true by rfl, show selvageref15_has.m (k + 60) (⟨#[116, 97, 105]⟩ : ByteArray) 98 = some false by rfl, show selvageref15_has.m (k + 60) (⟨#[116, 97, 105]⟩ : ByteArray) 105 = some true by rfl, show selvageref15_bounds.m 5 = ((-32768), 32764, 4) from rfl, Option.bind_some]
  by_cases hF : b ≠ 0
  · rw [if_pos hF]
    by_cases hb : b = 0 <;> first | (simp [hb]; done) | (exfalso; omega)
  · rw [if_neg hF]
    have hb : b = 0 := by omega
    subst hb
    have hB : ((((((((decide (t < 0)) || (decide (t > 31))) || (decide (a < 0))) || (decide (a > 31))) || (decide ((0 : Int) < 0))) || (decide ((0 : Int) > 31))) || (decide (i < (-32768)))) || (decide (i > 32764))) = decide (¬ ((0 ≤ t ∧ t ≤ 31) ∧ (0 ≤ a ∧ a ≤ 31) ∧ (-32768 ≤ i ∧ i ≤ 32764))) := by rw [Bool.eq_iff_iff]; simp <;> omega
    simp only [decide_true, decide_false, Bool.false_eq_true, if_false, if_true, Bool.not_true, Bool.not_false, Bool.false_and, Bool.true_and, show decide ((0 : Int) = 0) = true from rfl, Option.bind_some, reduceIte, show decide ((5 : Int) = 0) = false from rfl, show decide ((5 : Int) = 1) = false from rfl, show decide ((5 : Int) = 2) = false from rfl, show decide ((5 : Int) = 3) = false from rfl, show decide ((5 : Int) = 4) = false from rfl, show decide ((5 : Int) = 5) = true from rfl, show decide ((5 : Int) = 6) = false from rfl, show decide ((5 : Int) = 7) = false from rfl, show decide ((5 : Int) = 8) = false from rfl, show decide ((5 : Int) = 9) = false from rfl, show decide ((10 : Int) = 15) = false from rfl, show decide ((10 : Int) = 23) = false from rfl]
    rw [hB]
    by_cases hQ : (0 ≤ t ∧ t ≤ 31) ∧ (0 ≤ a ∧ a ≤ 31) ∧ (-32768 ≤ i ∧ i ≤ 32764)
    · rw [if_neg (by simp <;> omega), if_pos (by decide)]
      by_cases hM : i % 4 = 0
      · have hT : i.tmod 4 = 0 := (tm4 i).2 hM
        rw [if_pos (by omega)]
        simp only [hT, decide_true, Bool.not_true, Bool.false_eq_true, if_false, Option.bind_some, if_true, decide_false, Bool.not_false, show decide ((10 : Int) = 23) = false from rfl, show selvageref15_pick.m (k + 60) 10 ([10, 11] : List Int) ([58, 62] : List Int) = some 58 by rfl]
        have e4 : wrap64 (Int.tdiv i 4) = i / 4 := by rw [Int.tdiv_eq_ediv_of_dvd (Int.dvd_of_emod_eq_zero hM)]; unfold wrap64; omega
        rw [e4]
        rw [put_v 6 6 rfl (by decide) _ _ (58) (by first | (simp only []; omega) | omega | decide) (by first | (simp only []; omega) | omega | decide) (by omega), Option.bind_some]
        rw [put_v 5 5 rfl (by decide) _ _ ((58) * 32 + t) (by first | (simp only []; omega) | omega | decide) (by first | (simp only []; omega) | omega | decide) (by omega), Option.bind_some]
        rw [put_v 5 5 rfl (by decide) _ _ (((58) * 32 + t) * 32 + a) (by first | (simp only []; omega) | omega | decide) (by first | (simp only []; omega) | omega | decide) (by omega), Option.bind_some]
        rw [put_v 14 14 rfl (by decide) _ _ ((((58) * 32 + t) * 32 + a) * 16384 + i / 4 % 16384) (by first | (simp only []; omega) | omega | decide) (by first | (simp only []; omega) | omega | decide) (by omega), Option.bind_some]
        rw [put_v 2 2 rfl (by decide) _ _ (((((58) * 32 + t) * 32 + a) * 16384 + i / 4 % 16384) * 4 + 0) (by first | (simp only []; omega) | omega | decide) (by first | (simp only []; omega) | omega | decide) (by omega), Option.bind_some]
        simp only [Option.bind_some, Sum.elim_inl, Sum.elim_inr]
        refine congrArg (fun z => some (z, (0 : Int))) ?_
        omega
      · have hT : ¬ i.tmod 4 = 0 := by rw [tm4]; exact hM
        rw [if_neg (by omega)]
        simp only [hT, decide_false, Bool.not_false, Option.bind_some, if_true]
    · rw [if_pos (by simp <;> omega), if_neg (by omega)]
      rfl

theorem refE11 (k : Nat) (t a b i : Int) : selvageref15_Encode.m (k + 60) ⟨11, t, a, b, i⟩ = some (if b ≠ 0 then (0, 3) else if (0 ≤ t ∧ t ≤ 31) ∧ (0 ≤ a ∧ a ≤ 31) ∧ (-32768 ≤ i ∧ i ≤ 32764 ∧ i % 4 = 0) then (4160749568 + t * 2097152 + a * 65536 + i % 65536, 0) else (0, 2)) := by
  unfold selvageref15_Encode.m
  simp only [show selvageref15_sort.m 11 = some 5 from rfl, show selvageref15_uses.m 5 = some (⟨#[116, 97, 105]⟩ : ByteArray) from rfl, show selvageref15_has.m (k + 60) (⟨#[116, 97, 105]⟩ : ByteArray) 116 = some true by rfl, show selvageref15_has.m (k + 60) (⟨#[116, 97, 105]⟩ : ByteArray) 97 = some true by rfl, show selvageref15_has.m (k + 60) (⟨#[116, 97, 105]⟩ : ByteArray) 98 = some false by rfl, show selvageref15_has.m (k + 60) (⟨#[116, 97, 105]⟩ : ByteArray) 105 = some true by rfl, show selvageref15_bounds.m 5 = ((-32768), 32764, 4) from rfl, Option.bind_some]
  by_cases hF : b ≠ 0
  · rw [if_pos hF]
    by_cases hb : b = 0 <;> first | (simp [hb]; done) | (exfalso; omega)
  · rw [if_neg hF]
    have hb : b = 0 := by omega
    subst hb
    have hB : ((((((((decide (t < 0)) || (decide (t > 31))) || (decide (a < 0))) || (decide (a > 31))) || (decide ((0 : Int) < 0))) || (decide ((0 : Int) > 31))) || (decide (i < (-32768)))) || (decide (i > 32764))) = decide (¬ ((0 ≤ t ∧ t ≤ 31) ∧ (0 ≤ a ∧ a ≤ 31) ∧ (-32768 ≤ i ∧ i ≤ 32764))) := by rw [Bool.eq_iff_iff]; simp <;> omega
    simp only [decide_true, decide_false, Bool.false_eq_true, if_false, if_true, Bool.not_true, Bool.not_false, Bool.false_and, Bool.true_and, show decide ((0 : Int) = 0) = true from rfl, Option.bind_some, reduceIte, show decide ((5 : Int) = 0) = false from rfl, show decide ((5 : Int) = 1) = false from rfl, show decide ((5 : Int) = 2) = false from rfl, show decide ((5 : Int) = 3) = false from rfl, show decide ((5 : Int) = 4) = false from rfl, show decide ((5 : Int) = 5) = true from rfl, show decide ((5 : Int) = 6) = false from rfl, show decide ((5 : Int) = 7) = false from rfl, show decide ((5 : Int) = 8) = false from rfl, show decide ((5 : Int) = 9) = false from rfl, show decide ((11 : Int) = 15) = false from rfl, show decide ((11 : Int) = 23) = false from rfl]
    rw [hB]
    by_cases hQ : (0 ≤ t ∧ t ≤ 31) ∧ (0 ≤ a ∧ a ≤ 31) ∧ (-32768 ≤ i ∧ i ≤ 32764)
    · rw [if_neg (by simp <;> omega), if_pos (by decide)]
      by_cases hM : i % 4 = 0
      · have hT : i.tmod 4 = 0 := (tm4 i).2 hM
        rw [if_pos (by omega)]
        simp only [hT, decide_true, Bool.not_true, Bool.false_eq_true, if_false, Option.bind_some, if_true, decide_false, Bool.not_false, show decide ((11 : Int) = 23) = false from rfl, show selvageref15_pick.m (k + 60) 11 ([10, 11] : List Int) ([58, 62] : List Int) = some 62 by rfl]
        have e4 : wrap64 (Int.tdiv i 4) = i / 4 := by rw [Int.tdiv_eq_ediv_of_dvd (Int.dvd_of_emod_eq_zero hM)]; unfold wrap64; omega
        rw [e4]
        rw [put_v 6 6 rfl (by decide) _ _ (62) (by first | (simp only []; omega) | omega | decide) (by first | (simp only []; omega) | omega | decide) (by omega), Option.bind_some]
        rw [put_v 5 5 rfl (by decide) _ _ ((62) * 32 + t) (by first | (simp only []; omega) | omega | decide) (by first | (simp only []; omega) | omega | decide) (by omega), Option.bind_some]
        rw [put_v 5 5 rfl (by decide) _ _ (((62) * 32 + t) * 32 + a) (by first | (simp only []; omega) | omega | decide) (by first | (simp only []; omega) | omega | decide) (by omega), Option.bind_some]
        rw [put_v 14 14 rfl (by decide) _ _ ((((62) * 32 + t) * 32 + a) * 16384 + i / 4 % 16384) (by first | (simp only []; omega) | omega | decide) (by first | (simp only []; omega) | omega | decide) (by omega), Option.bind_some]
        rw [put_v 2 2 rfl (by decide) _ _ (((((62) * 32 + t) * 32 + a) * 16384 + i / 4 % 16384) * 4 + 0) (by first | (simp only []; omega) | omega | decide) (by first | (simp only []; omega) | omega | decide) (by omega), Option.bind_some]
        simp only [Option.bind_some, Sum.elim_inl, Sum.elim_inr]
        refine congrArg (fun z => some (z, (0 : Int))) ?_
        omega
      · have hT : ¬ i.tmod 4 = 0 := by rw [tm4]; exact hM
        rw [if_neg (by omega)]
        simp only [hT, decide_false, Bool.not_false, Option.bind_some, if_true]
    · rw [if_pos (by simp <;> omega), if_neg (by omega)]
      rfl

theorem refE12 (k : Nat) (t a b i : Int) : selvageref15_Encode.m (k + 60) ⟨12, t, a, b, i⟩ = some (if i ≠ 0 then (0, 3) else if (0 ≤ t ∧ t ≤ 31) ∧ (0 ≤ a ∧ a ≤ 31) ∧ (0 ≤ b ∧ b ≤ 31) then (2080374826 + t * 2097152 + a * 65536 + b * 2048, 0) else (0, 2)) := by
  unfold selvageref15_Encode.m
  simp only [show selvageref15_sort.m 12 = some 4 from rfl, show selvageref15_uses.m 4 = some (⟨#[116, 97, 98]⟩ : ByteArray) from rfl, show selvageref15_has.m (k + 60) (⟨#[116, 97, 98]⟩ : ByteArray) 116 = some true by rfl, show selvageref15_has.m (k + 60) (⟨#[116, 97, 98]⟩ : ByteArray) 97 = some true by rfl, show selvageref15_has.m (k + 60) (⟨#[116, 97, 98]⟩ : ByteArray) 98 = some true by rfl, show selvageref15_has.m (k + 60) (⟨#[116, 97, 98]⟩ : ByteArray) 105 = some false by rfl, show selvageref15_bounds.m 4 = (0, 0, 1) from rfl, Option.bind_some]
  by_cases hF : i ≠ 0
  · rw [if_pos hF]
    by_cases hi : i = 0 <;> first | (simp [hi]; done) | (exfalso; omega)
  · rw [if_neg hF]
    have hi : i = 0 := by omega
    subst hi
    have hB : ((((((((decide (t < 0)) || (decide (t > 31))) || (decide (a < 0))) || (decide (a > 31))) || (decide (b < 0))) || (decide (b > 31))) || (decide ((0 : Int) < 0))) || (decide ((0 : Int) > 0))) = decide (¬ ((0 ≤ t ∧ t ≤ 31) ∧ (0 ≤ a ∧ a ≤ 31) ∧ (0 ≤ b ∧ b ≤ 31))) := by rw [Bool.eq_iff_iff]; simp <;> omega
    simp only [decide_true, decide_false, Bool.false_eq_true, if_false, if_true, Bool.not_true, Bool.not_false, Bool.false_and, Bool.true_and, show decide ((0 : Int) = 0) = true from rfl, Option.bind_some, reduceIte, show decide ((4 : Int) = 0) = false from rfl, show decide ((4 : Int) = 1) = false from rfl, show decide ((4 : Int) = 2) = false from rfl, show decide ((4 : Int) = 3) = false from rfl, show decide ((4 : Int) = 4) = true from rfl, show decide ((4 : Int) = 5) = false from rfl, show decide ((4 : Int) = 6) = false from rfl, show decide ((4 : Int) = 7) = false from rfl, show decide ((4 : Int) = 8) = false from rfl, show decide ((4 : Int) = 9) = false from rfl, show decide ((12 : Int) = 15) = false from rfl, show decide ((12 : Int) = 23) = false from rfl]
    rw [hB]
    by_cases hQ : (0 ≤ t ∧ t ≤ 31) ∧ (0 ≤ a ∧ a ≤ 31) ∧ (0 ≤ b ∧ b ≤ 31)
    · rw [if_neg (by simp <;> omega), if_pos (by decide)]
      have hT : (0 : Int).tmod 1 = 0 := tm1 0
      rw [if_pos (by omega)]
      simp only [hT, decide_true, Bool.not_true, Bool.false_eq_true, if_false, Option.bind_some, if_true, decide_false, Bool.not_false, show decide ((12 : Int) = 23) = false from rfl, show selvageref15_pick.m (k + 60) 12 ([6, 7, 8, 9, 12, 13, 14, 15] : List Int) ([266, 40, 233, 489, 21, 149, 84, 214] : List Int) = some 21 by rfl]
      rw [put_v 6 6 rfl (by decide) _ _ (31) (by first | (simp only []; omega) | omega | decide) (by first | (simp only []; omega) | omega | decide) (by omega), Option.bind_some]
      rw [put_v 5 5 rfl (by decide) _ _ ((31) * 32 + t) (by first | (simp only []; omega) | omega | decide) (by first | (simp only []; omega) | omega | decide) (by omega), Option.bind_some]
      rw [put_v 5 5 rfl (by decide) _ _ (((31) * 32 + t) * 32 + a) (by first | (simp only []; omega) | omega | decide) (by first | (simp only []; omega) | omega | decide) (by omega), Option.bind_some]
      rw [put_v 5 5 rfl (by decide) _ _ ((((31) * 32 + t) * 32 + a) * 32 + b) (by first | (simp only []; omega) | omega | decide) (by first | (simp only []; omega) | omega | decide) (by omega), Option.bind_some]
      rw [put_v 10 10 rfl (by decide) _ _ (((((31) * 32 + t) * 32 + a) * 32 + b) * 1024 + 21) (by first | (simp only []; omega) | omega | decide) (by first | (simp only []; omega) | omega | decide) (by omega), Option.bind_some]
      rw [put_v 1 1 rfl (by decide) _ _ ((((((31) * 32 + t) * 32 + a) * 32 + b) * 1024 + 21) * 2 + 0) (by first | (simp only []; omega) | omega | decide) (by first | (simp only []; omega) | omega | decide) (by omega), Option.bind_some]
      simp only [Option.bind_some, Sum.elim_inl, Sum.elim_inr]
      refine congrArg (fun z => some (z, (0 : Int))) ?_
      omega
    · rw [if_pos (by simp <;> omega), if_neg (by omega)]
      rfl

theorem refE13 (k : Nat) (t a b i : Int) : selvageref15_Encode.m (k + 60) ⟨13, t, a, b, i⟩ = some (if i ≠ 0 then (0, 3) else if (0 ≤ t ∧ t ≤ 31) ∧ (0 ≤ a ∧ a ≤ 31) ∧ (0 ≤ b ∧ b ≤ 31) then (2080375082 + t * 2097152 + a * 65536 + b * 2048, 0) else (0, 2)) := by
  unfold selvageref15_Encode.m
  simp only [show selvageref15_sort.m 13 = some 4 from rfl, show selvageref15_uses.m 4 = some (⟨#[116, 97, 98]⟩ : ByteArray) from rfl, show selvageref15_has.m (k + 60) (⟨#[116, 97, 98]⟩ : ByteArray) 116 = some true by rfl, show selvageref15_has.m (k + 60) (⟨#[116, 97, 98]⟩ : ByteArray) 97 = some true by rfl, show selvageref15_has.m (k + 60) (⟨#[116, 97, 98]⟩ : ByteArray) 98 = some true by rfl, show selvageref15_has.m (k + 60) (⟨#[116, 97, 98]⟩ : ByteArray) 105 = some false by rfl, show selvageref15_bounds.m 4 = (0, 0, 1) from rfl, Option.bind_some]
  by_cases hF : i ≠ 0
  · rw [if_pos hF]
    by_cases hi : i = 0 <;> first | (simp [hi]; done) | (exfalso; omega)
  · rw [if_neg hF]
    have hi : i = 0 := by omega
    subst hi
    have hB : ((((((((decide (t < 0)) || (decide (t > 31))) || (decide (a < 0))) || (decide (a > 31))) || (decide (b < 0))) || (decide (b > 31))) || (decide ((0 : Int) < 0))) || (decide ((0 : Int) > 0))) = decide (¬ ((0 ≤ t ∧ t ≤ 31) ∧ (0 ≤ a ∧ a ≤ 31) ∧ (0 ≤ b ∧ b ≤ 31))) := by rw [Bool.eq_iff_iff]; simp <;> omega
    simp only [decide_true, decide_false, Bool.false_eq_true, if_false, if_true, Bool.not_true, Bool.not_false, Bool.false_and, Bool.true_and, show decide ((0 : Int) = 0) = true from rfl, Option.bind_some, reduceIte, show decide ((4 : Int) = 0) = false from rfl, show decide ((4 : Int) = 1) = false from rfl, show decide ((4 : Int) = 2) = false from rfl, show decide ((4 : Int) = 3) = false from rfl, show decide ((4 : Int) = 4) = true from rfl, show decide ((4 : Int) = 5) = false from rfl, show decide ((4 : Int) = 6) = false from rfl, show decide ((4 : Int) = 7) = false from rfl, show decide ((4 : Int) = 8) = false from rfl, show decide ((4 : Int) = 9) = false from rfl, show decide ((13 : Int) = 15) = false from rfl, show decide ((13 : Int) = 23) = false from rfl]
    rw [hB]
    by_cases hQ : (0 ≤ t ∧ t ≤ 31) ∧ (0 ≤ a ∧ a ≤ 31) ∧ (0 ≤ b ∧ b ≤ 31)
    · rw [if_neg (by simp <;> omega), if_pos (by decide)]
      have hT : (0 : Int).tmod 1 = 0 := tm1 0
      rw [if_pos (by omega)]
      simp only [hT, decide_true, Bool.not_true, Bool.false_eq_true, if_false, Option.bind_some, if_true, decide_false, Bool.not_false, show decide ((13 : Int) = 23) = false from rfl, show selvageref15_pick.m (k + 60) 13 ([6, 7, 8, 9, 12, 13, 14, 15] : List Int) ([266, 40, 233, 489, 21, 149, 84, 214] : List Int) = some 149 by rfl]
      rw [put_v 6 6 rfl (by decide) _ _ (31) (by first | (simp only []; omega) | omega | decide) (by first | (simp only []; omega) | omega | decide) (by omega), Option.bind_some]
      rw [put_v 5 5 rfl (by decide) _ _ ((31) * 32 + t) (by first | (simp only []; omega) | omega | decide) (by first | (simp only []; omega) | omega | decide) (by omega), Option.bind_some]
      rw [put_v 5 5 rfl (by decide) _ _ (((31) * 32 + t) * 32 + a) (by first | (simp only []; omega) | omega | decide) (by first | (simp only []; omega) | omega | decide) (by omega), Option.bind_some]
      rw [put_v 5 5 rfl (by decide) _ _ ((((31) * 32 + t) * 32 + a) * 32 + b) (by first | (simp only []; omega) | omega | decide) (by first | (simp only []; omega) | omega | decide) (by omega), Option.bind_some]
      rw [put_v 10 10 rfl (by decide) _ _ (((((31) * 32 + t) * 32 + a) * 32 + b) * 1024 + 149) (by first | (simp only []; omega) | omega | decide) (by first | (simp only []; omega) | omega | decide) (by omega), Option.bind_some]
      rw [put_v 1 1 rfl (by decide) _ _ ((((((31) * 32 + t) * 32 + a) * 32 + b) * 1024 + 149) * 2 + 0) (by first | (simp only []; omega) | omega | decide) (by first | (simp only []; omega) | omega | decide) (by omega), Option.bind_some]
      simp only [Option.bind_some, Sum.elim_inl, Sum.elim_inr]
      refine congrArg (fun z => some (z, (0 : Int))) ?_
      omega
    · rw [if_pos (by simp <;> omega), if_neg (by omega)]
      rfl

theorem refE14 (k : Nat) (t a b i : Int) : selvageref15_Encode.m (k + 60) ⟨14, t, a, b, i⟩ = some (if i ≠ 0 then (0, 3) else if (0 ≤ t ∧ t ≤ 31) ∧ (0 ≤ a ∧ a ≤ 31) ∧ (0 ≤ b ∧ b ≤ 31) then (2080374952 + t * 2097152 + a * 65536 + b * 2048, 0) else (0, 2)) := by
  unfold selvageref15_Encode.m
  simp only [show selvageref15_sort.m 14 = some 4 from rfl, show selvageref15_uses.m 4 = some (⟨#[116, 97, 98]⟩ : ByteArray) from rfl, show selvageref15_has.m (k + 60) (⟨#[116, 97, 98]⟩ : ByteArray) 116 = some true by rfl, show selvageref15_has.m (k + 60) (⟨#[116, 97, 98]⟩ : ByteArray) 97 = some true by rfl, show selvageref15_has.m (k + 60) (⟨#[116, 97, 98]⟩ : ByteArray) 98 = some true by rfl, show selvageref15_has.m (k + 60) (⟨#[116, 97, 98]⟩ : ByteArray) 105 = some false by rfl, show selvageref15_bounds.m 4 = (0, 0, 1) from rfl, Option.bind_some]
  by_cases hF : i ≠ 0
  · rw [if_pos hF]
    by_cases hi : i = 0 <;> first | (simp [hi]; done) | (exfalso; omega)
  · rw [if_neg hF]
    have hi : i = 0 := by omega
    subst hi
    have hB : ((((((((decide (t < 0)) || (decide (t > 31))) || (decide (a < 0))) || (decide (a > 31))) || (decide (b < 0))) || (decide (b > 31))) || (decide ((0 : Int) < 0))) || (decide ((0 : Int) > 0))) = decide (¬ ((0 ≤ t ∧ t ≤ 31) ∧ (0 ≤ a ∧ a ≤ 31) ∧ (0 ≤ b ∧ b ≤ 31))) := by rw [Bool.eq_iff_iff]; simp <;> omega
    simp only [decide_true, decide_false, Bool.false_eq_true, if_false, if_true, Bool.not_true, Bool.not_false, Bool.false_and, Bool.true_and, show decide ((0 : Int) = 0) = true from rfl, Option.bind_some, reduceIte, show decide ((4 : Int) = 0) = false from rfl, show decide ((4 : Int) = 1) = false from rfl, show decide ((4 : Int) = 2) = false from rfl, show decide ((4 : Int) = 3) = false from rfl, show decide ((4 : Int) = 4) = true from rfl, show decide ((4 : Int) = 5) = false from rfl, show decide ((4 : Int) = 6) = false from rfl, show decide ((4 : Int) = 7) = false from rfl, show decide ((4 : Int) = 8) = false from rfl, show decide ((4 : Int) = 9) = false from rfl, show decide ((14 : Int) = 15) = false from rfl, show decide ((14 : Int) = 23) = false from rfl]
    rw [hB]
    by_cases hQ : (0 ≤ t ∧ t ≤ 31) ∧ (0 ≤ a ∧ a ≤ 31) ∧ (0 ≤ b ∧ b ≤ 31)
    · rw [if_neg (by simp <;> omega), if_pos (by decide)]
      have hT : (0 : Int).tmod 1 = 0 := tm1 0
      rw [if_pos (by omega)]
      simp only [hT, decide_true, Bool.not_true, Bool.false_eq_true, if_false, Option.bind_some, if_true, decide_false, Bool.not_false, show decide ((14 : Int) = 23) = false from rfl, show selvageref15_pick.m (k + 60) 14 ([6, 7, 8, 9, 12, 13, 14, 15] : List Int) ([266, 40, 233, 489, 21, 149, 84, 214] : List Int) = some 84 by rfl]
      rw [put_v 6 6 rfl (by decide) _ _ (31) (by first | (simp only []; omega) | omega | decide) (by first | (simp only []; omega) | omega | decide) (by omega), Option.bind_some]
      rw [put_v 5 5 rfl (by decide) _ _ ((31) * 32 + t) (by first | (simp only []; omega) | omega | decide) (by first | (simp only []; omega) | omega | decide) (by omega), Option.bind_some]
      rw [put_v 5 5 rfl (by decide) _ _ (((31) * 32 + t) * 32 + a) (by first | (simp only []; omega) | omega | decide) (by first | (simp only []; omega) | omega | decide) (by omega), Option.bind_some]
      rw [put_v 5 5 rfl (by decide) _ _ ((((31) * 32 + t) * 32 + a) * 32 + b) (by first | (simp only []; omega) | omega | decide) (by first | (simp only []; omega) | omega | decide) (by omega), Option.bind_some]
      rw [put_v 10 10 rfl (by decide) _ _ (((((31) * 32 + t) * 32 + a) * 32 + b) * 1024 + 84) (by first | (simp only []; omega) | omega | decide) (by first | (simp only []; omega) | omega | decide) (by omega), Option.bind_some]
      rw [put_v 1 1 rfl (by decide) _ _ ((((((31) * 32 + t) * 32 + a) * 32 + b) * 1024 + 84) * 2 + 0) (by first | (simp only []; omega) | omega | decide) (by first | (simp only []; omega) | omega | decide) (by omega), Option.bind_some]
      simp only [Option.bind_some, Sum.elim_inl, Sum.elim_inr]
      refine congrArg (fun z => some (z, (0 : Int))) ?_
      omega
    · rw [if_pos (by simp <;> omega), if_neg (by omega)]
      rfl

theorem refE15 (k : Nat) (t a b i : Int) : selvageref15_Encode.m (k + 60) ⟨15, t, a, b, i⟩ = some (if i ≠ 0 then (0, 3) else if (0 ≤ t ∧ t ≤ 31) ∧ (0 ≤ a ∧ a ≤ 31) ∧ (0 ≤ b ∧ b ≤ 31) then (2080375213 + t * 2097152 + a * 65536 + b * 2048, 0) else (0, 2)) := by
  unfold selvageref15_Encode.m
  simp only [show selvageref15_sort.m 15 = some 4 from rfl, show selvageref15_uses.m 4 = some (⟨#[116, 97, 98]⟩ : ByteArray) from rfl, show selvageref15_has.m (k + 60) (⟨#[116, 97, 98]⟩ : ByteArray) 116 = some true by rfl, show selvageref15_has.m (k + 60) (⟨#[116, 97, 98]⟩ : ByteArray) 97 = some true by rfl, show selvageref15_has.m (k + 60) (⟨#[116, 97, 98]⟩ : ByteArray) 98 = some true by rfl, show selvageref15_has.m (k + 60) (⟨#[116, 97, 98]⟩ : ByteArray) 105 = some false by rfl, show selvageref15_bounds.m 4 = (0, 0, 1) from rfl, Option.bind_some]
  by_cases hF : i ≠ 0
  · rw [if_pos hF]
    by_cases hi : i = 0 <;> first | (simp [hi]; done) | (exfalso; omega)
  · rw [if_neg hF]
    have hi : i = 0 := by omega
    subst hi
    have hB : ((((((((decide (t < 0)) || (decide (t > 31))) || (decide (a < 0))) || (decide (a > 31))) || (decide (b < 0))) || (decide (b > 31))) || (decide ((0 : Int) < 0))) || (decide ((0 : Int) > 0))) = decide (¬ ((0 ≤ t ∧ t ≤ 31) ∧ (0 ≤ a ∧ a ≤ 31) ∧ (0 ≤ b ∧ b ≤ 31))) := by rw [Bool.eq_iff_iff]; simp <;> omega
    simp only [decide_true, decide_false, Bool.false_eq_true, if_false, if_true, Bool.not_true, Bool.not_false, Bool.false_and, Bool.true_and, show decide ((0 : Int) = 0) = true from rfl, Option.bind_some, reduceIte, show decide ((4 : Int) = 0) = false from rfl, show decide ((4 : Int) = 1) = false from rfl, show decide ((4 : Int) = 2) = false from rfl, show decide ((4 : Int) = 3) = false from rfl, show decide ((4 : Int) = 4) = true from rfl, show decide ((4 : Int) = 5) = false from rfl, show decide ((4 : Int) = 6) = false from rfl, show decide ((4 : Int) = 7) = false from rfl, show decide ((4 : Int) = 8) = false from rfl, show decide ((4 : Int) = 9) = false from rfl, show decide ((15 : Int) = 15) = true from rfl, show decide ((15 : Int) = 23) = false from rfl]
    rw [hB]
    by_cases hQ : (0 ≤ t ∧ t ≤ 31) ∧ (0 ≤ a ∧ a ≤ 31) ∧ (0 ≤ b ∧ b ≤ 31)
    · rw [if_neg (by simp <;> omega), if_pos (by decide)]
      have hT : (0 : Int).tmod 1 = 0 := tm1 0
      rw [if_pos (by omega)]
      simp only [hT, decide_true, Bool.not_true, Bool.false_eq_true, if_false, Option.bind_some, if_true, decide_false, Bool.not_false, show decide ((15 : Int) = 23) = false from rfl, show selvageref15_pick.m (k + 60) 15 ([6, 7, 8, 9, 12, 13, 14, 15] : List Int) ([266, 40, 233, 489, 21, 149, 84, 214] : List Int) = some 214 by rfl]
      rw [put_v 6 6 rfl (by decide) _ _ (31) (by first | (simp only []; omega) | omega | decide) (by first | (simp only []; omega) | omega | decide) (by omega), Option.bind_some]
      rw [put_v 5 5 rfl (by decide) _ _ ((31) * 32 + t) (by first | (simp only []; omega) | omega | decide) (by first | (simp only []; omega) | omega | decide) (by omega), Option.bind_some]
      rw [put_v 5 5 rfl (by decide) _ _ (((31) * 32 + t) * 32 + a) (by first | (simp only []; omega) | omega | decide) (by first | (simp only []; omega) | omega | decide) (by omega), Option.bind_some]
      rw [put_v 5 5 rfl (by decide) _ _ ((((31) * 32 + t) * 32 + a) * 32 + b) (by first | (simp only []; omega) | omega | decide) (by first | (simp only []; omega) | omega | decide) (by omega), Option.bind_some]
      rw [put_v 10 10 rfl (by decide) _ _ (((((31) * 32 + t) * 32 + a) * 32 + b) * 1024 + 214) (by first | (simp only []; omega) | omega | decide) (by first | (simp only []; omega) | omega | decide) (by omega), Option.bind_some]
      rw [put_v 1 1 rfl (by decide) _ _ ((((((31) * 32 + t) * 32 + a) * 32 + b) * 1024 + 214) * 2 + 1) (by first | (simp only []; omega) | omega | decide) (by first | (simp only []; omega) | omega | decide) (by omega), Option.bind_some]
      simp only [Option.bind_some, Sum.elim_inl, Sum.elim_inr]
      refine congrArg (fun z => some (z, (0 : Int))) ?_
      omega
    · rw [if_pos (by simp <;> omega), if_neg (by omega)]
      rfl

theorem refE16 (k : Nat) (t a b i : Int) : selvageref15_Encode.m (k + 60) ⟨16, t, a, b, i⟩ = some (if t ≠ 0 ∨ i ≠ 0 then (0, 3) else if (0 ≤ a ∧ a ≤ 31) ∧ (0 ≤ b ∧ b ≤ 31) then (2082471936 + a * 65536 + b * 2048, 0) else (0, 2)) := by
  unfold selvageref15_Encode.m
  simp only [show selvageref15_sort.m 16 = some 6 from rfl, show selvageref15_uses.m 6 = some (⟨#[97, 98]⟩ : ByteArray) from rfl, show selvageref15_has.m (k + 60) (⟨#[97, 98]⟩ : ByteArray) 116 = some false by rfl, show selvageref15_has.m (k + 60) (⟨#[97, 98]⟩ : ByteArray) 97 = some true by rfl, show selvageref15_has.m (k + 60) (⟨#[97, 98]⟩ : ByteArray) 98 = some true by rfl, show selvageref15_has.m (k + 60) (⟨#[97, 98]⟩ : ByteArray) 105 = some false by rfl, show selvageref15_bounds.m 6 = (0, 0, 1) from rfl, Option.bind_some]
  by_cases hF : t ≠ 0 ∨ i ≠ 0
  · rw [if_pos hF]
    by_cases ht : t = 0 <;> by_cases hi : i = 0 <;> first | (simp [ht, hi]; done) | (exfalso; omega)
  · rw [if_neg hF]
    have ht : t = 0 := by omega
    subst ht
    have hi : i = 0 := by omega
    subst hi
    have hB : ((((((((decide ((0 : Int) < 0)) || (decide ((0 : Int) > 31))) || (decide (a < 0))) || (decide (a > 31))) || (decide (b < 0))) || (decide (b > 31))) || (decide ((0 : Int) < 0))) || (decide ((0 : Int) > 0))) = decide (¬ ((0 ≤ a ∧ a ≤ 31) ∧ (0 ≤ b ∧ b ≤ 31))) := by rw [Bool.eq_iff_iff]; simp <;> omega
    simp only [decide_true, decide_false, Bool.false_eq_true, if_false, if_true, Bool.not_true, Bool.not_false, Bool.false_and, Bool.true_and, show decide ((0 : Int) = 0) = true from rfl, Option.bind_some, reduceIte, show decide ((6 : Int) = 0) = false from rfl, show decide ((6 : Int) = 1) = false from rfl, show decide ((6 : Int) = 2) = false from rfl, show decide ((6 : Int) = 3) = false from rfl, show decide ((6 : Int) = 4) = false from rfl, show decide ((6 : Int) = 5) = false from rfl, show decide ((6 : Int) = 6) = true from rfl, show decide ((6 : Int) = 7) = false from rfl, show decide ((6 : Int) = 8) = false from rfl, show decide ((6 : Int) = 9) = false from rfl, show decide ((16 : Int) = 15) = false from rfl, show decide ((16 : Int) = 23) = false from rfl]
    rw [hB]
    by_cases hQ : (0 ≤ a ∧ a ≤ 31) ∧ (0 ≤ b ∧ b ≤ 31)
    · rw [if_neg (by simp <;> omega), if_pos (by decide)]
      have hT : (0 : Int).tmod 1 = 0 := tm1 0
      rw [if_pos (by omega)]
      simp only [hT, decide_true, Bool.not_true, Bool.false_eq_true, if_false, Option.bind_some, if_true, decide_false, Bool.not_false, show decide ((16 : Int) = 23) = false from rfl]
      rw [put_v 6 6 rfl (by decide) _ _ (31) (by first | (simp only []; omega) | omega | decide) (by first | (simp only []; omega) | omega | decide) (by omega), Option.bind_some]
      rw [put_v 5 5 rfl (by decide) _ _ ((31) * 32 + 1) (by first | (simp only []; omega) | omega | decide) (by first | (simp only []; omega) | omega | decide) (by omega), Option.bind_some]
      rw [put_v 5 5 rfl (by decide) _ _ (((31) * 32 + 1) * 32 + a) (by first | (simp only []; omega) | omega | decide) (by first | (simp only []; omega) | omega | decide) (by omega), Option.bind_some]
      rw [put_v 5 5 rfl (by decide) _ _ ((((31) * 32 + 1) * 32 + a) * 32 + b) (by first | (simp only []; omega) | omega | decide) (by first | (simp only []; omega) | omega | decide) (by omega), Option.bind_some]
      rw [put_v 11 11 rfl (by decide) _ _ (((((31) * 32 + 1) * 32 + a) * 32 + b) * 2048 + 0) (by first | (simp only []; omega) | omega | decide) (by first | (simp only []; omega) | omega | decide) (by omega), Option.bind_some]
      simp only [Option.bind_some, Sum.elim_inl, Sum.elim_inr]
      refine congrArg (fun z => some (z, (0 : Int))) ?_
      omega
    · rw [if_pos (by simp <;> omega), if_neg (by omega)]
      rfl

theorem refE17 (k : Nat) (t a b i : Int) : selvageref15_Encode.m (k + 60) ⟨17, t, a, b, i⟩ = some (if t ≠ 0 ∨ b ≠ 0 then (0, 3) else if (0 ≤ a ∧ a ≤ 31) ∧ (-32768 ≤ i ∧ i ≤ 32767) then (740294656 + a * 65536 + i % 65536, 0) else (0, 2)) := by
  unfold selvageref15_Encode.m
  simp only [show selvageref15_sort.m 17 = some 7 from rfl, show selvageref15_uses.m 7 = some (⟨#[97, 105]⟩ : ByteArray) from rfl, show selvageref15_has.m (k + 60) (⟨#[97, 105]⟩ : ByteArray) 116 = some false by rfl, show selvageref15_has.m (k + 60) (⟨#[97, 105]⟩ : ByteArray) 97 = some true by rfl, show selvageref15_has.m (k + 60) (⟨#[97, 105]⟩ : ByteArray) 98 = some false by rfl, show selvageref15_has.m (k + 60) (⟨#[97, 105]⟩ : ByteArray) 105 = some true by rfl, show selvageref15_bounds.m 7 = ((-32768), 32767, 1) from rfl, Option.bind_some]
  by_cases hF : t ≠ 0 ∨ b ≠ 0
  · rw [if_pos hF]
    by_cases ht : t = 0 <;> by_cases hb : b = 0 <;> first | (simp [ht, hb]; done) | (exfalso; omega)
  · rw [if_neg hF]
    have ht : t = 0 := by omega
    subst ht
    have hb : b = 0 := by omega
    subst hb
    have hB : ((((((((decide ((0 : Int) < 0)) || (decide ((0 : Int) > 31))) || (decide (a < 0))) || (decide (a > 31))) || (decide ((0 : Int) < 0))) || (decide ((0 : Int) > 31))) || (decide (i < (-32768)))) || (decide (i > 32767))) = decide (¬ ((0 ≤ a ∧ a ≤ 31) ∧ (-32768 ≤ i ∧ i ≤ 32767))) := by rw [Bool.eq_iff_iff]; simp <;> omega
    simp only [decide_true, decide_false, Bool.false_eq_true, if_false, if_true, Bool.not_true, Bool.not_false, Bool.false_and, Bool.true_and, show decide ((0 : Int) = 0) = true from rfl, Option.bind_some, reduceIte, show decide ((7 : Int) = 0) = false from rfl, show decide ((7 : Int) = 1) = false from rfl, show decide ((7 : Int) = 2) = false from rfl, show decide ((7 : Int) = 3) = false from rfl, show decide ((7 : Int) = 4) = false from rfl, show decide ((7 : Int) = 5) = false from rfl, show decide ((7 : Int) = 6) = false from rfl, show decide ((7 : Int) = 7) = true from rfl, show decide ((7 : Int) = 8) = false from rfl, show decide ((7 : Int) = 9) = false from rfl, show decide ((17 : Int) = 15) = false from rfl, show decide ((17 : Int) = 23) = false from rfl]
    rw [hB]
    by_cases hQ : (0 ≤ a ∧ a ≤ 31) ∧ (-32768 ≤ i ∧ i ≤ 32767)
    · rw [if_neg (by simp <;> omega), if_pos (by decide)]
      have hT : i.tmod 1 = 0 := tm1 i
      rw [if_pos (by omega)]
      simp only [hT, decide_true, Bool.not_true, Bool.false_eq_true, if_false, Option.bind_some, if_true, decide_false, Bool.not_false, show decide ((17 : Int) = 23) = false from rfl]
      rw [put_v 6 6 rfl (by decide) _ _ (11) (by first | (simp only []; omega) | omega | decide) (by first | (simp only []; omega) | omega | decide) (by omega), Option.bind_some]
      rw [put_v 5 5 rfl (by decide) _ _ ((11) * 32 + 1) (by first | (simp only []; omega) | omega | decide) (by first | (simp only []; omega) | omega | decide) (by omega), Option.bind_some]
      rw [put_v 5 5 rfl (by decide) _ _ (((11) * 32 + 1) * 32 + a) (by first | (simp only []; omega) | omega | decide) (by first | (simp only []; omega) | omega | decide) (by omega), Option.bind_some]
      rw [put_v 16 16 rfl (by decide) _ _ ((((11) * 32 + 1) * 32 + a) * 65536 + i % 65536) (by first | (simp only []; omega) | omega | decide) (by first | (simp only []; omega) | omega | decide) (by omega), Option.bind_some]
      simp only [Option.bind_some, Sum.elim_inl, Sum.elim_inr]
      refine congrArg (fun z => some (z, (0 : Int))) ?_
      omega
    · rw [if_pos (by simp <;> omega), if_neg (by omega)]
      rfl

theorem refE18 (k : Nat) (t a b i : Int) : selvageref15_Encode.m (k + 60) ⟨18, t, a, b, i⟩ = some (if a ≠ 0 ∨ b ≠ 0 then (0, 3) else if (0 ≤ t ∧ t ≤ 3) ∧ (-32768 ≤ i ∧ i ≤ 32764 ∧ i % 4 = 0) then (1073741824 + isa_cond.m t + i % 65536, 0) else (0, 2)) := by
  unfold selvageref15_Encode.m
  simp only [show selvageref15_sort.m 18 = some 8 from rfl, show selvageref15_uses.m 8 = some (⟨#[116, 105]⟩ : ByteArray) from rfl, show selvageref15_has.m (k + 60) (⟨#[116, 105]⟩ : ByteArray) 116 = some true by rfl, show selvageref15_has.m (k + 60) (⟨#[116, 105]⟩ : ByteArray) 97 = some false by rfl, show selvageref15_has.m (k + 60) (⟨#[116, 105]⟩ : ByteArray) 98 = some false by rfl, show selvageref15_has.m (k + 60) (⟨#[116, 105]⟩ : ByteArray) 105 = some true by rfl, show selvageref15_bounds.m 8 = ((-32768), 32764, 4) from rfl, Option.bind_some]
  by_cases hF : a ≠ 0 ∨ b ≠ 0
  · rw [if_pos hF]
    by_cases ha : a = 0 <;> by_cases hb : b = 0 <;> first | (simp [ha, hb]; done) | (exfalso; omega)
  · rw [if_neg hF]
    have ha : a = 0 := by omega
    subst ha
    have hb : b = 0 := by omega
    subst hb
    have hB : ((((((((decide (t < 0)) || (decide (t > 3))) || (decide ((0 : Int) < 0))) || (decide ((0 : Int) > 31))) || (decide ((0 : Int) < 0))) || (decide ((0 : Int) > 31))) || (decide (i < (-32768)))) || (decide (i > 32764))) = decide (¬ ((0 ≤ t ∧ t ≤ 3) ∧ (-32768 ≤ i ∧ i ≤ 32764))) := by rw [Bool.eq_iff_iff]; simp <;> omega
    simp only [decide_true, decide_false, Bool.false_eq_true, if_false, if_true, Bool.not_true, Bool.not_false, Bool.false_and, Bool.true_and, show decide ((0 : Int) = 0) = true from rfl, Option.bind_some, reduceIte, show decide ((8 : Int) = 0) = false from rfl, show decide ((8 : Int) = 1) = false from rfl, show decide ((8 : Int) = 2) = false from rfl, show decide ((8 : Int) = 3) = false from rfl, show decide ((8 : Int) = 4) = false from rfl, show decide ((8 : Int) = 5) = false from rfl, show decide ((8 : Int) = 6) = false from rfl, show decide ((8 : Int) = 7) = false from rfl, show decide ((8 : Int) = 8) = true from rfl, show decide ((8 : Int) = 9) = false from rfl, show decide ((18 : Int) = 15) = false from rfl, show decide ((18 : Int) = 23) = false from rfl]
    rw [hB]
    by_cases hQ : (0 ≤ t ∧ t ≤ 3) ∧ (-32768 ≤ i ∧ i ≤ 32764)
    · rw [if_neg (by simp <;> omega), if_pos (by decide)]
      by_cases hM : i % 4 = 0
      · have hT : i.tmod 4 = 0 := (tm4 i).2 hM
        rw [if_pos (by omega)]
        simp only [hT, decide_true, Bool.not_true, Bool.false_eq_true, if_false, Option.bind_some, if_true, decide_false, Bool.not_false, show decide ((18 : Int) = 23) = false from rfl]
        have e4 : wrap64 (Int.tdiv i 4) = i / 4 := by rw [Int.tdiv_eq_ediv_of_dvd (Int.dvd_of_emod_eq_zero hM)]; unfold wrap64; omega
        rw [e4]
        rcases (by omega : t = 0 ∨ t = 1 ∨ t = 2 ∨ t = 3) with rfl | rfl | rfl | rfl
        · simp only [show gi (intE .i64) ([12, 4, 12, 4] : List Int) 0 = 12 from rfl, show gi (intE .i64) ([0, 0, 2, 2] : List Int) 0 = 0 from rfl, show isa_cond.m 0 = 25165824 from rfl]
          rw [put_v 6 6 rfl (by decide) _ _ (16) (by first | (simp only []; omega) | omega | decide) (by first | (simp only []; omega) | omega | decide) (by omega), Option.bind_some]
          rw [if_pos (by decide)]
          rw [put_v 5 5 rfl (by decide) _ _ ((16) * 32 + 12) (by first | (simp only []; omega) | omega | decide) (by first | (simp only []; omega) | omega | decide) (by omega), Option.bind_some]
          rw [put_v 5 5 rfl (by decide) _ _ (((16) * 32 + 12) * 32 + 0) (by first | (simp only []; omega) | omega | decide) (by first | (simp only []; omega) | omega | decide) (by omega), Option.bind_some]
          rw [put_v 14 14 rfl (by decide) _ _ ((((16) * 32 + 12) * 32 + 0) * 16384 + i / 4 % 16384) (by first | (simp only []; omega) | omega | decide) (by first | (simp only []; omega) | omega | decide) (by omega), Option.bind_some]
          rw [put_v 2 2 rfl (by decide) _ _ (((((16) * 32 + 12) * 32 + 0) * 16384 + i / 4 % 16384) * 4 + 0) (by first | (simp only []; omega) | omega | decide) (by first | (simp only []; omega) | omega | decide) (by omega), Option.bind_some]
          simp only [Option.bind_some, Sum.elim_inl, Sum.elim_inr]
          refine congrArg (fun z => some (z, (0 : Int))) ?_
          omega
        · simp only [show gi (intE .i64) ([12, 4, 12, 4] : List Int) 1 = 4 from rfl, show gi (intE .i64) ([0, 0, 2, 2] : List Int) 1 = 0 from rfl, show isa_cond.m 1 = 8388608 from rfl]
          rw [put_v 6 6 rfl (by decide) _ _ (16) (by first | (simp only []; omega) | omega | decide) (by first | (simp only []; omega) | omega | decide) (by omega), Option.bind_some]
          rw [if_pos (by decide)]
          rw [put_v 5 5 rfl (by decide) _ _ ((16) * 32 + 4) (by first | (simp only []; omega) | omega | decide) (by first | (simp only []; omega) | omega | decide) (by omega), Option.bind_some]
          rw [put_v 5 5 rfl (by decide) _ _ (((16) * 32 + 4) * 32 + 0) (by first | (simp only []; omega) | omega | decide) (by first | (simp only []; omega) | omega | decide) (by omega), Option.bind_some]
          rw [put_v 14 14 rfl (by decide) _ _ ((((16) * 32 + 4) * 32 + 0) * 16384 + i / 4 % 16384) (by first | (simp only []; omega) | omega | decide) (by first | (simp only []; omega) | omega | decide) (by omega), Option.bind_some]
          rw [put_v 2 2 rfl (by decide) _ _ (((((16) * 32 + 4) * 32 + 0) * 16384 + i / 4 % 16384) * 4 + 0) (by first | (simp only []; omega) | omega | decide) (by first | (simp only []; omega) | omega | decide) (by omega), Option.bind_some]
          simp only [Option.bind_some, Sum.elim_inl, Sum.elim_inr]
          refine congrArg (fun z => some (z, (0 : Int))) ?_
          omega
        · simp only [show gi (intE .i64) ([12, 4, 12, 4] : List Int) 2 = 12 from rfl, show gi (intE .i64) ([0, 0, 2, 2] : List Int) 2 = 2 from rfl, show isa_cond.m 2 = 25296896 from rfl]
          rw [put_v 6 6 rfl (by decide) _ _ (16) (by first | (simp only []; omega) | omega | decide) (by first | (simp only []; omega) | omega | decide) (by omega), Option.bind_some]
          rw [if_pos (by decide)]
          rw [put_v 5 5 rfl (by decide) _ _ ((16) * 32 + 12) (by first | (simp only []; omega) | omega | decide) (by first | (simp only []; omega) | omega | decide) (by omega), Option.bind_some]
          rw [put_v 5 5 rfl (by decide) _ _ (((16) * 32 + 12) * 32 + 2) (by first | (simp only []; omega) | omega | decide) (by first | (simp only []; omega) | omega | decide) (by omega), Option.bind_some]
          rw [put_v 14 14 rfl (by decide) _ _ ((((16) * 32 + 12) * 32 + 2) * 16384 + i / 4 % 16384) (by first | (simp only []; omega) | omega | decide) (by first | (simp only []; omega) | omega | decide) (by omega), Option.bind_some]
          rw [put_v 2 2 rfl (by decide) _ _ (((((16) * 32 + 12) * 32 + 2) * 16384 + i / 4 % 16384) * 4 + 0) (by first | (simp only []; omega) | omega | decide) (by first | (simp only []; omega) | omega | decide) (by omega), Option.bind_some]
          simp only [Option.bind_some, Sum.elim_inl, Sum.elim_inr]
          refine congrArg (fun z => some (z, (0 : Int))) ?_
          omega
        · simp only [show gi (intE .i64) ([12, 4, 12, 4] : List Int) 3 = 4 from rfl, show gi (intE .i64) ([0, 0, 2, 2] : List Int) 3 = 2 from rfl, show isa_cond.m 3 = 8519680 from rfl]
          rw [put_v 6 6 rfl (by decide) _ _ (16) (by first | (simp only []; omega) | omega | decide) (by first | (simp only []; omega) | omega | decide) (by omega), Option.bind_some]
          rw [if_pos (by decide)]
          rw [put_v 5 5 rfl (by decide) _ _ ((16) * 32 + 4) (by first | (simp only []; omega) | omega | decide) (by first | (simp only []; omega) | omega | decide) (by omega), Option.bind_some]
          rw [put_v 5 5 rfl (by decide) _ _ (((16) * 32 + 4) * 32 + 2) (by first | (simp only []; omega) | omega | decide) (by first | (simp only []; omega) | omega | decide) (by omega), Option.bind_some]
          rw [put_v 14 14 rfl (by decide) _ _ ((((16) * 32 + 4) * 32 + 2) * 16384 + i / 4 % 16384) (by first | (simp only []; omega) | omega | decide) (by first | (simp only []; omega) | omega | decide) (by omega), Option.bind_some]
          rw [put_v 2 2 rfl (by decide) _ _ (((((16) * 32 + 4) * 32 + 2) * 16384 + i / 4 % 16384) * 4 + 0) (by first | (simp only []; omega) | omega | decide) (by first | (simp only []; omega) | omega | decide) (by omega), Option.bind_some]
          simp only [Option.bind_some, Sum.elim_inl, Sum.elim_inr]
          refine congrArg (fun z => some (z, (0 : Int))) ?_
          omega
      · have hT : ¬ i.tmod 4 = 0 := by rw [tm4]; exact hM
        rw [if_neg (by omega)]
        simp only [hT, decide_false, Bool.not_false, Option.bind_some, if_true]
    · rw [if_pos (by simp <;> omega), if_neg (by omega)]
      rfl

theorem refE19 (k : Nat) (t a b i : Int) : selvageref15_Encode.m (k + 60) ⟨19, t, a, b, i⟩ = some (if t ≠ 0 ∨ a ≠ 0 ∨ b ≠ 0 then (0, 3) else if (-33554432 ≤ i ∧ i ≤ 33554428 ∧ i % 4 = 0) then (1207959552 + i % 67108864, 0) else (0, 2)) := by
  unfold selvageref15_Encode.m
  simp only [show selvageref15_sort.m 19 = some 9 from rfl, show selvageref15_uses.m 9 = some (⟨#[105]⟩ : ByteArray) from rfl, show selvageref15_has.m (k + 60) (⟨#[105]⟩ : ByteArray) 116 = some false by rfl, show selvageref15_has.m (k + 60) (⟨#[105]⟩ : ByteArray) 97 = some false by rfl, show selvageref15_has.m (k + 60) (⟨#[105]⟩ : ByteArray) 98 = some false by rfl, show selvageref15_has.m (k + 60) (⟨#[105]⟩ : ByteArray) 105 = some true by rfl, show selvageref15_bounds.m 9 = ((-33554432), 33554428, 4) from rfl, Option.bind_some]
  by_cases hF : t ≠ 0 ∨ a ≠ 0 ∨ b ≠ 0
  · rw [if_pos hF]
    by_cases ht : t = 0 <;> by_cases ha : a = 0 <;> by_cases hb : b = 0 <;> first | (simp [ht, ha, hb]; done) | (exfalso; omega)
  · rw [if_neg hF]
    have ht : t = 0 := by omega
    subst ht
    have ha : a = 0 := by omega
    subst ha
    have hb : b = 0 := by omega
    subst hb
    have hB : ((((((((decide ((0 : Int) < 0)) || (decide ((0 : Int) > 31))) || (decide ((0 : Int) < 0))) || (decide ((0 : Int) > 31))) || (decide ((0 : Int) < 0))) || (decide ((0 : Int) > 31))) || (decide (i < (-33554432)))) || (decide (i > 33554428))) = decide (¬ ((-33554432 ≤ i ∧ i ≤ 33554428))) := by rw [Bool.eq_iff_iff]; simp <;> omega
    simp only [decide_true, decide_false, Bool.false_eq_true, if_false, if_true, Bool.not_true, Bool.not_false, Bool.false_and, Bool.true_and, show decide ((0 : Int) = 0) = true from rfl, Option.bind_some, reduceIte, show decide ((9 : Int) = 0) = false from rfl, show decide ((9 : Int) = 1) = false from rfl, show decide ((9 : Int) = 2) = false from rfl, show decide ((9 : Int) = 3) = false from rfl, show decide ((9 : Int) = 4) = false from rfl, show decide ((9 : Int) = 5) = false from rfl, show decide ((9 : Int) = 6) = false from rfl, show decide ((9 : Int) = 7) = false from rfl, show decide ((9 : Int) = 8) = false from rfl, show decide ((9 : Int) = 9) = true from rfl, show decide ((19 : Int) = 15) = false from rfl, show decide ((19 : Int) = 23) = false from rfl]
    rw [hB]
    by_cases hQ : (-33554432 ≤ i ∧ i ≤ 33554428)
    · rw [if_neg (by simp <;> omega), if_pos (by decide)]
      by_cases hM : i % 4 = 0
      · have hT : i.tmod 4 = 0 := (tm4 i).2 hM
        rw [if_pos (by omega)]
        simp only [hT, decide_true, Bool.not_true, Bool.false_eq_true, if_false, Option.bind_some, if_true, decide_false, Bool.not_false, show decide ((19 : Int) = 23) = false from rfl]
        have e4 : wrap64 (Int.tdiv i 4) = i / 4 := by rw [Int.tdiv_eq_ediv_of_dvd (Int.dvd_of_emod_eq_zero hM)]; unfold wrap64; omega
        rw [e4]
        rw [put_v 6 6 rfl (by decide) _ _ (18) (by first | (simp only []; omega) | omega | decide) (by first | (simp only []; omega) | omega | decide) (by omega), Option.bind_some]
        rw [put_v 24 24 rfl (by decide) _ _ ((18) * 16777216 + i / 4 % 16777216) (by first | (simp only []; omega) | omega | decide) (by first | (simp only []; omega) | omega | decide) (by omega), Option.bind_some]
        rw [put_v 2 2 rfl (by decide) _ _ (((18) * 16777216 + i / 4 % 16777216) * 4 + 0) (by first | (simp only []; omega) | omega | decide) (by first | (simp only []; omega) | omega | decide) (by omega), Option.bind_some]
        simp only [Option.bind_some, Sum.elim_inl, Sum.elim_inr]
        refine congrArg (fun z => some (z, (0 : Int))) ?_
        omega
      · have hT : ¬ i.tmod 4 = 0 := by rw [tm4]; exact hM
        rw [if_neg (by omega)]
        simp only [hT, decide_false, Bool.not_false, Option.bind_some, if_true]
    · rw [if_pos (by simp <;> omega), if_neg (by omega)]
      rfl

theorem refE20 (k : Nat) (t a b i : Int) : selvageref15_Encode.m (k + 60) ⟨20, t, a, b, i⟩ = some (if t ≠ 0 ∨ a ≠ 0 ∨ b ≠ 0 ∨ i ≠ 0 then (0, 3) else if True then (2080375980, 0) else (0, 2)) := by
  unfold selvageref15_Encode.m
  simp only [show selvageref15_sort.m 20 = some 10 from rfl, show selvageref15_uses.m 10 = some (⟨#[]⟩ : ByteArray) from rfl, show selvageref15_has.m (k + 60) (⟨#[]⟩ : ByteArray) 116 = some false by rfl, show selvageref15_has.m (k + 60) (⟨#[]⟩ : ByteArray) 97 = some false by rfl, show selvageref15_has.m (k + 60) (⟨#[]⟩ : ByteArray) 98 = some false by rfl, show selvageref15_has.m (k + 60) (⟨#[]⟩ : ByteArray) 105 = some false by rfl, show selvageref15_bounds.m 10 = (0, 0, 1) from rfl, Option.bind_some]
  by_cases hF : t ≠ 0 ∨ a ≠ 0 ∨ b ≠ 0 ∨ i ≠ 0
  · rw [if_pos hF]
    by_cases ht : t = 0 <;> by_cases ha : a = 0 <;> by_cases hb : b = 0 <;> by_cases hi : i = 0 <;> first | (simp [ht, ha, hb, hi]; done) | (exfalso; omega)
  · rw [if_neg hF]
    have ht : t = 0 := by omega
    subst ht
    have ha : a = 0 := by omega
    subst ha
    have hb : b = 0 := by omega
    subst hb
    have hi : i = 0 := by omega
    subst hi
    have hB : ((((((((decide ((0 : Int) < 0)) || (decide ((0 : Int) > 31))) || (decide ((0 : Int) < 0))) || (decide ((0 : Int) > 31))) || (decide ((0 : Int) < 0))) || (decide ((0 : Int) > 31))) || (decide ((0 : Int) < 0))) || (decide ((0 : Int) > 0))) = decide (¬ (True)) := by rw [Bool.eq_iff_iff]; simp <;> omega
    simp only [decide_true, decide_false, Bool.false_eq_true, if_false, if_true, Bool.not_true, Bool.not_false, Bool.false_and, Bool.true_and, show decide ((0 : Int) = 0) = true from rfl, Option.bind_some, reduceIte, show decide ((10 : Int) = 0) = false from rfl, show decide ((10 : Int) = 1) = false from rfl, show decide ((10 : Int) = 2) = false from rfl, show decide ((10 : Int) = 3) = false from rfl, show decide ((10 : Int) = 4) = false from rfl, show decide ((10 : Int) = 5) = false from rfl, show decide ((10 : Int) = 6) = false from rfl, show decide ((10 : Int) = 7) = false from rfl, show decide ((10 : Int) = 8) = false from rfl, show decide ((10 : Int) = 9) = false from rfl, show decide ((20 : Int) = 15) = false from rfl, show decide ((20 : Int) = 23) = false from rfl]
    rw [hB]
    by_cases hQ : True
    · rw [if_neg (by simp <;> omega), if_pos (by decide)]
      have hT : (0 : Int).tmod 1 = 0 := tm1 0
      simp only [hT, decide_true, Bool.not_true, Bool.false_eq_true, if_false, Option.bind_some, if_true, decide_false, Bool.not_false, show decide ((20 : Int) = 23) = false from rfl, show selvageref15_pick.m (k + 60) 20 ([20, 21, 22, 23] : List Int) ([31, 31, 19, 17] : List Int) = some 31 by rfl, show selvageref15_pick.m (k + 60) 20 ([20, 21, 22] : List Int) ([0, 1, 0] : List Int) = some 0 by rfl, show selvageref15_pick.m (k + 60) 20 ([20, 21, 22] : List Int) ([598, 598, 150] : List Int) = some 598 by rfl]
      rw [put_v 6 6 rfl (by decide) _ _ (31) (by first | (simp only []; omega) | omega | decide) (by first | (simp only []; omega) | omega | decide) (by omega), Option.bind_some]
      rw [put_v 5 5 rfl (by decide) _ _ ((31) * 32 + 0) (by first | (simp only []; omega) | omega | decide) (by first | (simp only []; omega) | omega | decide) (by omega), Option.bind_some]
      rw [put_v 10 10 rfl (by decide) _ _ (((31) * 32 + 0) * 1024 + 0) (by first | (simp only []; omega) | omega | decide) (by first | (simp only []; omega) | omega | decide) (by omega), Option.bind_some]
      rw [put_v 10 10 rfl (by decide) _ _ ((((31) * 32 + 0) * 1024 + 0) * 1024 + 598) (by first | (simp only []; omega) | omega | decide) (by first | (simp only []; omega) | omega | decide) (by omega), Option.bind_some]
      rw [put_v 1 1 rfl (by decide) _ _ (((((31) * 32 + 0) * 1024 + 0) * 1024 + 598) * 2 + 0) (by first | (simp only []; omega) | omega | decide) (by first | (simp only []; omega) | omega | decide) (by omega), Option.bind_some]
      simp only [Option.bind_some, Sum.elim_inl, Sum.elim_inr]
      refine congrArg (fun z => some (z, (0 : Int))) ?_
      omega
    · exact absurd trivial hQ

theorem refE21 (k : Nat) (t a b i : Int) : selvageref15_Encode.m (k + 60) ⟨21, t, a, b, i⟩ = some (if t ≠ 0 ∨ a ≠ 0 ∨ b ≠ 0 ∨ i ≠ 0 then (0, 3) else if True then (2082473132, 0) else (0, 2)) := by
  unfold selvageref15_Encode.m
  simp only [show selvageref15_sort.m 21 = some 10 from rfl, show selvageref15_uses.m 10 = some (⟨#[]⟩ : ByteArray) from rfl, show selvageref15_has.m (k + 60) (⟨#[]⟩ : ByteArray) 116 = some false by rfl, show selvageref15_has.m (k + 60) (⟨#[]⟩ : ByteArray) 97 = some false by rfl, show selvageref15_has.m (k + 60) (⟨#[]⟩ : ByteArray) 98 = some false by rfl, show selvageref15_has.m (k + 60) (⟨#[]⟩ : ByteArray) 105 = some false by rfl, show selvageref15_bounds.m 10 = (0, 0, 1) from rfl, Option.bind_some]
  by_cases hF : t ≠ 0 ∨ a ≠ 0 ∨ b ≠ 0 ∨ i ≠ 0
  · rw [if_pos hF]
    by_cases ht : t = 0 <;> by_cases ha : a = 0 <;> by_cases hb : b = 0 <;> by_cases hi : i = 0 <;> first | (simp [ht, ha, hb, hi]; done) | (exfalso; omega)
  · rw [if_neg hF]
    have ht : t = 0 := by omega
    subst ht
    have ha : a = 0 := by omega
    subst ha
    have hb : b = 0 := by omega
    subst hb
    have hi : i = 0 := by omega
    subst hi
    have hB : ((((((((decide ((0 : Int) < 0)) || (decide ((0 : Int) > 31))) || (decide ((0 : Int) < 0))) || (decide ((0 : Int) > 31))) || (decide ((0 : Int) < 0))) || (decide ((0 : Int) > 31))) || (decide ((0 : Int) < 0))) || (decide ((0 : Int) > 0))) = decide (¬ (True)) := by rw [Bool.eq_iff_iff]; simp <;> omega
    simp only [decide_true, decide_false, Bool.false_eq_true, if_false, if_true, Bool.not_true, Bool.not_false, Bool.false_and, Bool.true_and, show decide ((0 : Int) = 0) = true from rfl, Option.bind_some, reduceIte, show decide ((10 : Int) = 0) = false from rfl, show decide ((10 : Int) = 1) = false from rfl, show decide ((10 : Int) = 2) = false from rfl, show decide ((10 : Int) = 3) = false from rfl, show decide ((10 : Int) = 4) = false from rfl, show decide ((10 : Int) = 5) = false from rfl, show decide ((10 : Int) = 6) = false from rfl, show decide ((10 : Int) = 7) = false from rfl, show decide ((10 : Int) = 8) = false from rfl, show decide ((10 : Int) = 9) = false from rfl, show decide ((21 : Int) = 15) = false from rfl, show decide ((21 : Int) = 23) = false from rfl]
    rw [hB]
    by_cases hQ : True
    · rw [if_neg (by simp <;> omega), if_pos (by decide)]
      have hT : (0 : Int).tmod 1 = 0 := tm1 0
      simp only [hT, decide_true, Bool.not_true, Bool.false_eq_true, if_false, Option.bind_some, if_true, decide_false, Bool.not_false, show decide ((21 : Int) = 23) = false from rfl, show selvageref15_pick.m (k + 60) 21 ([20, 21, 22, 23] : List Int) ([31, 31, 19, 17] : List Int) = some 31 by rfl, show selvageref15_pick.m (k + 60) 21 ([20, 21, 22] : List Int) ([0, 1, 0] : List Int) = some 1 by rfl, show selvageref15_pick.m (k + 60) 21 ([20, 21, 22] : List Int) ([598, 598, 150] : List Int) = some 598 by rfl]
      rw [put_v 6 6 rfl (by decide) _ _ (31) (by first | (simp only []; omega) | omega | decide) (by first | (simp only []; omega) | omega | decide) (by omega), Option.bind_some]
      rw [put_v 5 5 rfl (by decide) _ _ ((31) * 32 + 1) (by first | (simp only []; omega) | omega | decide) (by first | (simp only []; omega) | omega | decide) (by omega), Option.bind_some]
      rw [put_v 10 10 rfl (by decide) _ _ (((31) * 32 + 1) * 1024 + 0) (by first | (simp only []; omega) | omega | decide) (by first | (simp only []; omega) | omega | decide) (by omega), Option.bind_some]
      rw [put_v 10 10 rfl (by decide) _ _ ((((31) * 32 + 1) * 1024 + 0) * 1024 + 598) (by first | (simp only []; omega) | omega | decide) (by first | (simp only []; omega) | omega | decide) (by omega), Option.bind_some]
      rw [put_v 1 1 rfl (by decide) _ _ (((((31) * 32 + 1) * 1024 + 0) * 1024 + 598) * 2 + 0) (by first | (simp only []; omega) | omega | decide) (by first | (simp only []; omega) | omega | decide) (by omega), Option.bind_some]
      simp only [Option.bind_some, Sum.elim_inl, Sum.elim_inr]
      refine congrArg (fun z => some (z, (0 : Int))) ?_
      omega
    · exact absurd trivial hQ

theorem refE22 (k : Nat) (t a b i : Int) : selvageref15_Encode.m (k + 60) ⟨22, t, a, b, i⟩ = some (if t ≠ 0 ∨ a ≠ 0 ∨ b ≠ 0 ∨ i ≠ 0 then (0, 3) else if True then (1275068716, 0) else (0, 2)) := by
  unfold selvageref15_Encode.m
  simp only [show selvageref15_sort.m 22 = some 10 from rfl, show selvageref15_uses.m 10 = some (⟨#[]⟩ : ByteArray) from rfl, show selvageref15_has.m (k + 60) (⟨#[]⟩ : ByteArray) 116 = some false by rfl, show selvageref15_has.m (k + 60) (⟨#[]⟩ : ByteArray) 97 = some false by rfl, show selvageref15_has.m (k + 60) (⟨#[]⟩ : ByteArray) 98 = some false by rfl, show selvageref15_has.m (k + 60) (⟨#[]⟩ : ByteArray) 105 = some false by rfl, show selvageref15_bounds.m 10 = (0, 0, 1) from rfl, Option.bind_some]
  by_cases hF : t ≠ 0 ∨ a ≠ 0 ∨ b ≠ 0 ∨ i ≠ 0
  · rw [if_pos hF]
    by_cases ht : t = 0 <;> by_cases ha : a = 0 <;> by_cases hb : b = 0 <;> by_cases hi : i = 0 <;> first | (simp [ht, ha, hb, hi]; done) | (exfalso; omega)
  · rw [if_neg hF]
    have ht : t = 0 := by omega
    subst ht
    have ha : a = 0 := by omega
    subst ha
    have hb : b = 0 := by omega
    subst hb
    have hi : i = 0 := by omega
    subst hi
    have hB : ((((((((decide ((0 : Int) < 0)) || (decide ((0 : Int) > 31))) || (decide ((0 : Int) < 0))) || (decide ((0 : Int) > 31))) || (decide ((0 : Int) < 0))) || (decide ((0 : Int) > 31))) || (decide ((0 : Int) < 0))) || (decide ((0 : Int) > 0))) = decide (¬ (True)) := by rw [Bool.eq_iff_iff]; simp <;> omega
    simp only [decide_true, decide_false, Bool.false_eq_true, if_false, if_true, Bool.not_true, Bool.not_false, Bool.false_and, Bool.true_and, show decide ((0 : Int) = 0) = true from rfl, Option.bind_some, reduceIte, show decide ((10 : Int) = 0) = false from rfl, show decide ((10 : Int) = 1) = false from rfl, show decide ((10 : Int) = 2) = false from rfl, show decide ((10 : Int) = 3) = false from rfl, show decide ((10 : Int) = 4) = false from rfl, show decide ((10 : Int) = 5) = false from rfl, show decide ((10 : Int) = 6) = false from rfl, show decide ((10 : Int) = 7) = false from rfl, show decide ((10 : Int) = 8) = false from rfl, show decide ((10 : Int) = 9) = false from rfl, show decide ((22 : Int) = 15) = false from rfl, show decide ((22 : Int) = 23) = false from rfl]
    rw [hB]
    by_cases hQ : True
    · rw [if_neg (by simp <;> omega), if_pos (by decide)]
      have hT : (0 : Int).tmod 1 = 0 := tm1 0
      simp only [hT, decide_true, Bool.not_true, Bool.false_eq_true, if_false, Option.bind_some, if_true, decide_false, Bool.not_false, show decide ((22 : Int) = 23) = false from rfl, show selvageref15_pick.m (k + 60) 22 ([20, 21, 22, 23] : List Int) ([31, 31, 19, 17] : List Int) = some 19 by rfl, show selvageref15_pick.m (k + 60) 22 ([20, 21, 22] : List Int) ([0, 1, 0] : List Int) = some 0 by rfl, show selvageref15_pick.m (k + 60) 22 ([20, 21, 22] : List Int) ([598, 598, 150] : List Int) = some 150 by rfl]
      rw [put_v 6 6 rfl (by decide) _ _ (19) (by first | (simp only []; omega) | omega | decide) (by first | (simp only []; omega) | omega | decide) (by omega), Option.bind_some]
      rw [put_v 5 5 rfl (by decide) _ _ ((19) * 32 + 0) (by first | (simp only []; omega) | omega | decide) (by first | (simp only []; omega) | omega | decide) (by omega), Option.bind_some]
      rw [put_v 10 10 rfl (by decide) _ _ (((19) * 32 + 0) * 1024 + 0) (by first | (simp only []; omega) | omega | decide) (by first | (simp only []; omega) | omega | decide) (by omega), Option.bind_some]
      rw [put_v 10 10 rfl (by decide) _ _ ((((19) * 32 + 0) * 1024 + 0) * 1024 + 150) (by first | (simp only []; omega) | omega | decide) (by first | (simp only []; omega) | omega | decide) (by omega), Option.bind_some]
      rw [put_v 1 1 rfl (by decide) _ _ (((((19) * 32 + 0) * 1024 + 0) * 1024 + 150) * 2 + 0) (by first | (simp only []; omega) | omega | decide) (by first | (simp only []; omega) | omega | decide) (by omega), Option.bind_some]
      simp only [Option.bind_some, Sum.elim_inl, Sum.elim_inr]
      refine congrArg (fun z => some (z, (0 : Int))) ?_
      omega
    · exact absurd trivial hQ

theorem refE23 (k : Nat) (t a b i : Int) : selvageref15_Encode.m (k + 60) ⟨23, t, a, b, i⟩ = some (if t ≠ 0 ∨ a ≠ 0 ∨ b ≠ 0 ∨ i ≠ 0 then (0, 3) else if True then (1140850690, 0) else (0, 2)) := by
  unfold selvageref15_Encode.m
  simp only [show selvageref15_sort.m 23 = some 10 from rfl, show selvageref15_uses.m 10 = some (⟨#[]⟩ : ByteArray) from rfl, show selvageref15_has.m (k + 60) (⟨#[]⟩ : ByteArray) 116 = some false by rfl, show selvageref15_has.m (k + 60) (⟨#[]⟩ : ByteArray) 97 = some false by rfl, show selvageref15_has.m (k + 60) (⟨#[]⟩ : ByteArray) 98 = some false by rfl, show selvageref15_has.m (k + 60) (⟨#[]⟩ : ByteArray) 105 = some false by rfl, show selvageref15_bounds.m 10 = (0, 0, 1) from rfl, Option.bind_some]
  by_cases hF : t ≠ 0 ∨ a ≠ 0 ∨ b ≠ 0 ∨ i ≠ 0
  · rw [if_pos hF]
    by_cases ht : t = 0 <;> by_cases ha : a = 0 <;> by_cases hb : b = 0 <;> by_cases hi : i = 0 <;> first | (simp [ht, ha, hb, hi]; done) | (exfalso; omega)
  · rw [if_neg hF]
    have ht : t = 0 := by omega
    subst ht
    have ha : a = 0 := by omega
    subst ha
    have hb : b = 0 := by omega
    subst hb
    have hi : i = 0 := by omega
    subst hi
    have hB : ((((((((decide ((0 : Int) < 0)) || (decide ((0 : Int) > 31))) || (decide ((0 : Int) < 0))) || (decide ((0 : Int) > 31))) || (decide ((0 : Int) < 0))) || (decide ((0 : Int) > 31))) || (decide ((0 : Int) < 0))) || (decide ((0 : Int) > 0))) = decide (¬ (True)) := by rw [Bool.eq_iff_iff]; simp <;> omega
    simp only [decide_true, decide_false, Bool.false_eq_true, if_false, if_true, Bool.not_true, Bool.not_false, Bool.false_and, Bool.true_and, show decide ((0 : Int) = 0) = true from rfl, Option.bind_some, reduceIte, show decide ((10 : Int) = 0) = false from rfl, show decide ((10 : Int) = 1) = false from rfl, show decide ((10 : Int) = 2) = false from rfl, show decide ((10 : Int) = 3) = false from rfl, show decide ((10 : Int) = 4) = false from rfl, show decide ((10 : Int) = 5) = false from rfl, show decide ((10 : Int) = 6) = false from rfl, show decide ((10 : Int) = 7) = false from rfl, show decide ((10 : Int) = 8) = false from rfl, show decide ((10 : Int) = 9) = false from rfl, show decide ((23 : Int) = 15) = false from rfl, show decide ((23 : Int) = 23) = true from rfl]
    rw [hB]
    by_cases hQ : True
    · rw [if_neg (by simp <;> omega), if_pos (by decide)]
      have hT : (0 : Int).tmod 1 = 0 := tm1 0
      simp only [hT, decide_true, Bool.not_true, Bool.false_eq_true, if_false, Option.bind_some, if_true, decide_false, Bool.not_false, show decide ((23 : Int) = 23) = true from rfl, show selvageref15_pick.m (k + 60) 23 ([20, 21, 22, 23] : List Int) ([31, 31, 19, 17] : List Int) = some 17 by rfl]
      rw [put_v 6 6 rfl (by decide) _ _ (17) (by first | (simp only []; omega) | omega | decide) (by first | (simp only []; omega) | omega | decide) (by omega), Option.bind_some]
      rw [put_v 26 26 rfl (by decide) _ _ ((17) * 67108864 + 2) (by first | (simp only []; omega) | omega | decide) (by first | (simp only []; omega) | omega | decide) (by omega), Option.bind_some]
      simp only [Option.bind_some, Sum.elim_inl, Sum.elim_inr]
      refine congrArg (fun z => some (z, (0 : Int))) ?_
      omega
    · exact absurd trivial hQ

end Go.Proofs.Ytallojficgiemaa.W
