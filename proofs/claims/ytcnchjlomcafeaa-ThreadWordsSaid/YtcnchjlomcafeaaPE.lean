/- Chapter 16: the document's word of an instruction. -/
import Derived.Test.YtcnchjlomcafeaaPD
set_option linter.unusedVariables false
set_option linter.unusedSimpArgs false
namespace Go.Proofs.Ytcnchjlomcafeaa.W
open Go Go.RowKit Go.Proofs.Ytcnchjlomcafeaa.B
set_option maxHeartbeats 1000000 in
theorem refW {x : api_Inst} (h : isa_check.m (isa_formOf.m x.Op).1 x = some 0) : selvageref15_Encode.m x = some (wd (isa_formOf.m x.Op).1 (isa_formOf.m x.Op).2 x, 0) := by
  have F := fit h
  have H := hd x.Op (formOf_in _ F.k0)
  have hk := formOf_le x.Op
  unfold selvageref15_Encode.m
  rw [sort_eq]
  generalize (isa_formOf.m x.Op).1 = k at *
  generalize (isa_formOf.m x.Op).2 = hh at *
  have hr := H.r
  have hT := F.T
  have hA := F.A
  have hB := F.B
  have hI := F.I
  have hmd := F.m
  have k0 := F.k0
  have t8 := F.T8
  obtain ⟨u, hu, ht, ha, hb, hi, hbo⟩ := tabl k (by omega)
  have hm : (isa_used.m k).2.2.2.2.2 ≠ 0 := by rcases used_mod k with h | h <;> rw [h] <;> decide
  have C1 : (((((decide (k = 0)) || ((!(isa_used.m k).1) && (!decide (x.T = 0)))) || ((!(isa_used.m k).2.1) && (!decide (x.A = 0)))) || ((!(isa_used.m k).2.2.1) && (!decide (x.B = 0)))) || ((!(!decide ((isa_used.m k).2.2.2.1 = (isa_used.m k).2.2.2.2.1))) && (!decide (x.Imm = 0)))) = false := by
    unfold isa_check.m at h
    split at h
    · exact absurd (Option.some.inj h) (by decide)
    · rename_i h1; exact Bool.eq_false_iff.2 h1
  simp only [Bool.or_eq_false_iff] at C1
  obtain ⟨⟨⟨⟨q0, q1⟩, q2⟩, q3⟩, q4⟩ := C1
  have most : (if (decide (k = 8)) = true then (some 3) else (some 31) : Option Int) = some (if k = 8 then 3 else 31) := by by_cases h : k = 8 <;> simp [h]
  have t1 : x.T ≤ (if k = 8 then 3 else 31) := by split <;> omega
  simp only [hu, ht, ha, hb, hi, hbo, q0, q1, q2, q3, q4, most, hm, hmd, Option.bind_some, Bool.false_eq_true, if_false, ne_eq, not_false_eq_true, if_true, decide_true, Bool.not_true]
  rw [if_neg (by simp; omega)]
  simp only [Option.bind_some, Bool.false_eq_true, if_false]
  have go : ∀ {o : Option (Int × Int ⊕ (Int × Int))} {v v' b : Int}, o = some (.inl (v', b)) → v' = v → (o.bind fun o_86 => match o_86 with | .inl s_88 => (some (s_88.1, (0 : Int))) | .inr r_1019 => some r_1019) = some (v, 0) := fun e f => by rw [e, f]; rfl
  have goR : ∀ {o : Option (Int × Int ⊕ (Int × Int))} {v v' : Int}, o = some (.inr (v', 0)) → v' = v → (o.bind fun o_86 => match o_86 with | .inl s_88 => (some (s_88.1, (0 : Int))) | .inr r_1019 => some r_1019) = some (v, 0) := fun e f => by rw [e, f]; rfl
  clear hu ht ha hb hi hbo q0 q1 q2 q3 q4 most hm t1 h
  rcases (by omega : k = 1 ∨ k = 2 ∨ k = 3 ∨ k = 4 ∨ k = 5 ∨ k = 6 ∨ k = 7 ∨ k = 8 ∨ k = 9 ∨ k = 10) with rfl | rfl | rfl | rfl | rfl | rfl | rfl | rfl | rfl | rfl
  · obtain ⟨p, hp, e⟩ := H.k1 rfl
    clear H F
    refine go (b := 0 + 6 + 5 + 5 + 16) ?_ (show ((p * 32 + x.T) * 32 + x.A) * 65536 + x.Imm % 65536 = hh + x.T * 2097152 + x.A * 65536 + x.Imm % 65536 by omega)
    rw [if_pos (by decide), hp, Option.bind_some, put_v 6 6 rfl (by decide) p, Option.bind_some, put_v 5 5 rfl (by decide) (p * 32 + x.T), Option.bind_some, put_v 5 5 rfl (by decide) ((p * 32 + x.T) * 32 + x.A), Option.bind_some,
      put_v 16 16 rfl (by decide) (((p * 32 + x.T) * 32 + x.A) * 65536 + x.Imm % 65536), Option.bind_some]
    rfl
  · obtain ⟨p, hp, e⟩ := H.k2 rfl
    clear H F
    change (0 : Int) ≤ _ ∧ _ ≤ (65535 : Int) at hI
    refine go (b := 0 + 6 + 5 + 5 + 16) ?_ (show ((p * 32 + x.A) * 32 + x.T) * 65536 + x.Imm = hh + x.A * 2097152 + x.T * 65536 + x.Imm by omega)
    rw [if_neg (by decide), if_pos (by decide), hp, Option.bind_some, put_v 6 6 rfl (by decide) p, Option.bind_some, put_v 5 5 rfl (by decide) (p * 32 + x.A), Option.bind_some, put_v 5 5 rfl (by decide) ((p * 32 + x.A) * 32 + x.T), Option.bind_some,
      put_v 16 16 rfl (by decide) (((p * 32 + x.A) * 32 + x.T) * 65536 + x.Imm), Option.bind_some]
    rfl
  · have e := H.k3 rfl
    clear H F
    change (0 : Int) ≤ _ ∧ _ ≤ (63 : Int) at hI
    have d1 : Int.tdiv x.Imm 32 = x.Imm / 32 := Int.tdiv_eq_ediv_of_nonneg hI.1
    have d2 : Int.tdiv (63 - x.Imm) 32 = (63 - x.Imm) / 32 := Int.tdiv_eq_ediv_of_nonneg (by omega)
    refine go (b := 0 + 6 + 5 + 5 + 5 + 5 + 1 + 3 + 1 + 1) ?_ (show ((((((30 * 32 + x.A) * 32 + x.T) * 32 + x.Imm % 32) * 32 + (63 - x.Imm) % 32) * 2 + (63 - x.Imm) / 32) * 8 + 1) * 4 + x.Imm / 32 * 2 = hh + x.A * 2097152 + x.T * 65536 + x.Imm % 32 * 2048 + (63 - x.Imm) % 32 * 64 + (63 - x.Imm) / 32 * 32 + x.Imm / 32 * 2 by omega)
    rw [if_neg (by decide), if_neg (by decide), if_pos (by decide), w64 (show -9223372036854775808 ≤ 63 - x.Imm ∧ 63 - x.Imm < 9223372036854775808 by omega), d1, d2, w64 (show -9223372036854775808 ≤ (63 - x.Imm) / 32 ∧ (63 - x.Imm) / 32 < 9223372036854775808 by omega), w64 (show -9223372036854775808 ≤ x.Imm / 32 ∧ x.Imm / 32 < 9223372036854775808 by omega),
      put_v 6 6 rfl (by decide) 30, Option.bind_some, put_v 5 5 rfl (by decide) (30 * 32 + x.A), Option.bind_some, put_v 5 5 rfl (by decide) ((30 * 32 + x.A) * 32 + x.T), Option.bind_some,
      put_v 5 5 rfl (by decide) (((30 * 32 + x.A) * 32 + x.T) * 32 + x.Imm % 32), Option.bind_some, put_v 5 5 rfl (by decide) ((((30 * 32 + x.A) * 32 + x.T) * 32 + x.Imm % 32) * 32 + (63 - x.Imm) % 32), Option.bind_some,
      put_v 1 1 rfl (by decide) (((((30 * 32 + x.A) * 32 + x.T) * 32 + x.Imm % 32) * 32 + (63 - x.Imm) % 32) * 2 + (63 - x.Imm) / 32), Option.bind_some,
      put_v 3 3 rfl (by decide) ((((((30 * 32 + x.A) * 32 + x.T) * 32 + x.Imm % 32) * 32 + (63 - x.Imm) % 32) * 2 + (63 - x.Imm) / 32) * 8 + 1), Option.bind_some,
      put_v 1 1 rfl (by decide) (((((((30 * 32 + x.A) * 32 + x.T) * 32 + x.Imm % 32) * 32 + (63 - x.Imm) % 32) * 2 + (63 - x.Imm) / 32) * 8 + 1) * 2 + x.Imm / 32), Option.bind_some,
      put_v 1 1 rfl (by decide) (((((((30 * 32 + x.A) * 32 + x.T) * 32 + x.Imm % 32) * 32 + (63 - x.Imm) % 32) * 2 + (63 - x.Imm) / 32) * 8 + 1) * 4 + x.Imm / 32 * 2), Option.bind_some]
    rfl
  · obtain ⟨_, p, hp, e, p0, p1⟩ := H.k4 rfl
    clear H F
    have e15 : (if (decide (x.Op = 15)) = true then (some 1) else (some 0) : Option Int) = some (if x.Op = 15 then 1 else 0) := by by_cases h : x.Op = 15 <;> simp [h]
    have b15 : 0 ≤ (if x.Op = 15 then 1 else 0 : Int) ∧ (if x.Op = 15 then 1 else 0 : Int) < 2 := by split <;> decide
    generalize (if x.Op = 15 then 1 else 0 : Int) = l at *
    refine go (b := 0 + 6 + 5 + 5 + 5 + 10 + 1) ?_ (show ((((31 * 32 + x.T) * 32 + x.A) * 32 + x.B) * 1024 + p) * 2 + l = hh + x.T * 2097152 + x.A * 65536 + x.B * 2048 by omega)
    rw [if_neg (by decide), if_neg (by decide), if_neg (by decide), if_pos (by decide), hp, Option.bind_some, e15, Option.bind_some, put_v 6 6 rfl (by decide) 31, Option.bind_some, put_v 5 5 rfl (by decide) (31 * 32 + x.T), Option.bind_some,
      put_v 5 5 rfl (by decide) ((31 * 32 + x.T) * 32 + x.A), Option.bind_some, put_v 5 5 rfl (by decide) (((31 * 32 + x.T) * 32 + x.A) * 32 + x.B), Option.bind_some, put_v 10 10 rfl (by decide) ((((31 * 32 + x.T) * 32 + x.A) * 32 + x.B) * 1024 + p), Option.bind_some,
      put_v 1 1 rfl (by decide) (((((31 * 32 + x.T) * 32 + x.A) * 32 + x.B) * 1024 + p) * 2 + l), Option.bind_some]
    rfl
  · obtain ⟨p, hp, e⟩ := H.k5 rfl
    clear H F
    have i4 := (tm4 _).1 hmd
    have d1 : Int.tdiv x.Imm 4 = x.Imm / 4 := Int.tdiv_eq_ediv_of_dvd (Int.dvd_of_emod_eq_zero i4)
    change (-32768 : Int) ≤ _ ∧ _ ≤ (32764 : Int) at hI
    refine go (b := 0 + 6 + 5 + 5 + 14 + 2) ?_ (show (((p * 32 + x.T) * 32 + x.A) * 16384 + x.Imm / 4 % 16384) * 4 = hh + x.T * 2097152 + x.A * 65536 + x.Imm % 65536 by omega)
    rw [if_neg (by decide), if_neg (by decide), if_neg (by decide), if_neg (by decide), if_pos (by decide), hp, Option.bind_some, d1, w64 (show -9223372036854775808 ≤ x.Imm / 4 ∧ x.Imm / 4 < 9223372036854775808 by omega), put_v 6 6 rfl (by decide) p, Option.bind_some, put_v 5 5 rfl (by decide) (p * 32 + x.T), Option.bind_some,
      put_v 5 5 rfl (by decide) ((p * 32 + x.T) * 32 + x.A), Option.bind_some, put_v 14 14 rfl (by decide) (((p * 32 + x.T) * 32 + x.A) * 16384 + x.Imm / 4 % 16384), Option.bind_some, put_v 2 2 rfl (by decide) ((((p * 32 + x.T) * 32 + x.A) * 16384 + x.Imm / 4 % 16384) * 4), Option.bind_some]
    rfl
  · have e := H.k6 rfl
    clear H F
    refine go (b := 0 + 6 + 5 + 5 + 5 + 11) ?_ (show ((993 * 32 + x.A) * 32 + x.B) * 2048 = hh + x.A * 65536 + x.B * 2048 by omega)
    rw [if_neg (by decide), if_neg (by decide), if_neg (by decide), if_neg (by decide), if_neg (by decide), if_pos (by decide), put_v 6 6 rfl (by decide) 31, Option.bind_some, put_v 5 5 rfl (by decide) 993, Option.bind_some, put_v 5 5 rfl (by decide) (993 * 32 + x.A), Option.bind_some,
      put_v 5 5 rfl (by decide) ((993 * 32 + x.A) * 32 + x.B), Option.bind_some, put_v 11 11 rfl (by decide) (((993 * 32 + x.A) * 32 + x.B) * 2048), Option.bind_some]
    rfl
  · have e := H.k7 rfl
    clear H F
    refine go (b := 0 + 6 + 5 + 5 + 16) ?_ (show (353 * 32 + x.A) * 65536 + x.Imm % 65536 = hh + x.A * 65536 + x.Imm % 65536 by omega)
    rw [if_neg (by decide), if_neg (by decide), if_neg (by decide), if_neg (by decide), if_neg (by decide), if_neg (by decide), if_pos (by decide), put_v 6 6 rfl (by decide) 11, Option.bind_some, put_v 5 5 rfl (by decide) 353, Option.bind_some, put_v 5 5 rfl (by decide) (353 * 32 + x.A), Option.bind_some,
      put_v 16 16 rfl (by decide) ((353 * 32 + x.A) * 65536 + x.Imm % 65536), Option.bind_some]
    rfl
  · have e := H.k8 rfl
    clear H F
    have i4 := (tm4 _).1 hmd
    have d1 : Int.tdiv x.Imm 4 = x.Imm / 4 := Int.tdiv_eq_ediv_of_dvd (Int.dvd_of_emod_eq_zero i4)
    change (-32768 : Int) ≤ _ ∧ _ ≤ (32764 : Int) at hI
    have t4 : 0 ≤ x.T ∧ x.T < 4 := by have := t8 rfl; omega
    have cg : ∃ p q, gi ([12, 4, 12, 4] : List Int) x.T = p ∧ gi ([0, 0, 2, 2] : List Int) x.T = q ∧ isa_cond.m x.T = p * 2097152 + q * 65536 ∧ 0 ≤ p ∧ p < 32 ∧ 0 ≤ q ∧ q < 32 := by
      rcases (by omega : x.T = 0 ∨ x.T = 1 ∨ x.T = 2 ∨ x.T = 3) with e | e | e | e <;> rw [e] <;> exact ⟨_, _, rfl, rfl, by decide, by decide, by decide, by decide, by decide⟩
    obtain ⟨p, q, g1, g2, g3, p0, p1, q0, q1⟩ := cg
    refine go (b := 0 + 6 + 5 + 5 + 14 + 2) ?_ (show (((16 * 32 + p) * 32 + q) * 16384 + x.Imm / 4 % 16384) * 4 = hh + isa_cond.m x.T + x.Imm % 65536 by omega)
    rw [if_neg (by decide), if_neg (by decide), if_neg (by decide), if_neg (by decide), if_neg (by decide), if_neg (by decide), if_neg (by decide), if_pos (by decide), if_pos t4, g1, g2, d1, w64 (show -9223372036854775808 ≤ x.Imm / 4 ∧ x.Imm / 4 < 9223372036854775808 by omega), put_v 6 6 rfl (by decide) 16, Option.bind_some, put_v 5 5 rfl (by decide) (16 * 32 + p), Option.bind_some,
      put_v 5 5 rfl (by decide) ((16 * 32 + p) * 32 + q), Option.bind_some, put_v 14 14 rfl (by decide) (((16 * 32 + p) * 32 + q) * 16384 + x.Imm / 4 % 16384), Option.bind_some, put_v 2 2 rfl (by decide) ((((16 * 32 + p) * 32 + q) * 16384 + x.Imm / 4 % 16384) * 4), Option.bind_some]
    rfl
  · have e := H.k9 rfl
    clear H F
    have i4 := (tm4 _).1 hmd
    have d1 : Int.tdiv x.Imm 4 = x.Imm / 4 := Int.tdiv_eq_ediv_of_dvd (Int.dvd_of_emod_eq_zero i4)
    change (-33554432 : Int) ≤ _ ∧ _ ≤ (33554428 : Int) at hI
    refine go (b := 0 + 6 + 24 + 2) ?_ (show (18 * 16777216 + x.Imm / 4 % 16777216) * 4 = hh + x.Imm % 67108864 by omega)
    rw [if_neg (by decide), if_neg (by decide), if_neg (by decide), if_neg (by decide), if_neg (by decide), if_neg (by decide), if_neg (by decide), if_neg (by decide), if_pos (by decide), d1, w64 (show -9223372036854775808 ≤ x.Imm / 4 ∧ x.Imm / 4 < 9223372036854775808 by omega), put_v 6 6 rfl (by decide) 18, Option.bind_some,
      put_v 24 24 rfl (by decide) (18 * 16777216 + x.Imm / 4 % 16777216), Option.bind_some, put_v 2 2 rfl (by decide) ((18 * 16777216 + x.Imm / 4 % 16777216) * 4), Option.bind_some]
    rfl
  · have e := H.k10 rfl
    clear H F
    rw [if_neg (by decide), if_neg (by decide), if_neg (by decide), if_neg (by decide), if_neg (by decide), if_neg (by decide), if_neg (by decide), if_neg (by decide), if_neg (by decide)]
    rcases e with ⟨e, eh⟩ | ⟨e, eh⟩ | ⟨e, eh⟩ | ⟨e, eh⟩ <;> rw [e]
    · refine go (b := 0 + 6 + 5 + 10 + 10 + 1) ?_ (show 2080375980 = hh by omega)
      rw [pick_of (b := 31) rfl, Option.bind_some, put_v 6 6 rfl (by decide) 31, Option.bind_some, if_neg (by decide), pick_of (b := 0) rfl, Option.bind_some, put_v 5 5 rfl (by decide) 992, Option.bind_some, put_v 10 10 rfl (by decide) 1015808, Option.bind_some, pick_of (b := 598) rfl, Option.bind_some, put_v 10 10 rfl (by decide) 1040187990, Option.bind_some, put_v 1 1 rfl (by decide) 2080375980, Option.bind_some]
      rfl
    · refine go (b := 0 + 6 + 5 + 10 + 10 + 1) ?_ (show 2082473132 = hh by omega)
      rw [pick_of (b := 31) rfl, Option.bind_some, put_v 6 6 rfl (by decide) 31, Option.bind_some, if_neg (by decide), pick_of (b := 1) rfl, Option.bind_some, put_v 5 5 rfl (by decide) 993, Option.bind_some, put_v 10 10 rfl (by decide) 1016832, Option.bind_some, pick_of (b := 598) rfl, Option.bind_some, put_v 10 10 rfl (by decide) 1041236566, Option.bind_some, put_v 1 1 rfl (by decide) 2082473132, Option.bind_some]
      rfl
    · refine go (b := 0 + 6 + 5 + 10 + 10 + 1) ?_ (show 1275068716 = hh by omega)
      rw [pick_of (b := 19) rfl, Option.bind_some, put_v 6 6 rfl (by decide) 19, Option.bind_some, if_neg (by decide), pick_of (b := 0) rfl, Option.bind_some, put_v 5 5 rfl (by decide) 608, Option.bind_some, put_v 10 10 rfl (by decide) 622592, Option.bind_some, pick_of (b := 150) rfl, Option.bind_some, put_v 10 10 rfl (by decide) 637534358, Option.bind_some, put_v 1 1 rfl (by decide) 1275068716, Option.bind_some]
      rfl
    · refine goR ?_ (show 1140850690 = hh by omega)
      rw [pick_of (b := 17) rfl, Option.bind_some, put_v 6 6 rfl (by decide) 17, Option.bind_some, if_pos (by decide), put_v 26 26 rfl (by decide) 1140850690, Option.bind_some]
      rfl
end Go.Proofs.Ytcnchjlomcafeaa.W
