/- Chapter 16: both decoders find the same. -/
import Derived.Test.YtcnchjlomcafeaaPE
import Derived.Test.YtcnchjlomcafeaaPRuns
import Derived.Test.YtcnchjlomcafeaaF52
import Derived.Test.YtcnchjlomcafeaaF50
set_option linter.unusedVariables false
set_option linter.unusedSimpArgs false
namespace Go.Proofs.Ytcnchjlomcafeaa.W
open Go Go.RowKit Go.Proofs.Ytcnchjlomcafeaa.B
theorem bt6_5 (w : Int) (h0 : 0 ≤ w) (h1 : w < 4294967296) : selvageref15_bits.m w 6 5 = w / 2097152 % 32 := by
  unfold selvageref15_bits.m
  rw [show min ((6 : Int) % 18446744073709551616).toNat 32 = 6 from rfl, show min ((wrap64 (32 - 5)) % 18446744073709551616).toNat 32 = 27 from rfl]
  unfold wrap64
  omega
theorem bt11_5 (w : Int) (h0 : 0 ≤ w) (h1 : w < 4294967296) : selvageref15_bits.m w 11 5 = w / 65536 % 32 := by
  unfold selvageref15_bits.m
  rw [show min ((11 : Int) % 18446744073709551616).toNat 32 = 11 from rfl, show min ((wrap64 (32 - 5)) % 18446744073709551616).toNat 32 = 27 from rfl]
  unfold wrap64
  omega
theorem bt16_16 (w : Int) (h0 : 0 ≤ w) (h1 : w < 4294967296) : selvageref15_bits.m w 16 16 = w / 1 % 65536 := by
  unfold selvageref15_bits.m
  rw [show min ((16 : Int) % 18446744073709551616).toNat 32 = 16 from rfl, show min ((wrap64 (32 - 16)) % 18446744073709551616).toNat 32 = 16 from rfl]
  unfold wrap64
  omega
theorem bt16_5 (w : Int) (h0 : 0 ≤ w) (h1 : w < 4294967296) : selvageref15_bits.m w 16 5 = w / 2048 % 32 := by
  unfold selvageref15_bits.m
  rw [show min ((16 : Int) % 18446744073709551616).toNat 32 = 16 from rfl, show min ((wrap64 (32 - 5)) % 18446744073709551616).toNat 32 = 27 from rfl]
  unfold wrap64
  omega
theorem bt16_14 (w : Int) (h0 : 0 ≤ w) (h1 : w < 4294967296) : selvageref15_bits.m w 16 14 = w / 4 % 16384 := by
  unfold selvageref15_bits.m
  rw [show min ((16 : Int) % 18446744073709551616).toNat 32 = 16 from rfl, show min ((wrap64 (32 - 14)) % 18446744073709551616).toNat 32 = 18 from rfl]
  unfold wrap64
  omega
theorem bt6_24 (w : Int) (h0 : 0 ≤ w) (h1 : w < 4294967296) : selvageref15_bits.m w 6 24 = w / 4 % 16777216 := by
  unfold selvageref15_bits.m
  rw [show min ((6 : Int) % 18446744073709551616).toNat 32 = 6 from rfl, show min ((wrap64 (32 - 24)) % 18446744073709551616).toNat 32 = 8 from rfl]
  unfold wrap64
  omega
theorem sg14 (v : Int) (h0 : 0 ≤ v) (h1 : v < 16384) : selvageref15_signed.m v 14 = (v + 8192) % 16384 - 8192 := by
  unfold selvageref15_signed.m
  rw [show wrap64 (1 * 2 ^ (min ((wrap64 (14 - 1)) % 18446744073709551616).toNat 64)) = 8192 from rfl, show wrap64 (1 * 2 ^ (min ((14 : Int) % 18446744073709551616).toNat 64)) = 16384 from rfl]
  by_cases h : v ≥ 8192
  · rw [if_pos (by simpa using h)]; unfold wrap64; omega
  · rw [if_neg (by simpa using h)]; omega
theorem sg16 (v : Int) (h0 : 0 ≤ v) (h1 : v < 65536) : selvageref15_signed.m v 16 = (v + 32768) % 65536 - 32768 := by
  unfold selvageref15_signed.m
  rw [show wrap64 (1 * 2 ^ (min ((wrap64 (16 - 1)) % 18446744073709551616).toNat 64)) = 32768 from rfl, show wrap64 (1 * 2 ^ (min ((16 : Int) % 18446744073709551616).toNat 64)) = 65536 from rfl]
  by_cases h : v ≥ 32768
  · rw [if_pos (by simpa using h)]; unfold wrap64; omega
  · rw [if_neg (by simpa using h)]; omega
theorem sg24 (v : Int) (h0 : 0 ≤ v) (h1 : v < 16777216) : selvageref15_signed.m v 24 = (v + 8388608) % 16777216 - 8388608 := by
  unfold selvageref15_signed.m
  rw [show wrap64 (1 * 2 ^ (min ((wrap64 (24 - 1)) % 18446744073709551616).toNat 64)) = 8388608 from rfl, show wrap64 (1 * 2 ^ (min ((24 : Int) % 18446744073709551616).toNat 64)) = 16777216 from rfl]
  by_cases h : v ≥ 8388608
  · rw [if_pos (by simpa using h)]; unfold wrap64; omega
  · rw [if_neg (by simpa using h)]; omega
theorem cu21 (w : Int) (h0 : 0 ≤ w) (h1 : w < 4294967296) : wrap64 (bits .and .u32 (w / 2097152) 31) = w / 2097152 % 32 := by
  rw [and_cut 0 5 (by decide) (w / 2097152) (by omega) (by omega) 31 (by decide)]; unfold wrap64; omega
theorem cu16 (w : Int) (h0 : 0 ≤ w) (h1 : w < 4294967296) : wrap64 (bits .and .u32 (w / 65536) 31) = w / 65536 % 32 := by
  rw [and_cut 0 5 (by decide) (w / 65536) (by omega) (by omega) 31 (by decide)]; unfold wrap64; omega
theorem cu11 (w : Int) (h0 : 0 ≤ w) (h1 : w < 4294967296) : wrap64 (bits .and .u32 (w / 2048) 31) = w / 2048 % 32 := by
  rw [and_cut 0 5 (by decide) (w / 2048) (by omega) (by omega) 31 (by decide)]; unfold wrap64; omega
theorem cu0 (w : Int) (h0 : 0 ≤ w) (h1 : w < 4294967296) : wrap64 (bits .and .u32 w 65535) = w % 65536 := by
  rw [and_cut 0 16 (by decide) w (by omega) (by omega) 65535 (by decide)]; unfold wrap64; omega
theorem cuS (w : Int) (h0 : 0 ≤ w) (h1 : w < 4294967296) : wrap64 (wrap16 w) = (w % 65536 + 32768) % 65536 - 32768 := by unfold wrap64 wrap16; omega
theorem cu4 (w : Int) (h0 : 0 ≤ w) (h1 : w < 4294967296) : wrap64 (wrap16 (bits .and .u32 w 65532)) = (w % 65536 / 4 * 4 + 32768) % 65536 - 32768 := by
  rw [and_cut 2 14 (by decide) w (by omega) (by omega) 65532 (by decide)]; unfold wrap64 wrap16; omega
theorem cu26 (w : Int) (h0 : 0 ≤ w) (h1 : w < 4294967296) : wrap64 ((wrap32 (((bits .and .u32 w 67108860) * 64) % 4294967296)) / 64) = (w % 67108864 / 4 * 4 + 33554432) % 67108864 - 33554432 := by
  rw [and_cut 2 24 (by decide) w (by omega) (by omega) 67108860 (by decide)]; unfold wrap64 wrap32; omega
theorem cuX (w : Int) (h0 : 0 ≤ w) (h1 : w < 4294967296) : wrap64 (bits .or .u32 (bits .and .u32 (w / 2048) 31) (((bits .and .u32 (w / 2) 1) * 32) % 4294967296)) = w % 65536 / 2048 + w % 65536 / 2 % 2 * 32 := by
  rw [and_cut 0 5 (by decide) (w / 2048) (by omega) (by omega) 31 (by decide), and_cut 0 1 (by decide) (w / 2) (by omega) (by omega) 1 (by decide)]
  have e1 : w / 2048 / 2 ^ 0 % 2 ^ 5 * 2 ^ 0 = w % 65536 / 2048 := by omega
  have e2 : (w / 2 / 2 ^ 0 % 2 ^ 1 * 2 ^ 0 * 32) % 4294967296 = w % 65536 / 2 % 2 * 32 := by omega
  rw [e1, e2]
  have b1 : 0 ≤ w % 65536 / 2048 ∧ w % 65536 / 2048 < 32 := by omega
  have b2 : w % 65536 / 2 % 2 = 0 ∨ w % 65536 / 2 % 2 = 1 := by omega
  generalize w % 65536 / 2048 = x at b1
  generalize w % 65536 / 2 % 2 = y at b2
  rw [or_sum 5 (by decide) x (y * 32) b1.1 (by omega) (by omega) (by omega) x.toNat 0 (by omega) (by omega) (by omega) (by simp)]
  unfold wrap64; omega
theorem cuC (w : Int) (h0 : 0 ≤ w) (h1 : w < 4294967296) : bits .and .u32 w 67043328 = w / 65536 % 1024 * 65536 := and_cut 16 10 (by decide) w h0 h1 67043328 (by decide)
theorem l11 (w : Int) : w / 2048 % 32 = w % 65536 / 2048 := by omega
/-- Is this the word of an instruction? -/
def isW (w : Int) (y : api_Inst) : Bool := decide (isa_Encode.m y = some (w, 0))
theorem isW_wd {w : Int} {y : api_Inst} (h : isW w y = true) : isa_check.m (isa_formOf.m y.Op).1 y = some 0 ∧ w = wd (isa_formOf.m y.Op).1 (isa_formOf.m y.Op).2 y := by
  have h := of_decide_eq_true h
  have hc := (enc0_iff y).1 (by simp [enc0, h])
  have := isaW hc
  rw [h] at this
  exact ⟨hc, congrArg Prod.fst (Option.some.inj this)⟩
theorem wd_top {k h w : Int} {y : api_Inst} {op : Int} (F : Fit k y) (H : Hd op k h) (hk : k ≤ 10) (k1 : 1 ≤ k) (hw : w = wd k h y) : w / 67108864 = h / 67108864 := by
  subst hw
  have hT := F.T
  have hA := F.A
  have hB := F.B
  have hI := F.I
  have hc := condB y.T
  rcases (by omega : k = 1 ∨ k = 2 ∨ k = 3 ∨ k = 4 ∨ k = 5 ∨ k = 6 ∨ k = 7 ∨ k = 8 ∨ k = 9 ∨ k = 10) with rfl | rfl | rfl | rfl | rfl | rfl | rfl | rfl | rfl | rfl
  · have := H.z (by decide); show (h + y.T * 2097152 + y.A * 65536 + y.Imm % 65536) / 67108864 = _; omega
  · have := H.z (by decide); change (0 : Int) ≤ _ ∧ _ ≤ (65535 : Int) at hI; show (h + y.A * 2097152 + y.T * 65536 + y.Imm) / 67108864 = _; omega
  · have := H.k3 rfl; change (0 : Int) ≤ _ ∧ _ ≤ (63 : Int) at hI; show (h + y.A * 2097152 + y.T * 65536 + y.Imm % 32 * 2048 + (63 - y.Imm) % 32 * 64 + (63 - y.Imm) / 32 * 32 + y.Imm / 32 * 2) / 67108864 = _; omega
  · have := (H.k4 rfl).1; show (h + y.T * 2097152 + y.A * 65536 + y.B * 2048) / 67108864 = _; omega
  · have := H.z (by decide); show (h + y.T * 2097152 + y.A * 65536 + y.Imm % 65536) / 67108864 = _; omega
  · have := H.k6 rfl; show (h + y.A * 65536 + y.B * 2048) / 67108864 = _; omega
  · have := H.k7 rfl; show (h + y.A * 65536 + y.Imm % 65536) / 67108864 = _; omega
  · have := H.k8 rfl; show (h + isa_cond.m y.T + y.Imm % 65536) / 67108864 = _; omega
  · have := H.k9 rfl; show (h + y.Imm % 67108864) / 67108864 = _; omega
  · rfl
theorem find_one {l : List api_Inst} {P : api_Inst → Bool} {c : api_Inst} (h1 : ∀ y ∈ l, P y = true → y = c) (h2 : c ∈ l) : l.find? P = if P c = true then some c else none := by
  cases hf : l.find? P with
  | some y =>
    have e := h1 y (List.mem_of_find?_eq_some hf) (List.find?_some hf)
    subst e
    rw [if_pos (List.find?_some hf)]
  | none =>
    have := List.find?_eq_none.1 hf c h2
    rw [if_neg this]
def StI (n : Int) : Option api_Inst → Int ⊕ (Unit ⊕ (api_Inst × Int))
  | some x => .inr (.inr (x, 0))
  | none => .inl (n + 1)
theorem enc_some (y : api_Inst) : ∃ r, isa_Encode.m y = some r := by
  obtain ⟨w, e, h, _⟩ := enc_tot y; exact ⟨_, h⟩
theorem finI {w n h : Int} {c : api_Inst} (hn : 1 ≤ n ∧ n ≤ 23) (ht : isW w c = true → bits .xor .u32 w h / 67108864 = 0) :
    ((if (!decide ((bits .xor .u32 w h) / 67108864 = 0)) = true then (some (Sum.inl ())) else ((some c).bind fun o_31 => (isa_Encode.m o_31).bind fun r_122 => (if ((decide (r_122.2 = 0)) && (decide (r_122.1 = w))) = true then ((((some (o_31, 0)).map Sum.inr).map Sum.inr).map Sum.inr) else (some (Sum.inl ())))) : Option (Unit ⊕ (Int ⊕ (Unit ⊕ (api_Inst × Int))))).bind fun o_15 => match o_15 with | .inl s_17 => (some (Sum.inl (wrap64 (n + 1)))) | .inr r_135 => some r_135) = some (StI n (if isW w c = true then some c else none)) := by
  have w1 := w64 (show -9223372036854775808 ≤ n + 1 ∧ n + 1 < 9223372036854775808 by omega)
  by_cases hp : isW w c = true
  · have he := of_decide_eq_true hp
    rw [if_neg (by simp [ht hp]), Option.bind_some, he, Option.bind_some, if_pos (by simp), if_pos hp]; rfl
  · rw [if_neg hp]
    by_cases hx : bits .xor .u32 w h / 67108864 = 0
    · obtain ⟨r, hr⟩ := enc_some c
      rw [if_neg (by simp [hx]), Option.bind_some, hr, Option.bind_some, if_neg ?_, Option.bind_some]
      · simp only [w1]; rfl
      · simp only [Bool.and_eq_true, decide_eq_true_eq]
        rintro ⟨h1, h2⟩
        exact hp (decide_eq_true (by rw [hr]; exact congrArg some (Prod.ext h2 h1)))
    · rw [if_pos (by simp [hx]), Option.bind_some]
      simp only [w1]; rfl
theorem refE_iff (w : Int) (y : api_Inst) : ∃ r, selvageref15_Encode.m y = some r ∧ (((decide (r.2 = 0)) && (decide (r.1 = w))) = isW w y) := by
  obtain ⟨v, e, h, he⟩ := ref_enc y
  refine ⟨_, h, ?_⟩
  by_cases e0 : e = 0
  · have hc := he.1 e0
    have h1 := refW hc
    have h2 := isaW hc
    rw [h] at h1
    rw [← h1] at h2
    unfold isW
    rw [h2, e0]
    simp
  · have hc : isW w y = false := by
      rw [Bool.eq_false_iff]; intro hp
      exact e0 (he.2 (isW_wd hp).1)
    rw [hc]; simp [e0]
theorem l2_eq (w : Int) (l : List api_Inst) (hl : l.length ≤ 4) : loop (selvageref15_Decode.l2 w l) 0 = some (match l.find? (isW w) with | some x => .inr (.inr (.inr (x, 0))) | none => .inl ()) := by
  refine loop_to _ (fun i : Int => 0 ≤ i ∧ i ≤ (l.length : Int) ∧ (l.drop i.toNat).find? (isW w) = l.find? (isW w)) (fun i : Int => ((l.length : Int) - i).toNat) ?_ 0 ⟨by omega, by omega, rfl⟩
  rintro i ⟨h0, h1, h2⟩
  unfold selvageref15_Decode.l2
  by_cases hi : i < l.length
  · rw [if_pos (by simpa using hi), if_pos ⟨h0, hi⟩]
    simp only [show (⟨(gi l i).Op, (gi l i).T, (gi l i).A, (gi l i).B, (gi l i).Imm⟩ : api_Inst) = gi l i from rfl]
    obtain ⟨r, hr, hb⟩ := refE_iff w (gi l i)
    rw [hr, Option.bind_some, hb]
    obtain ⟨m, rfl⟩ := Int.eq_ofNat_of_zero_le h0
    have hm : m < l.length := by omega
    simp only [Int.toNat_natCast] at h2
    rw [List.drop_eq_getElem_cons hm, List.find?_cons] at h2
    rw [gi_nat l m hm]
    cases hp : isW w l[m] with
    | true =>
      right
      rw [hp] at h2
      rw [← h2, if_pos rfl]; rfl
    | false =>
      left
      rw [hp] at h2
      refine ⟨m + 1, ?_, ⟨by omega, by omega, ?_⟩, by omega⟩
      · rw [if_neg (by decide), w64 (by omega)]
      · rw [show ((m : Int) + 1).toNat = m + 1 by omega]; exact h2
  · right
    rw [if_neg (by simpa using hi)]
    rw [List.drop_eq_nil_of_le (by omega)] at h2
    rw [← h2]; rfl
theorem finR {w n : Int} {l : List api_Inst} {c : api_Inst} (hn : 1 ≤ n ∧ n ≤ 23) (hl : l.length ≤ 4) (h1 : ∀ y ∈ l, isW w y = true → y = c) (h2 : c ∈ l) :
    ((some l).bind fun o_50 => (loop (selvageref15_Decode.l2 w o_50) 0 : Option (Unit ⊕ (Int ⊕ (Unit ⊕ (api_Inst × Int))))).bind fun o_215 => match o_215 with | .inl s_217 => (some (Sum.inl (wrap64 (n + 1)))) | .inr r_251 => some r_251) = some (StI n (if isW w c = true then some c else none)) := by
  rw [Option.bind_some, l2_eq w l hl, Option.bind_some, ← find_one h1 h2, w64 (show -9223372036854775808 ≤ n + 1 ∧ n + 1 < 9223372036854775808 by omega)]
  cases l.find? (isW w) <;> rfl
end Go.Proofs.Ytcnchjlomcafeaa.W
