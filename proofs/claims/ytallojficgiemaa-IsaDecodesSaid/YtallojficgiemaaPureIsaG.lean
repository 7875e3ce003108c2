/- Chapter 15: what the reference decodes. -/
import Derived.Test.YtallojficgiemaaPureIsaF
set_option linter.unusedVariables false
set_option linter.unusedSimpArgs false
namespace Go.Proofs.Ytallojficgiemaa.W
open Go Go.RowKit Go.Proofs.Ytallojficgiemaa.B
theorem r1 (w n : Int) (k : Nat) (l : List api_Inst) (t t' : Int) (h1 : t < 4) (h2 : wrap64 (t + 1) = t') (h3 : l.length ≤ 10) :
    selvageref15_Decode.l1 w n (k + 1) (l, t) = selvageref15_Decode.l1 w n k (l ++ [⟨n, t, 0, 0, wrap64 (4 * (selvageref15_signed.m (selvageref15_bits.m w 16 14) 14))⟩], t') := by
  subst h2
  rw [selvageref15_Decode.l1, if_pos (by simpa using h1), if_pos (by simp only [List.length_cons, List.length_nil]; omega)]
theorem rl1 (w n : Int) (k : Nat) : selvageref15_Decode.l1 w n (k + 10) ([], 0) = some [⟨n, 0, 0, 0, wrap64 (4 * (selvageref15_signed.m (selvageref15_bits.m w 16 14) 14))⟩, ⟨n, 1, 0, 0, wrap64 (4 * (selvageref15_signed.m (selvageref15_bits.m w 16 14) 14))⟩, ⟨n, 2, 0, 0, wrap64 (4 * (selvageref15_signed.m (selvageref15_bits.m w 16 14) 14))⟩, ⟨n, 3, 0, 0, wrap64 (4 * (selvageref15_signed.m (selvageref15_bits.m w 16 14) 14))⟩] := by
  rw [r1 w n (k + 9) _ 0 1 (by decide) rfl (by simp), r1 w n (k + 8) _ 1 2 (by decide) rfl (by simp), r1 w n (k + 7) _ 2 3 (by decide) rfl (by simp), r1 w n (k + 6) _ 3 4 (by decide) rfl (by simp)]
  rfl
theorem rTot (w : Int) (k : Nat) (n s : Int) : ∃ l, candR w (k + 10) n s = some l ∧ l.length ≤ 4 ∧ ∀ x ∈ l, x.Op = n := by
  unfold candR
  rw [rl1]
  repeat' split
  all_goals exact ⟨_, rfl, by simp, by simp⟩
theorem l2S (w : Int) (l : List api_Inst) (hl : l.length ≤ 4) : ∀ (j k idx : Nat), idx + j = l.length →
    selvageref15_Decode.l2 w (k + 61 + j) (l, (idx : Int)) = some (match (l.drop idx).find? (fun x => decide (isa_Encode.m x = some (w, 0))) with | some x => Sum.inr (x, 0) | none => Sum.inl ()) := by
  intro j
  induction j with
  | zero =>
    intro k idx h
    rw [show k + 61 + 0 = (k + 60) + 1 by omega, selvageref15_Decode.l2, if_neg (by simp <;> omega), List.drop_eq_nil_of_le (by omega)]
    rfl
  | succ j ih =>
    intro k idx h
    have hlt : idx < l.length := by omega
    have hg : gi api_Inst_E l (idx : Int) = l[idx] := by simp [gi, hlt]
    obtain ⟨r, hr⟩ := encSome l[idx]
    have he : selvageref15_Encode.m (k + 61 + j) l[idx] = some r := by
      rw [show k + 61 + j = (k + 1 + j) + 60 by omega, encEq]; exact hr
    have hw : wrap64 ((idx : Int) + 1) = ((idx + 1 : Nat) : Int) := by unfold wrap64; omega
    rw [show k + 61 + (j + 1) = (k + 61 + j) + 1 by omega, selvageref15_Decode.l2, if_pos (by simpa using hlt), if_pos (by simpa using hlt)]
    simp only [hg, he, Option.bind_some]
    rw [List.drop_eq_getElem_cons hlt, List.find?_cons, hr, hw]
    by_cases hrw : r = (w, 0)
    · subst hrw
      simp
    · have : ¬ (r.2 = 0 ∧ r.1 = w) := fun ⟨h1, h2⟩ => hrw (Prod.ext h2 h1)
      rw [if_neg (by simpa using this), ih k (idx + 1) (by omega)]
      simp [hrw]
theorem sortSome (n : Int) (hn : 1 ≤ n ∧ n ≤ 23) : ∃ s, selvageref15_sort.m n = some s := by
  rcases opCases n (by omega) with rfl | rfl | rfl | rfl | rfl | rfl | rfl | rfl | rfl | rfl | rfl | rfl | rfl | rfl | rfl | rfl | rfl | rfl | rfl | rfl | rfl | rfl | rfl <;> exact ⟨_, rfl⟩
theorem low3a (i : Int) (hi : 0 ≤ i ∧ i ≤ 63) : (i % 32 * 2048 + (63 - i) % 32 * 64 + (63 - i) / 32 * 32 + i / 32 * 2 + 4) / 2048 = i % 32 := by
  have e1 : (63 - i) / 32 = 1 - i / 32 := by omega
  have e2 : (63 - i) % 32 = 31 - i % 32 := by omega
  rw [e1, e2]
  rcases (by omega : i / 32 = 0 ∨ i / 32 = 1) with e | e
  · rw [e]; omega
  · rw [e]; omega
theorem rI1 (k : Nat) (n h t a i w : Int) (h0 : 0 ≤ h) (h1 : h < 4294967296) (hh : h % 67108864 = 0) (ht : 0 ≤ t ∧ t ≤ 31) (ha : 0 ≤ a ∧ a ≤ 31) (hi : -32768 ≤ i ∧ i ≤ 32767) (hw : w = h + t * 2097152 + a * 65536 + i % 65536) : ∃ l, candR w (k + 10) n 1 = some l ∧ (⟨n, t, a, 0, i⟩ : api_Inst) ∈ l := by
  obtain ⟨w0, w1, e1, e2, e3, e4⟩ := fields (h / 67108864) (t) (a) (i % 65536) w (by omega) (by omega) (by omega) (by omega) (by omega)
  refine ⟨_, rfl, ?_⟩
  have hT : selvageref15_bits.m w 6 5 = t := by rw [bt6_5 w w0 w1]; exact e1
  have hA : selvageref15_bits.m w 11 5 = a := by rw [bt11_5 w w0 w1]; exact e2
  have hI : selvageref15_signed.m (selvageref15_bits.m w 16 16) 16 = i := by
    have e5 : w / 1 % 65536 = i % 65536 := by omega
    rw [bt16_16 w w0 w1, e5, sg16 _ (by omega) (by omega)]; omega
  rw [hT, hA, hI]
  exact List.mem_singleton.2 rfl

theorem rI2 (k : Nat) (n h t a i w : Int) (h0 : 0 ≤ h) (h1 : h < 4294967296) (hh : h % 67108864 = 0) (ht : 0 ≤ t ∧ t ≤ 31) (ha : 0 ≤ a ∧ a ≤ 31) (hi : 0 ≤ i ∧ i ≤ 65535) (hw : w = h + a * 2097152 + t * 65536 + i) : ∃ l, candR w (k + 10) n 2 = some l ∧ (⟨n, t, a, 0, i⟩ : api_Inst) ∈ l := by
  obtain ⟨w0, w1, e1, e2, e3, e4⟩ := fields (h / 67108864) (a) (t) (i) w (by omega) (by omega) (by omega) (by omega) (by omega)
  refine ⟨_, rfl, ?_⟩
  have hT : selvageref15_bits.m w 6 5 = a := by rw [bt6_5 w w0 w1]; exact e1
  have hA : selvageref15_bits.m w 11 5 = t := by rw [bt11_5 w w0 w1]; exact e2
  have hI : selvageref15_bits.m w 16 16 = i := by rw [bt16_16 w w0 w1]; omega
  rw [hT, hA, hI]
  exact List.mem_singleton.2 rfl

theorem rI3 (k : Nat) (n h t a i w : Int) (h0 : 0 ≤ h) (h1 : h < 4294967296) (hh : h % 67108864 = 4) (ht : 0 ≤ t ∧ t ≤ 31) (ha : 0 ≤ a ∧ a ≤ 31) (hi : 0 ≤ i ∧ i ≤ 63) (hw : w = h + a * 2097152 + t * 65536 + i % 32 * 2048 + (63 - i) % 32 * 64 + (63 - i) / 32 * 32 + i / 32 * 2) : ∃ l, candR w (k + 10) n 3 = some l ∧ (⟨n, t, a, 0, i⟩ : api_Inst) ∈ l := by
  obtain ⟨w0, w1, e1, e2, e3, e4⟩ := fields (h / 67108864) (a) (t) (i % 32 * 2048 + (63 - i) % 32 * 64 + (63 - i) / 32 * 32 + i / 32 * 2 + 4) w (by omega) (by omega) (by omega) (by omega) (by omega)
  refine ⟨_, rfl, ?_⟩
  have hT : selvageref15_bits.m w 6 5 = a := by rw [bt6_5 w w0 w1]; exact e1
  have hA : selvageref15_bits.m w 11 5 = t := by rw [bt11_5 w w0 w1]; exact e2
  have e6 := low3 i hi
  have hI : selvageref15_bits.m w 16 5 = i % 32 := by rw [bt16_5 w w0 w1, l11, e3]; exact low3a i hi
  have hJ : wrap64 (i % 32 + 32) = i % 32 + 32 := by unfold wrap64; omega
  rw [hT, hA, hI, hJ]
  rcases (by omega : i % 32 = i ∨ i % 32 + 32 = i) with e | e
  · rw [e]; exact List.mem_cons_self
  · rw [e]; exact List.mem_cons_of_mem _ List.mem_cons_self

theorem rI4 (k : Nat) (n h t a b w : Int) (h0 : 0 ≤ h) (h1 : h < 4294967296) (hh : h % 67108864 < 2048) (ht : 0 ≤ t ∧ t ≤ 31) (ha : 0 ≤ a ∧ a ≤ 31) (hb : 0 ≤ b ∧ b ≤ 31) (hw : w = h + t * 2097152 + a * 65536 + b * 2048) : ∃ l, candR w (k + 10) n 4 = some l ∧ (⟨n, t, a, b, 0⟩ : api_Inst) ∈ l := by
  obtain ⟨w0, w1, e1, e2, e3, e4⟩ := fields (h / 67108864) (t) (a) (b * 2048 + h % 67108864) w (by omega) (by omega) (by omega) (by omega) (by omega)
  refine ⟨_, rfl, ?_⟩
  have hT : selvageref15_bits.m w 6 5 = t := by rw [bt6_5 w w0 w1]; exact e1
  have hA : selvageref15_bits.m w 11 5 = a := by rw [bt11_5 w w0 w1]; exact e2
  have hB : selvageref15_bits.m w 16 5 = b := by rw [bt16_5 w w0 w1, l11, e3]; omega
  rw [hT, hA, hB]
  exact List.mem_singleton.2 rfl

theorem rI5 (k : Nat) (n h t a i w : Int) (h0 : 0 ≤ h) (h1 : h < 4294967296) (hh : h % 67108864 = 0) (ht : 0 ≤ t ∧ t ≤ 31) (ha : 0 ≤ a ∧ a ≤ 31) (hi : -32768 ≤ i ∧ i ≤ 32764 ∧ i % 4 = 0) (hw : w = h + t * 2097152 + a * 65536 + i % 65536) : ∃ l, candR w (k + 10) n 5 = some l ∧ (⟨n, t, a, 0, i⟩ : api_Inst) ∈ l := by
  obtain ⟨w0, w1, e1, e2, e3, e4⟩ := fields (h / 67108864) (t) (a) (i % 65536) w (by omega) (by omega) (by omega) (by omega) (by omega)
  refine ⟨_, rfl, ?_⟩
  have hT : selvageref15_bits.m w 6 5 = t := by rw [bt6_5 w w0 w1]; exact e1
  have hA : selvageref15_bits.m w 11 5 = a := by rw [bt11_5 w w0 w1]; exact e2
  have hI : wrap64 (4 * (selvageref15_signed.m (selvageref15_bits.m w 16 14) 14)) = i := by
    have e5 : w / 4 % 16384 = i / 4 % 16384 := by omega
    rw [bt16_14 w w0 w1, e5, sg14 _ (by omega) (by omega)]; unfold wrap64; omega
  rw [hT, hA, hI]
  exact List.mem_singleton.2 rfl

theorem rI6 (k : Nat) (n h a b w : Int) (h0 : 0 ≤ h) (h1 : h < 4294967296) (hh : h % 67108864 = 2097152) (ha : 0 ≤ a ∧ a ≤ 31) (hb : 0 ≤ b ∧ b ≤ 31) (hw : w = h + a * 65536 + b * 2048) : ∃ l, candR w (k + 10) n 6 = some l ∧ (⟨n, 0, a, b, 0⟩ : api_Inst) ∈ l := by
  obtain ⟨w0, w1, e1, e2, e3, e4⟩ := fields (h / 67108864) (1) (a) (b * 2048) w (by omega) (by omega) (by omega) (by omega) (by omega)
  refine ⟨_, rfl, ?_⟩
  have hA : selvageref15_bits.m w 11 5 = a := by rw [bt11_5 w w0 w1]; exact e2
  have hB : selvageref15_bits.m w 16 5 = b := by rw [bt16_5 w w0 w1, l11, e3]; omega
  rw [hA, hB]
  exact List.mem_singleton.2 rfl

theorem rI7 (k : Nat) (n h a i w : Int) (h0 : 0 ≤ h) (h1 : h < 4294967296) (hh : h % 67108864 = 2097152) (ha : 0 ≤ a ∧ a ≤ 31) (hi : -32768 ≤ i ∧ i ≤ 32767) (hw : w = h + a * 65536 + i % 65536) : ∃ l, candR w (k + 10) n 7 = some l ∧ (⟨n, 0, a, 0, i⟩ : api_Inst) ∈ l := by
  obtain ⟨w0, w1, e1, e2, e3, e4⟩ := fields (h / 67108864) (1) (a) (i % 65536) w (by omega) (by omega) (by omega) (by omega) (by omega)
  refine ⟨_, rfl, ?_⟩
  have hA : selvageref15_bits.m w 11 5 = a := by rw [bt11_5 w w0 w1]; exact e2
  have hI : selvageref15_signed.m (selvageref15_bits.m w 16 16) 16 = i := by
    have e5 : w / 1 % 65536 = i % 65536 := by omega
    rw [bt16_16 w w0 w1, e5, sg16 _ (by omega) (by omega)]; omega
  rw [hA, hI]
  exact List.mem_singleton.2 rfl

theorem rI8 (k : Nat) (n h t i w : Int) (h0 : 0 ≤ h) (h1 : h < 4294967296) (hh : h % 67108864 = 0) (ht : 0 ≤ t ∧ t ≤ 3) (hi : -32768 ≤ i ∧ i ≤ 32764 ∧ i % 4 = 0) (hw : w = h + isa_cond.m t + i % 65536) : ∃ l, candR w (k + 10) n 8 = some l ∧ (⟨n, t, 0, 0, i⟩ : api_Inst) ∈ l := by
  have hcb := condB t
  have w0 : 0 ≤ w := by omega
  have w1 : w < 4294967296 := by omega
  have e3 : w % 65536 = i % 65536 := by omega
  clear hw
  have e5 : w / 4 % 16384 = i / 4 % 16384 := by omega
  have hI : wrap64 (4 * (selvageref15_signed.m (selvageref15_bits.m w 16 14) 14)) = i := by
    rw [bt16_14 w w0 w1, e5, sg14 _ (by omega) (by omega)]; unfold wrap64; omega
  have hl := rl1 w n k
  rw [hI] at hl
  refine ⟨_, (show candR w (k + 10) n 8 = (selvageref15_Decode.l1 w n (k + 10) ([], 0)).bind (fun o => some o) from rfl).trans (by rw [hl]; rfl), ?_⟩
  rcases (by omega : t = 0 ∨ t = 1 ∨ t = 2 ∨ t = 3) with rfl | rfl | rfl | rfl <;> simp

theorem rI9 (k : Nat) (n h i w : Int) (h0 : 0 ≤ h) (h1 : h < 4294967296) (hh : h % 67108864 = 0) (hi : -33554432 ≤ i ∧ i ≤ 33554428 ∧ i % 4 = 0) (hw : w = h + i % 67108864) : ∃ l, candR w (k + 10) n 9 = some l ∧ (⟨n, 0, 0, 0, i⟩ : api_Inst) ∈ l := by
  have w0 : 0 ≤ w := by omega
  have w1 : w < 4294967296 := by omega
  have e3 : w % 67108864 = i % 67108864 := by omega
  clear hw
  have e5 : w / 4 % 16777216 = i / 4 % 16777216 := by omega
  have hI : wrap64 (4 * (selvageref15_signed.m (selvageref15_bits.m w 6 24) 24)) = i := by
    rw [bt6_24 w w0 w1, e5, sg24 _ (by omega) (by omega)]; unfold wrap64; omega
  refine ⟨_, rfl, ?_⟩
  rw [hI]
  exact List.mem_singleton.2 rfl

theorem rI10 (k : Nat) (n h  w : Int) (h0 : 0 ≤ h) (h1 : h < 4294967296)   (hw : w = h) : ∃ l, candR w (k + 10) n 10 = some l ∧ (⟨n, 0, 0, 0, 0⟩ : api_Inst) ∈ l := by
  exact ⟨_, rfl, List.mem_singleton.2 rfl⟩

theorem mem1 (k : Nat) (t a b i w : Int) (h : isa_Encode.m ⟨1, t, a, b, i⟩ = some (w, 0)) : ∃ s l, selvageref15_sort.m 1 = some s ∧ candR w (k + 10) 1 s = some l ∧ (⟨1, t, a, b, i⟩ : api_Inst) ∈ l := by
  obtain ⟨hF, hR, hw⟩ := encOk1 t a b i w h
  have hb : b = 0 := by omega
  subst hb
  obtain ⟨l, h1, h2⟩ := rI1 k 1 939524096 t a i w (by decide) (by decide) (by decide) hR.1 hR.2.1 hR.2.2 hw
  exact ⟨1, l, rfl, h1, h2⟩
theorem mem2 (k : Nat) (t a b i w : Int) (h : isa_Encode.m ⟨2, t, a, b, i⟩ = some (w, 0)) : ∃ s l, selvageref15_sort.m 2 = some s ∧ candR w (k + 10) 2 s = some l ∧ (⟨2, t, a, b, i⟩ : api_Inst) ∈ l := by
  obtain ⟨hF, hR, hw⟩ := encOk2 t a b i w h
  have hb : b = 0 := by omega
  subst hb
  obtain ⟨l, h1, h2⟩ := rI1 k 2 1006632960 t a i w (by decide) (by decide) (by decide) hR.1 hR.2.1 hR.2.2 hw
  exact ⟨1, l, rfl, h1, h2⟩
theorem mem3 (k : Nat) (t a b i w : Int) (h : isa_Encode.m ⟨3, t, a, b, i⟩ = some (w, 0)) : ∃ s l, selvageref15_sort.m 3 = some s ∧ candR w (k + 10) 3 s = some l ∧ (⟨3, t, a, b, i⟩ : api_Inst) ∈ l := by
  obtain ⟨hF, hR, hw⟩ := encOk3 t a b i w h
  have hb : b = 0 := by omega
  subst hb
  obtain ⟨l, h1, h2⟩ := rI2 k 3 1610612736 t a i w (by decide) (by decide) (by decide) hR.1 hR.2.1 hR.2.2 hw
  exact ⟨2, l, rfl, h1, h2⟩
theorem mem4 (k : Nat) (t a b i w : Int) (h : isa_Encode.m ⟨4, t, a, b, i⟩ = some (w, 0)) : ∃ s l, selvageref15_sort.m 4 = some s ∧ candR w (k + 10) 4 s = some l ∧ (⟨4, t, a, b, i⟩ : api_Inst) ∈ l := by
  obtain ⟨hF, hR, hw⟩ := encOk4 t a b i w h
  have hb : b = 0 := by omega
  subst hb
  obtain ⟨l, h1, h2⟩ := rI2 k 4 1677721600 t a i w (by decide) (by decide) (by decide) hR.1 hR.2.1 hR.2.2 hw
  exact ⟨2, l, rfl, h1, h2⟩
theorem mem5 (k : Nat) (t a b i w : Int) (h : isa_Encode.m ⟨5, t, a, b, i⟩ = some (w, 0)) : ∃ s l, selvageref15_sort.m 5 = some s ∧ candR w (k + 10) 5 s = some l ∧ (⟨5, t, a, b, i⟩ : api_Inst) ∈ l := by
  obtain ⟨hF, hR, hw⟩ := encOk5 t a b i w h
  have hb : b = 0 := by omega
  subst hb
  obtain ⟨l, h1, h2⟩ := rI3 k 5 2013265924 t a i w (by decide) (by decide) (by decide) hR.1 hR.2.1 hR.2.2 hw
  exact ⟨3, l, rfl, h1, h2⟩
theorem mem6 (k : Nat) (t a b i w : Int) (h : isa_Encode.m ⟨6, t, a, b, i⟩ = some (w, 0)) : ∃ s l, selvageref15_sort.m 6 = some s ∧ candR w (k + 10) 6 s = some l ∧ (⟨6, t, a, b, i⟩ : api_Inst) ∈ l := by
  obtain ⟨hF, hR, hw⟩ := encOk6 t a b i w h
  have hi : i = 0 := by omega
  subst hi
  obtain ⟨l, h1, h2⟩ := rI4 k 6 2080375316 t a b w (by decide) (by decide) (by decide) hR.1 hR.2.1 hR.2.2 hw
  exact ⟨4, l, rfl, h1, h2⟩
theorem mem7 (k : Nat) (t a b i w : Int) (h : isa_Encode.m ⟨7, t, a, b, i⟩ = some (w, 0)) : ∃ s l, selvageref15_sort.m 7 = some s ∧ candR w (k + 10) 7 s = some l ∧ (⟨7, t, a, b, i⟩ : api_Inst) ∈ l := by
  obtain ⟨hF, hR, hw⟩ := encOk7 t a b i w h
  have hi : i = 0 := by omega
  subst hi
  obtain ⟨l, h1, h2⟩ := rI4 k 7 2080374864 t a b w (by decide) (by decide) (by decide) hR.1 hR.2.1 hR.2.2 hw
  exact ⟨4, l, rfl, h1, h2⟩
theorem mem8 (k : Nat) (t a b i w : Int) (h : isa_Encode.m ⟨8, t, a, b, i⟩ = some (w, 0)) : ∃ s l, selvageref15_sort.m 8 = some s ∧ candR w (k + 10) 8 s = some l ∧ (⟨8, t, a, b, i⟩ : api_Inst) ∈ l := by
  obtain ⟨hF, hR, hw⟩ := encOk8 t a b i w h
  have hi : i = 0 := by omega
  subst hi
  obtain ⟨l, h1, h2⟩ := rI4 k 8 2080375250 t a b w (by decide) (by decide) (by decide) hR.1 hR.2.1 hR.2.2 hw
  exact ⟨4, l, rfl, h1, h2⟩
theorem mem9 (k : Nat) (t a b i w : Int) (h : isa_Encode.m ⟨9, t, a, b, i⟩ = some (w, 0)) : ∃ s l, selvageref15_sort.m 9 = some s ∧ candR w (k + 10) 9 s = some l ∧ (⟨9, t, a, b, i⟩ : api_Inst) ∈ l := by
  obtain ⟨hF, hR, hw⟩ := encOk9 t a b i w h
  have hi : i = 0 := by omega
  subst hi
  obtain ⟨l, h1, h2⟩ := rI4 k 9 2080375762 t a b w (by decide) (by decide) (by decide) hR.1 hR.2.1 hR.2.2 hw
  exact ⟨4, l, rfl, h1, h2⟩
theorem mem10 (k : Nat) (t a b i w : Int) (h : isa_Encode.m ⟨10, t, a, b, i⟩ = some (w, 0)) : ∃ s l, selvageref15_sort.m 10 = some s ∧ candR w (k + 10) 10 s = some l ∧ (⟨10, t, a, b, i⟩ : api_Inst) ∈ l := by
  obtain ⟨hF, hR, hw⟩ := encOk10 t a b i w h
  have hb : b = 0 := by omega
  subst hb
  obtain ⟨l, h1, h2⟩ := rI5 k 10 3892314112 t a i w (by decide) (by decide) (by decide) hR.1 hR.2.1 hR.2.2 hw
  exact ⟨5, l, rfl, h1, h2⟩
theorem mem11 (k : Nat) (t a b i w : Int) (h : isa_Encode.m ⟨11, t, a, b, i⟩ = some (w, 0)) : ∃ s l, selvageref15_sort.m 11 = some s ∧ candR w (k + 10) 11 s = some l ∧ (⟨11, t, a, b, i⟩ : api_Inst) ∈ l := by
  obtain ⟨hF, hR, hw⟩ := encOk11 t a b i w h
  have hb : b = 0 := by omega
  subst hb
  obtain ⟨l, h1, h2⟩ := rI5 k 11 4160749568 t a i w (by decide) (by decide) (by decide) hR.1 hR.2.1 hR.2.2 hw
  exact ⟨5, l, rfl, h1, h2⟩
theorem mem12 (k : Nat) (t a b i w : Int) (h : isa_Encode.m ⟨12, t, a, b, i⟩ = some (w, 0)) : ∃ s l, selvageref15_sort.m 12 = some s ∧ candR w (k + 10) 12 s = some l ∧ (⟨12, t, a, b, i⟩ : api_Inst) ∈ l := by
  obtain ⟨hF, hR, hw⟩ := encOk12 t a b i w h
  have hi : i = 0 := by omega
  subst hi
  obtain ⟨l, h1, h2⟩ := rI4 k 12 2080374826 t a b w (by decide) (by decide) (by decide) hR.1 hR.2.1 hR.2.2 hw
  exact ⟨4, l, rfl, h1, h2⟩
theorem mem13 (k : Nat) (t a b i w : Int) (h : isa_Encode.m ⟨13, t, a, b, i⟩ = some (w, 0)) : ∃ s l, selvageref15_sort.m 13 = some s ∧ candR w (k + 10) 13 s = some l ∧ (⟨13, t, a, b, i⟩ : api_Inst) ∈ l := by
  obtain ⟨hF, hR, hw⟩ := encOk13 t a b i w h
  have hi : i = 0 := by omega
  subst hi
  obtain ⟨l, h1, h2⟩ := rI4 k 13 2080375082 t a b w (by decide) (by decide) (by decide) hR.1 hR.2.1 hR.2.2 hw
  exact ⟨4, l, rfl, h1, h2⟩
theorem mem14 (k : Nat) (t a b i w : Int) (h : isa_Encode.m ⟨14, t, a, b, i⟩ = some (w, 0)) : ∃ s l, selvageref15_sort.m 14 = some s ∧ candR w (k + 10) 14 s = some l ∧ (⟨14, t, a, b, i⟩ : api_Inst) ∈ l := by
  obtain ⟨hF, hR, hw⟩ := encOk14 t a b i w h
  have hi : i = 0 := by omega
  subst hi
  obtain ⟨l, h1, h2⟩ := rI4 k 14 2080374952 t a b w (by decide) (by decide) (by decide) hR.1 hR.2.1 hR.2.2 hw
  exact ⟨4, l, rfl, h1, h2⟩
theorem mem15 (k : Nat) (t a b i w : Int) (h : isa_Encode.m ⟨15, t, a, b, i⟩ = some (w, 0)) : ∃ s l, selvageref15_sort.m 15 = some s ∧ candR w (k + 10) 15 s = some l ∧ (⟨15, t, a, b, i⟩ : api_Inst) ∈ l := by
  obtain ⟨hF, hR, hw⟩ := encOk15 t a b i w h
  have hi : i = 0 := by omega
  subst hi
  obtain ⟨l, h1, h2⟩ := rI4 k 15 2080375213 t a b w (by decide) (by decide) (by decide) hR.1 hR.2.1 hR.2.2 hw
  exact ⟨4, l, rfl, h1, h2⟩
theorem mem16 (k : Nat) (t a b i w : Int) (h : isa_Encode.m ⟨16, t, a, b, i⟩ = some (w, 0)) : ∃ s l, selvageref15_sort.m 16 = some s ∧ candR w (k + 10) 16 s = some l ∧ (⟨16, t, a, b, i⟩ : api_Inst) ∈ l := by
  obtain ⟨hF, hR, hw⟩ := encOk16 t a b i w h
  have ht : t = 0 := by omega
  subst ht
  have hi : i = 0 := by omega
  subst hi
  obtain ⟨l, h1, h2⟩ := rI6 k 16 2082471936 a b w (by decide) (by decide) (by decide) hR.1 hR.2 hw
  exact ⟨6, l, rfl, h1, h2⟩
theorem mem17 (k : Nat) (t a b i w : Int) (h : isa_Encode.m ⟨17, t, a, b, i⟩ = some (w, 0)) : ∃ s l, selvageref15_sort.m 17 = some s ∧ candR w (k + 10) 17 s = some l ∧ (⟨17, t, a, b, i⟩ : api_Inst) ∈ l := by
  obtain ⟨hF, hR, hw⟩ := encOk17 t a b i w h
  have ht : t = 0 := by omega
  subst ht
  have hb : b = 0 := by omega
  subst hb
  obtain ⟨l, h1, h2⟩ := rI7 k 17 740294656 a i w (by decide) (by decide) (by decide) hR.1 hR.2 hw
  exact ⟨7, l, rfl, h1, h2⟩
theorem mem18 (k : Nat) (t a b i w : Int) (h : isa_Encode.m ⟨18, t, a, b, i⟩ = some (w, 0)) : ∃ s l, selvageref15_sort.m 18 = some s ∧ candR w (k + 10) 18 s = some l ∧ (⟨18, t, a, b, i⟩ : api_Inst) ∈ l := by
  obtain ⟨hF, hR, hw⟩ := encOk18 t a b i w h
  have ha : a = 0 := by omega
  subst ha
  have hb : b = 0 := by omega
  subst hb
  obtain ⟨l, h1, h2⟩ := rI8 k 18 1073741824 t i w (by decide) (by decide) (by decide) hR.1 hR.2 hw
  exact ⟨8, l, rfl, h1, h2⟩
theorem mem19 (k : Nat) (t a b i w : Int) (h : isa_Encode.m ⟨19, t, a, b, i⟩ = some (w, 0)) : ∃ s l, selvageref15_sort.m 19 = some s ∧ candR w (k + 10) 19 s = some l ∧ (⟨19, t, a, b, i⟩ : api_Inst) ∈ l := by
  obtain ⟨hF, hR, hw⟩ := encOk19 t a b i w h
  have ht : t = 0 := by omega
  subst ht
  have ha : a = 0 := by omega
  subst ha
  have hb : b = 0 := by omega
  subst hb
  obtain ⟨l, h1, h2⟩ := rI9 k 19 1207959552 i w (by decide) (by decide) (by decide) hR hw
  exact ⟨9, l, rfl, h1, h2⟩
theorem mem20 (k : Nat) (t a b i w : Int) (h : isa_Encode.m ⟨20, t, a, b, i⟩ = some (w, 0)) : ∃ s l, selvageref15_sort.m 20 = some s ∧ candR w (k + 10) 20 s = some l ∧ (⟨20, t, a, b, i⟩ : api_Inst) ∈ l := by
  obtain ⟨hF, hR, hw⟩ := encOk20 t a b i w h
  have ht : t = 0 := by omega
  subst ht
  have ha : a = 0 := by omega
  subst ha
  have hb : b = 0 := by omega
  subst hb
  have hi : i = 0 := by omega
  subst hi
  obtain ⟨l, h1, h2⟩ := rI10 k 20 2080375980  w (by decide) (by decide)   hw
  exact ⟨10, l, rfl, h1, h2⟩
theorem mem21 (k : Nat) (t a b i w : Int) (h : isa_Encode.m ⟨21, t, a, b, i⟩ = some (w, 0)) : ∃ s l, selvageref15_sort.m 21 = some s ∧ candR w (k + 10) 21 s = some l ∧ (⟨21, t, a, b, i⟩ : api_Inst) ∈ l := by
  obtain ⟨hF, hR, hw⟩ := encOk21 t a b i w h
  have ht : t = 0 := by omega
  subst ht
  have ha : a = 0 := by omega
  subst ha
  have hb : b = 0 := by omega
  subst hb
  have hi : i = 0 := by omega
  subst hi
  obtain ⟨l, h1, h2⟩ := rI10 k 21 2082473132  w (by decide) (by decide)   hw
  exact ⟨10, l, rfl, h1, h2⟩
theorem mem22 (k : Nat) (t a b i w : Int) (h : isa_Encode.m ⟨22, t, a, b, i⟩ = some (w, 0)) : ∃ s l, selvageref15_sort.m 22 = some s ∧ candR w (k + 10) 22 s = some l ∧ (⟨22, t, a, b, i⟩ : api_Inst) ∈ l := by
  obtain ⟨hF, hR, hw⟩ := encOk22 t a b i w h
  have ht : t = 0 := by omega
  subst ht
  have ha : a = 0 := by omega
  subst ha
  have hb : b = 0 := by omega
  subst hb
  have hi : i = 0 := by omega
  subst hi
  obtain ⟨l, h1, h2⟩ := rI10 k 22 1275068716  w (by decide) (by decide)   hw
  exact ⟨10, l, rfl, h1, h2⟩
theorem mem23 (k : Nat) (t a b i w : Int) (h : isa_Encode.m ⟨23, t, a, b, i⟩ = some (w, 0)) : ∃ s l, selvageref15_sort.m 23 = some s ∧ candR w (k + 10) 23 s = some l ∧ (⟨23, t, a, b, i⟩ : api_Inst) ∈ l := by
  obtain ⟨hF, hR, hw⟩ := encOk23 t a b i w h
  have ht : t = 0 := by omega
  subst ht
  have ha : a = 0 := by omega
  subst ha
  have hb : b = 0 := by omega
  subst hb
  have hi : i = 0 := by omega
  subst hi
  obtain ⟨l, h1, h2⟩ := rI10 k 23 1140850690  w (by decide) (by decide)   hw
  exact ⟨10, l, rfl, h1, h2⟩
theorem memAll (k : Nat) (x : api_Inst) (w : Int) (h : isa_Encode.m x = some (w, 0)) : ∃ s l, selvageref15_sort.m x.Op = some s ∧ candR w (k + 10) x.Op s = some l ∧ x ∈ l := by
  have hin := encIn x w h
  obtain ⟨c, t, a, b, i⟩ := x
  rcases opCases c (by simp only [] at hin; omega) with rfl | rfl | rfl | rfl | rfl | rfl | rfl | rfl | rfl | rfl | rfl | rfl | rfl | rfl | rfl | rfl | rfl | rfl | rfl | rfl | rfl | rfl | rfl
  · exact mem1 k t a b i w h
  · exact mem2 k t a b i w h
  · exact mem3 k t a b i w h
  · exact mem4 k t a b i w h
  · exact mem5 k t a b i w h
  · exact mem6 k t a b i w h
  · exact mem7 k t a b i w h
  · exact mem8 k t a b i w h
  · exact mem9 k t a b i w h
  · exact mem10 k t a b i w h
  · exact mem11 k t a b i w h
  · exact mem12 k t a b i w h
  · exact mem13 k t a b i w h
  · exact mem14 k t a b i w h
  · exact mem15 k t a b i w h
  · exact mem16 k t a b i w h
  · exact mem17 k t a b i w h
  · exact mem18 k t a b i w h
  · exact mem19 k t a b i w h
  · exact mem20 k t a b i w h
  · exact mem21 k t a b i w h
  · exact mem22 k t a b i w h
  · exact mem23 k t a b i w h
theorem decR_hit (k : Nat) (x : api_Inst) (w : Int) (h : isa_Encode.m x = some (w, 0)) : selvageref15_Decode.l0 w (k + 71) x.Op = some (Sum.inr (x, 0)) := by
  obtain ⟨s, l, hs, hl, hx⟩ := memAll (k + 60) x w h
  obtain ⟨l', hl', hlen, hop⟩ := rTot w (k + 60) x.Op s
  rw [hl] at hl'
  obtain rfl := Option.some.inj hl'
  have hin := encIn x w h
  have hl2 := l2S w l hlen l.length (k + 9 - l.length) 0 (by omega)
  rw [show k + 9 - l.length + 61 + l.length = k + 60 + 10 by omega] at hl2
  rw [decR_step w (k + 60 + 10) x.Op, if_pos (by simpa using hin.2), hs, Option.bind_some, hl, Option.bind_some]
  rw [show ((0 : Int)) = ((0 : Nat) : Int) from rfl, hl2]
  cases hf : (l.drop 0).find? (fun x => decide (isa_Encode.m x = some (w, 0))) with
  | none =>
    have := List.find?_eq_none.1 hf x (by simpa using hx)
    simp [h] at this
  | some y =>
    have hy := List.find?_some hf
    have := encInj x y w h (by simpa using hy)
    subst this
    rfl
theorem decR_miss (k : Nat) (n w : Int) (hn : 1 ≤ n ∧ n ≤ 23) (h : ∀ x : api_Inst, x.Op = n → isa_Encode.m x ≠ some (w, 0)) : selvageref15_Decode.l0 w (k + 71) n = selvageref15_Decode.l0 w (k + 70) (n + 1) := by
  obtain ⟨s, hs⟩ := sortSome n hn
  obtain ⟨l, hl, hlen, hop⟩ := rTot w (k + 60) n s
  have hl2 := l2S w l hlen l.length (k + 9 - l.length) 0 (by omega)
  rw [show k + 9 - l.length + 61 + l.length = k + 60 + 10 by omega] at hl2
  have hw : wrap64 (n + 1) = n + 1 := by unfold wrap64; omega
  rw [decR_step w (k + 60 + 10) n, if_pos (by simpa using hn.2), hs, Option.bind_some, hl, Option.bind_some, hw]
  rw [show (l, (0 : Int)) = (l, ((0 : Nat) : Int)) from rfl, hl2]
  have hf : (l.drop 0).find? (fun x => decide (isa_Encode.m x = some (w, 0))) = none := by
    rw [List.find?_eq_none]
    intro x hx
    simpa using h x (hop x (by simpa using hx))
  rw [hf]
  rfl
theorem decR_to (x : api_Inst) (w : Int) (h : isa_Encode.m x = some (w, 0)) : ∀ (j k : Nat) (n : Int), 1 ≤ n → n + j = x.Op → selvageref15_Decode.l0 w (k + 71 + j) n = some (Sum.inr (x, 0)) := by
  have hin := encIn x w h
  intro j
  induction j with
  | zero => intro k n _ hn; have : n = x.Op := by omega
            subst this; exact decR_hit k x w h
  | succ j ih =>
    intro k n h1 hn
    have := decR_miss (k + j + 1) n w ⟨h1, by omega⟩ (fun y hy he => by
      have := encInj x y w h he
      subst this; omega)
    rw [show k + 71 + (j + 1) = k + j + 1 + 71 by omega, this, show k + j + 1 + 70 = k + 71 + j by omega]
    exact ih k (n + 1) (by omega) (by omega)
theorem decR_none (w : Int) (h : ∀ x : api_Inst, isa_Encode.m x ≠ some (w, 0)) : ∀ (j k : Nat) (n : Int), 1 ≤ n → n + j = 24 → selvageref15_Decode.l0 w (k + 71 + j) n = some (Sum.inl ()) := by
  intro j
  induction j with
  | zero => intro k n _ hn
            rw [show k + 71 + 0 = (k + 70) + 1 by omega, decR_step, if_neg (by simp <;> omega)]
  | succ j ih =>
    intro k n h1 hn
    rw [show k + 71 + (j + 1) = k + j + 1 + 71 by omega, decR_miss (k + j + 1) n w ⟨h1, by omega⟩ (fun y _ => h y), show k + j + 1 + 70 = k + 71 + j by omega]
    exact ih k (n + 1) (by omega) (by omega)
theorem decodeR_hit (x : api_Inst) (w : Int) (h : isa_Encode.m x = some (w, 0)) : selvageref15_Decode.m 100 w = some (x, 0) := by
  have hin := encIn x w h
  have := decR_to x w h (x.Op - 1).toNat (29 - (x.Op - 1).toNat) 1 (by decide) (by omega)
  rw [show 29 - (x.Op - 1).toNat + 71 + (x.Op - 1).toNat = 100 by omega] at this
  unfold selvageref15_Decode.m
  rw [this]; rfl
theorem decodeR_none (w : Int) (h : ∀ x : api_Inst, isa_Encode.m x ≠ some (w, 0)) : selvageref15_Decode.m 100 w = some (⟨0, 0, 0, 0, 0⟩, 3) := by
  have := decR_none w h 23 6 1 (by decide) (by decide)
  unfold selvageref15_Decode.m
  rw [show (100 : Nat) = 6 + 71 + 23 from rfl, this]; rfl
theorem pureIsaDecodes (u : Int) {p : Prop} (h : p) : ∃ k, selvagelaw15_IsaDecodes.m k u = some true := by
  refine ⟨100, ?_⟩
  unfold selvagelaw15_IsaDecodes.m
  rw [awake100, Option.bind_some, if_neg (by simp)]
  by_cases hu : ∃ y, isa_Encode.m y = some (u, 0)
  · obtain ⟨y, hy⟩ := hu
    rw [decode_hit y u hy, decodeR_hit y u hy]; simp
  · rw [decode_none u (fun y hy => hu ⟨y, hy⟩), decodeR_none u (fun y hy => hu ⟨y, hy⟩)]; simp
end Go.Proofs.Ytallojficgiemaa.W
