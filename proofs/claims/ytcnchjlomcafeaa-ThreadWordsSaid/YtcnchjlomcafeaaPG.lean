/- Chapter 16: both decoders answer the same. -/
import Derived.Test.YtcnchjlomcafeaaPF
set_option linter.unusedVariables false
set_option linter.unusedSimpArgs false
namespace Go.Proofs.Ytcnchjlomcafeaa.W
open Go Go.RowKit Go.Proofs.Ytcnchjlomcafeaa.B
theorem formOf_pos (op : Int) (h : 1 ≤ op ∧ op ≤ 23) : 1 ≤ (isa_formOf.m op).1 := by
  rcases (by omega : op = 1 ∨ op = 2 ∨ op = 3 ∨ op = 4 ∨ op = 5 ∨ op = 6 ∨ op = 7 ∨ op = 8 ∨ op = 9 ∨ op = 10 ∨ op = 11 ∨ op = 12 ∨ op = 13 ∨ op = 14 ∨ op = 15 ∨ op = 16 ∨ op = 17 ∨ op = 18 ∨ op = 19 ∨ op = 20 ∨ op = 21 ∨ op = 22 ∨ op = 23) with
    rfl | rfl | rfl | rfl | rfl | rfl | rfl | rfl | rfl | rfl | rfl | rfl | rfl | rfl | rfl | rfl | rfl | rfl | rfl | rfl | rfl | rfl | rfl <;> decide
theorem rl1 (w n : Int) : loop (selvageref15_Decode.l1 w n) (([] : List api_Inst), 0) = some [⟨n, 0, 0, 0, wrap64 (4 * (selvageref15_signed.m (selvageref15_bits.m w 16 14) 14))⟩, ⟨n, 1, 0, 0, wrap64 (4 * (selvageref15_signed.m (selvageref15_bits.m w 16 14) 14))⟩, ⟨n, 2, 0, 0, wrap64 (4 * (selvageref15_signed.m (selvageref15_bits.m w 16 14) 14))⟩, ⟨n, 3, 0, 0, wrap64 (4 * (selvageref15_signed.m (selvageref15_bits.m w 16 14) 14))⟩] := by
  rw [loop_in (s' := ([⟨n, 0, 0, 0, wrap64 (4 * (selvageref15_signed.m (selvageref15_bits.m w 16 14) 14))⟩], 1)) (by rfl),
    loop_in (s' := ([⟨n, 0, 0, 0, wrap64 (4 * (selvageref15_signed.m (selvageref15_bits.m w 16 14) 14))⟩, ⟨n, 1, 0, 0, wrap64 (4 * (selvageref15_signed.m (selvageref15_bits.m w 16 14) 14))⟩], 2)) (by rfl),
    loop_in (s' := ([⟨n, 0, 0, 0, wrap64 (4 * (selvageref15_signed.m (selvageref15_bits.m w 16 14) 14))⟩, ⟨n, 1, 0, 0, wrap64 (4 * (selvageref15_signed.m (selvageref15_bits.m w 16 14) 14))⟩, ⟨n, 2, 0, 0, wrap64 (4 * (selvageref15_signed.m (selvageref15_bits.m w 16 14) 14))⟩], 3)) (by rfl),
    loop_in (s' := ([⟨n, 0, 0, 0, wrap64 (4 * (selvageref15_signed.m (selvageref15_bits.m w 16 14) 14))⟩, ⟨n, 1, 0, 0, wrap64 (4 * (selvageref15_signed.m (selvageref15_bits.m w 16 14) 14))⟩, ⟨n, 2, 0, 0, wrap64 (4 * (selvageref15_signed.m (selvageref15_bits.m w 16 14) 14))⟩, ⟨n, 3, 0, 0, wrap64 (4 * (selvageref15_signed.m (selvageref15_bits.m w 16 14) 14))⟩], 4)) (by rfl)]
  exact loop_out rfl
theorem il1 (w : Int) : ∃ t, loop (isa_Decode.l1 w) 0 = some t ∧ (0 ≤ t ∧ t ≤ 3) ∧ ∀ t', 0 ≤ t' ∧ t' ≤ 3 → isa_cond.m t' = bits .and .u32 w 67043328 → t' = t := by
  have inn : ∀ i j : Int, 0 ≤ i → i < 3 → i + 1 = j → isa_cond.m i ≠ bits .and .u32 w 67043328 → isa_Decode.l1 w i = some (.inl j) := fun i j h0 h hj h1 => by
    subst hj
    unfold isa_Decode.l1
    rw [if_pos (by simpa using h), Option.bind_some, if_pos (by simpa using h1), w64 (show _ ∧ _ by omega)]
  have out : ∀ i : Int, (i < 3 → isa_cond.m i = bits .and .u32 w 67043328) → isa_Decode.l1 w i = some (.inr i) := fun i h => by
    unfold isa_Decode.l1
    by_cases h3 : i < 3
    · rw [if_pos (by simpa using h3), Option.bind_some, if_neg (by simpa using h h3)]; rfl
    · rw [if_neg (by simpa using h3), Option.bind_some, if_neg (by simp)]; rfl
  generalize bits .and .u32 w 67043328 = v at *
  have c0 : isa_cond.m 0 = 25165824 := rfl
  have c1 : isa_cond.m 1 = 8388608 := rfl
  have c2 : isa_cond.m 2 = 25296896 := rfl
  have c3 : isa_cond.m 3 = 8519680 := rfl
  have fin : ∀ t t' : Int, 0 ≤ t' ∧ t' ≤ 3 → isa_cond.m t' = v → (t = 0 → v = 25165824) → (t = 1 → v = 8388608) → (t = 2 → v = 25296896) → (t = 3 → v ≠ 25165824 ∧ v ≠ 8388608 ∧ v ≠ 25296896) → (0 ≤ t ∧ t ≤ 3) → t' = t := fun t t' h1 h2 => by
    rcases (by omega : t' = 0 ∨ t' = 1 ∨ t' = 2 ∨ t' = 3) with rfl | rfl | rfl | rfl <;> rcases (by omega : v = 25165824 ∨ v = 8388608 ∨ v = 25296896 ∨ v = 8519680) with e | e | e | e <;> omega
  by_cases h0 : isa_cond.m 0 = v
  · exact ⟨0, loop_out (out 0 fun _ => h0), by decide, fun t' h1 h2 => fin 0 t' h1 h2 (by omega) (by omega) (by omega) (by omega) (by decide)⟩
  rw [loop_in (inn 0 1 (by decide) (by decide) rfl h0)]
  by_cases h1 : isa_cond.m 1 = v
  · exact ⟨1, loop_out (out 1 fun _ => h1), by decide, fun t' g1 g2 => fin 1 t' g1 g2 (by omega) (by omega) (by omega) (by omega) (by decide)⟩
  rw [loop_in (inn 1 2 (by decide) (by decide) rfl h1)]
  by_cases h2 : isa_cond.m 2 = v
  · exact ⟨2, loop_out (out 2 fun _ => h2), by decide, fun t' g1 g2 => fin 2 t' g1 g2 (by omega) (by omega) (by omega) (by omega) (by decide)⟩
  rw [loop_in (inn 2 3 (by decide) (by decide) rfl h2)]
  exact ⟨3, loop_out (out 3 fun h => absurd h (by decide)), by decide, fun t' g1 g2 => fin 3 t' g1 g2 (by omega) (by omega) (by omega) (by omega) (by decide)⟩
set_option maxHeartbeats 1000000 in
theorem dec_step {w n : Int} (w0 : 0 ≤ w) (w1 : w < 4294967296) (hn : 1 ≤ n ∧ n ≤ 23) : ∃ o, isa_Decode.l0 w n = some (StI n o) ∧ selvageref15_Decode.l0 w n = some (StI n o) := by
  have H := hd n hn
  have kl := (formOf_le n).2
  have kp := formOf_pos n hn
  have PW : ∀ y : api_Inst, y.Op = n → isW w y = true → Fit (isa_formOf.m n).1 y ∧ w = wd (isa_formOf.m n).1 (isa_formOf.m n).2 y := fun y e h => by
    obtain ⟨h1, h2⟩ := isW_wd h
    rw [e] at h1 h2
    exact ⟨fit h1, h2⟩
  have top : ∀ y : api_Inst, y.Op = n → isW w y = true → bits .xor .u32 w (isa_formOf.m n).2 / 67108864 = 0 := fun y e h =>
    (xor_top w _ w0 w1 H.r.1 H.r.2).2 (wd_top (PW y e h).1 H kl kp (PW y e h).2)
  unfold isa_Decode.l0 selvageref15_Decode.l0
  have hd : decide (n ≤ 23) = true := by simpa using hn.2
  rw [if_pos hd, if_pos hd, sort_eq, Option.bind_some]
  generalize (isa_formOf.m n).1 = k at *
  generalize (isa_formOf.m n).2 = hh at *
  have sg : ∀ {c r : api_Inst}, c = r → (∀ y ∈ [r], isW w y = true → y = c) ∧ c ∈ [r] := fun e => ⟨fun y hy _ => (List.mem_singleton.1 hy).trans e.symm, List.mem_singleton.2 e⟩
  rcases (by omega : k = 1 ∨ k = 2 ∨ k = 3 ∨ k = 4 ∨ k = 5 ∨ k = 6 ∨ k = 7 ∨ k = 8 ∨ k = 9 ∨ k = 10) with rfl | rfl | rfl | rfl | rfl | rfl | rfl | rfl | rfl | rfl
  · have e : (⟨n, wrap64 (bits .and .u32 (w / 2097152) 31), wrap64 (bits .and .u32 (w / 65536) 31), 0, wrap64 (wrap16 w)⟩ : api_Inst) = ⟨n, selvageref15_bits.m w 6 5, selvageref15_bits.m w 11 5, 0, selvageref15_signed.m (selvageref15_bits.m w 16 16) 16⟩ := by
      rw [cu21 w w0 w1, cu16 w w0 w1, cuS w w0 w1, bt6_5 w w0 w1, bt11_5 w w0 w1, bt16_16 w w0 w1, Int.ediv_one, sg16 _ (by omega) (by omega)]
    exact ⟨_, finI hn (top _ rfl), finR hn (by simp) (sg e).1 (sg e).2⟩
  · have e : (⟨n, wrap64 (bits .and .u32 (w / 65536) 31), wrap64 (bits .and .u32 (w / 2097152) 31), 0, wrap64 (bits .and .u32 w 65535)⟩ : api_Inst) = ⟨n, selvageref15_bits.m w 11 5, selvageref15_bits.m w 6 5, 0, selvageref15_bits.m w 16 16⟩ := by
      rw [cu21 w w0 w1, cu16 w w0 w1, cu0 w w0 w1, bt6_5 w w0 w1, bt11_5 w w0 w1, bt16_16 w w0 w1, Int.ediv_one]
    exact ⟨_, finI hn (top _ rfl), finR hn (by simp) (sg e).1 (sg e).2⟩
  · refine ⟨_, finI hn (top _ rfl), finR hn (by simp) ?_ ?_⟩
    all_goals rw [cu21 w w0 w1, cu16 w w0 w1, cuX w w0 w1, bt6_5 w w0 w1, bt11_5 w w0 w1, bt16_5 w w0 w1, l11, w64 (show -9223372036854775808 ≤ w % 65536 / 2048 + 32 ∧ w % 65536 / 2048 + 32 < 9223372036854775808 by omega)]
    · have e3 := H.k3 rfl
      intro y hy hp
      have hx : y.Op = n := by rcases List.mem_cons.1 hy with e | e; · rw [e]
                               · rw [List.mem_singleton.1 e]
      have hwd := (PW y hx hp).2
      change w = hh + y.A * 2097152 + y.T * 65536 + y.Imm % 32 * 2048 + (63 - y.Imm) % 32 * 64 + (63 - y.Imm) / 32 * 32 + y.Imm / 32 * 2 at hwd
      have hI := (PW y hx hp).1.I
      change (0 : Int) ≤ _ ∧ _ ≤ (63 : Int) at hI
      have hb : w % 65536 / 2 % 2 = y.Imm / 32 := by omega
      rw [hb]
      rcases List.mem_cons.1 hy with e | e
      · have : y.Imm / 32 = 0 := by rw [e]; simp only []; omega
        rw [this, e]; simp
      · have e := List.mem_singleton.1 e
        have : y.Imm / 32 = 1 := by rw [e]; simp only []; omega
        rw [this, e]; simp
    · rcases (by omega : w % 65536 / 2 % 2 = 0 ∨ w % 65536 / 2 % 2 = 1) with e | e <;> rw [e] <;> simp
  · have e : (⟨n, wrap64 (bits .and .u32 (w / 2097152) 31), wrap64 (bits .and .u32 (w / 65536) 31), wrap64 (bits .and .u32 (w / 2048) 31), 0⟩ : api_Inst) = ⟨n, selvageref15_bits.m w 6 5, selvageref15_bits.m w 11 5, selvageref15_bits.m w 16 5, 0⟩ := by
      rw [cu21 w w0 w1, cu16 w w0 w1, cu11 w w0 w1, bt6_5 w w0 w1, bt11_5 w w0 w1, bt16_5 w w0 w1]
    exact ⟨_, finI hn (top _ rfl), finR hn (by simp) (sg e).1 (sg e).2⟩
  · have e : (⟨n, wrap64 (bits .and .u32 (w / 2097152) 31), wrap64 (bits .and .u32 (w / 65536) 31), 0, wrap64 (wrap16 (bits .and .u32 w 65532))⟩ : api_Inst) = ⟨n, selvageref15_bits.m w 6 5, selvageref15_bits.m w 11 5, 0, wrap64 (4 * (selvageref15_signed.m (selvageref15_bits.m w 16 14) 14))⟩ := by
      rw [cu21 w w0 w1, cu16 w w0 w1, cu4 w w0 w1, bt6_5 w w0 w1, bt11_5 w w0 w1, bt16_14 w w0 w1, sg14 _ (by omega) (by omega), w64 (show _ ∧ _ by omega)]
      congr 1; omega
    exact ⟨_, finI hn (top _ rfl), finR hn (by simp) (sg e).1 (sg e).2⟩
  · have e : (⟨n, 0, wrap64 (bits .and .u32 (w / 65536) 31), wrap64 (bits .and .u32 (w / 2048) 31), 0⟩ : api_Inst) = ⟨n, 0, selvageref15_bits.m w 11 5, selvageref15_bits.m w 16 5, 0⟩ := by
      rw [cu16 w w0 w1, cu11 w w0 w1, bt11_5 w w0 w1, bt16_5 w w0 w1]
    exact ⟨_, finI hn (top _ rfl), finR hn (by simp) (sg e).1 (sg e).2⟩
  · have e : (⟨n, 0, wrap64 (bits .and .u32 (w / 65536) 31), 0, wrap64 (wrap16 w)⟩ : api_Inst) = ⟨n, 0, selvageref15_bits.m w 11 5, 0, selvageref15_signed.m (selvageref15_bits.m w 16 16) 16⟩ := by
      rw [cu16 w w0 w1, cuS w w0 w1, bt11_5 w w0 w1, bt16_16 w w0 w1, Int.ediv_one, sg16 _ (by omega) (by omega)]
    exact ⟨_, finI hn (top _ rfl), finR hn (by simp) (sg e).1 (sg e).2⟩
  · obtain ⟨t, ht, tr, tu⟩ := il1 w
    have ei : wrap64 (wrap16 (bits .and .u32 w 65532)) = wrap64 (4 * (selvageref15_signed.m (selvageref15_bits.m w 16 14) 14)) := by
      rw [cu4 w w0 w1, bt16_14 w w0 w1, sg14 _ (by omega) (by omega), w64 (show _ ∧ _ by omega)]; omega
    rw [ht, Option.bind_some, rl1, Option.bind_some]
    refine ⟨_, finI hn (top _ rfl), finR hn (by simp) ?_ ?_⟩
    · have e8 := H.k8 rfl
      rw [ei]
      generalize wrap64 (4 * (selvageref15_signed.m (selvageref15_bits.m w 16 14) 14)) = im
      have one : ∀ t', 0 ≤ t' ∧ t' ≤ 3 → isW w ⟨n, t', 0, 0, im⟩ = true → (⟨n, t', 0, 0, im⟩ : api_Inst) = ⟨n, t, 0, 0, im⟩ := fun t' h hp => by
        have hwd := (PW _ rfl hp).2
        change w = hh + isa_cond.m t' + im % 65536 at hwd
        have hc := condB t'
        have : t' = t := tu t' h (by rw [cuC w w0 w1]; omega)
        rw [this]
      intro y hy hp
      simp only [List.mem_cons, List.not_mem_nil, or_false] at hy
      rcases hy with rfl | rfl | rfl | rfl
      · exact one 0 (by decide) hp
      · exact one 1 (by decide) hp
      · exact one 2 (by decide) hp
      · exact one 3 (by decide) hp
    · rw [ei]
      rcases (by omega : t = 0 ∨ t = 1 ∨ t = 2 ∨ t = 3) with rfl | rfl | rfl | rfl <;> simp
  · have e : (⟨n, 0, 0, 0, wrap64 ((wrap32 (((bits .and .u32 w 67108860) * 64) % 4294967296)) / 64)⟩ : api_Inst) = ⟨n, 0, 0, 0, wrap64 (4 * (selvageref15_signed.m (selvageref15_bits.m w 6 24) 24))⟩ := by
      rw [cu26 w w0 w1, bt6_24 w w0 w1, sg24 _ (by omega) (by omega), w64 (show _ ∧ _ by omega)]
      congr 1; omega
    exact ⟨_, finI hn (top _ rfl), finR hn (by simp) (sg e).1 (sg e).2⟩
  · exact ⟨_, finI hn (top _ rfl), finR hn (by simp) (sg rfl).1 (sg rfl).2⟩
theorem dec_loop {w : Int} (w0 : 0 ≤ w) (w1 : w < 4294967296) : ∀ (j : Nat) (n : Int), 1 ≤ n → n + j = 24 → ∃ r, loop (isa_Decode.l0 w) n = some r ∧ loop (selvageref15_Decode.l0 w) n = some r := by
  intro j
  induction j with
  | zero =>
    intro n h0 h
    refine ⟨.inl (), loop_out ?_, loop_out ?_⟩
    · unfold isa_Decode.l0; rw [if_neg (by simp; omega)]; rfl
    · unfold selvageref15_Decode.l0; rw [if_neg (by simp; omega)]; rfl
  | succ j ih =>
    intro n h0 h
    obtain ⟨o, h1, h2⟩ := dec_step (n := n) w0 w1 (by omega)
    cases o with
    | none => rw [loop_in h1, loop_in h2]; exact ih (n + 1) (by omega) (by omega)
    | some x => exact ⟨_, loop_out h1, loop_out h2⟩
theorem dec_eq {w : Int} (w0 : 0 ≤ w) (w1 : w < 4294967296) : ∃ r, isa_Decode.m w = some r ∧ selvageref15_Decode.m w = some r := by
  obtain ⟨r, h1, h2⟩ := dec_loop w0 w1 23 1 (by decide) (by decide)
  unfold isa_Decode.m selvageref15_Decode.m
  rw [h1, h2]
  cases r
  · exact ⟨_, rfl, rfl⟩
  · exact ⟨_, rfl, rfl⟩
end Go.Proofs.Ytcnchjlomcafeaa.W
