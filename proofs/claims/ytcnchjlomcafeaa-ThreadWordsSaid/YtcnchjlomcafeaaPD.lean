/- Chapter 16: words of instructions as sums, in both encoders. -/
import Derived.Test.YtcnchjlomcafeaaPI
import Derived.Test.YtcnchjlomcafeaaPWord
set_option linter.unusedVariables false
set_option linter.unusedSimpArgs false
namespace Go.Proofs.Ytcnchjlomcafeaa.W
open Go Go.RowKit Go.Proofs.Ytcnchjlomcafeaa.B
theorem putL (v : Int) : ∀ (n : Nat) (w : Int), 0 ≤ w → w < 4294967296 → n ≤ 60 → loop (selvageref15_word_put.l0 v) (w, (n : Int) - 1) = some ((w * 2 ^ n + v % 2 ^ n) % 4294967296) := by
  intro n
  induction n with
  | zero =>
    intro w h0 h1 _
    rw [loop_out (o := w) (by unfold selvageref15_word_put.l0; simp)]
    simp
    omega
  | succ n ih =>
    intro w h0 h1 hn
    have hc : ((n + 1 : Nat) : Int) - 1 = n := by omega
    have h2 : wrap64 ((n : Int) - 1) = (n : Int) - 1 := by unfold wrap64; omega
    have h3 : min ((n : Int) % 18446744073709551616).toNat 64 = n := by omega
    have hstep : selvageref15_word_put.l0 v (w, ((n + 1 : Nat) : Int) - 1) = some (.inl ((w * 2 % 4294967296 + v / 2 ^ n % 2 % 4294967296) % 4294967296, (n : Int) - 1)) := by
      unfold selvageref15_word_put.l0
      simp only [hc]
      rw [if_pos (by simp), h2, h3, bit0]
    rw [loop_in hstep]
    have hb0 := Int.emod_nonneg (v / 2 ^ n) (show (2 : Int) ≠ 0 by decide)
    have hb1 := Int.emod_lt_of_pos (v / 2 ^ n) (show (0 : Int) < 2 by decide)
    generalize hb : v / 2 ^ n % 2 = b at hb0 hb1
    have h4 : (w * 2 % 4294967296 + b % 4294967296) % 4294967296 = (w * 2 + b) % 4294967296 := by omega
    rw [h4, ih _ (Int.emod_nonneg _ (by decide)) (Int.emod_lt_of_pos _ (by decide)) (by omega)]
    congr 1
    have hv : v % 2 ^ (n + 1) = b * 2 ^ n + v % 2 ^ n := by
      have hp : (0 : Int) < 2 ^ n := Int.pow_pos (by decide)
      have e1 := Int.mul_ediv_add_emod v (2 ^ n)
      have e2 := Int.mul_ediv_add_emod (v / 2 ^ n) 2
      rw [hb] at e2
      have e3 : v = (v / 2 ^ n / 2) * 2 ^ (n + 1) + (b * 2 ^ n + v % 2 ^ n) := by
        have h6 : (v / 2 ^ n / 2) * 2 ^ (n + 1) = 2 ^ n * (2 * (v / 2 ^ n / 2)) := by
          rw [Int.pow_succ, Int.mul_comm, Int.mul_assoc]
        have h5 : 2 ^ n * (v / 2 ^ n) = 2 ^ n * (2 * (v / 2 ^ n / 2)) + b * 2 ^ n := by
          rw [Int.mul_comm b, ← Int.mul_add, e2]
        omega
      have hr0 := Int.emod_nonneg v (show (2 : Int) ^ n ≠ 0 by omega)
      have hr1 := Int.emod_lt_of_pos v hp
      have hlt : b * 2 ^ n + v % 2 ^ n < 2 ^ (n + 1) := by
        rw [Int.pow_succ]
        rcases (by omega : b = 0 ∨ b = 1) with rfl | rfl <;> omega
      have hge : 0 ≤ b * 2 ^ n + v % 2 ^ n := by
        rcases (by omega : b = 0 ∨ b = 1) with rfl | rfl <;> omega
      conv => lhs; rw [e3]
      rw [Int.add_comm, Int.add_mul_emod_self_right]
      exact Int.emod_eq_of_lt hge hlt
    rw [hv]
    have h7 : (w * 2 + b) % 4294967296 = w * 2 + b - 4294967296 * ((w * 2 + b) / 4294967296) := by
      have := Int.mul_ediv_add_emod (w * 2 + b) 4294967296
      omega
    rw [h7]
    generalize (w * 2 + b) / 4294967296 = q
    have h8 : (w * 2 + b - 4294967296 * q) * 2 ^ n + v % 2 ^ n = (w * 2 ^ (n + 1) + (b * 2 ^ n + v % 2 ^ n)) + 4294967296 * (-(q * 2 ^ n)) := by
      rw [Int.pow_succ, Int.sub_mul, Int.add_mul, Int.mul_neg, Int.mul_assoc w, Int.mul_comm 2 (2 ^ n), Int.mul_assoc 4294967296]
      omega
    rw [h8, Int.add_mul_emod_self_left]
theorem put_v (n : Nat) (m : Int) (hm : m = (n : Int)) (hn : n ≤ 59) {w : selvageref15_word} {v : Int} (u : Int) (hu : w.w * 2 ^ n + v % 2 ^ n = u := by first | (simp only []; omega) | omega | decide)
    (h : 0 ≤ w.w ∧ w.w < 4294967296 := by first | (simp only []; omega) | omega | decide) (h2 : 0 ≤ u ∧ u < 4294967296 := by omega) :
    selvageref15_word_put.m w v m = some ⟨u, wrap64 (w.bits + m)⟩ := by
  subst hm
  unfold selvageref15_word_put.m
  rw [w64 (show -9223372036854775808 ≤ (n : Int) - 1 ∧ _ by omega), putL v n w.w h.1 h.2 (by omega), hu, Int.emod_eq_of_lt h2.1 h2.2]
  rfl
/-! ### what an instruction that is let in has, whole -/
structure Fit (k : Int) (x : api_Inst) : Prop where
  T : 0 ≤ x.T ∧ x.T < 32
  A : 0 ≤ x.A ∧ x.A < 32
  B : 0 ≤ x.B ∧ x.B < 32
  I : (isa_used.m k).2.2.2.1 ≤ x.Imm ∧ x.Imm ≤ (isa_used.m k).2.2.2.2.1
  T8 : k = 8 → x.T ≤ 3
  k0 : k ≠ 0
  m : Int.tmod x.Imm (isa_used.m k).2.2.2.2.2 = 0
  b : (isa_used.m k).2.2.1 = false → x.B = 0
theorem fit {k : Int} {x : api_Inst} (h : isa_check.m k x = some 0) : Fit k x := by
  obtain ⟨e, he, hk⟩ := check_tot k x
  rw [h] at he
  obtain ⟨k0, kA, kB, kT, k8, kl, kh⟩ := hk (Option.some.inj he).symm
  have hm : (isa_used.m k).2.2.2.2.2 ≠ 0 := by rcases used_mod k with h | h <;> rw [h] <;> decide
  unfold isa_check.m at h
  split at h
  · exact absurd (Option.some.inj h) (by decide)
  rename_i h1
  have hB : (isa_used.m k).2.2.1 = false → x.B = 0 := fun hb => by
    rw [hb] at h1
    simp only [Bool.or_eq_true, not_or] at h1
    simpa using h1.1.2
  refine ⟨kT, kA, kB, ⟨kl, kh⟩, k8, k0, ?_, hB⟩
  have rA := (reg_iff x.A).2 kA
  have rB := (reg_iff x.B).2 kB
  have rT := (reg_iff x.T).2 kT
  rw [rA, rB, rT] at h
  simp only [hm, ne_eq, not_false_eq_true, if_true] at h
  rw [if_neg (by simp; omega)] at h
  by_cases hmod : Int.tmod x.Imm (isa_used.m k).2.2.2.2.2 = 0
  · exact hmod
  · exfalso
    have hne : ∀ c : Bool, ((if c = true then some (!decide (Int.tmod x.Imm (isa_used.m k).2.2.2.2.2 = 0)) else some (!decide (Int.tmod x.Imm (isa_used.m k).2.2.2.2.2 = 0)) : Option Bool).bind fun o_12 => if o_12 = true then (some 2) else (some (0 : Int))) ≠ some 0 := by
      intro c; cases c <;> simp [hmod]
    have c2 : ((!true || decide (x.Imm < (isa_used.m k).2.2.2.1)) || decide (x.Imm > (isa_used.m k).2.2.2.2.1)) = false := by simp; omega
    rw [c2] at h
    exact hne _ h
theorem tm4 (i : Int) : Int.tmod i 4 = 0 ↔ i % 4 = 0 := by rw [← Int.dvd_iff_tmod_eq_zero, Int.dvd_iff_emod_eq_zero]
theorem condB (t : Int) : 0 ≤ isa_cond.m t ∧ isa_cond.m t < 67108864 ∧ isa_cond.m t % 65536 = 0 := by
  unfold isa_cond.m
  repeat' split
  all_goals decide
theorem wl1 (h t a i : Int) (h0 : 0 ≤ h) (h1 : h < 4294967296) (hh : h % 67108864 = 0) (ht : 0 ≤ t ∧ t ≤ 31) (ha : 0 ≤ a ∧ a ≤ 31) : bits .or .u32 h (bits .or .u32 (bits .or .u32 (((t % 4294967296) * 2097152) % 4294967296) (((a % 4294967296) * 65536) % 4294967296)) (bits .and .u32 (i % 4294967296) 65535)) = h + t * 2097152 + a * 65536 + i % 65536 := by
  rw [and_cut 0 16 (by decide) (i % 4294967296) (by omega) (by omega) 65535 (by decide), show ((t % 4294967296) * 2097152) % 4294967296 = t * 2097152 by omega, show ((a % 4294967296) * 65536) % 4294967296 = a * 65536 by omega]
  rw [or_at 21 (by decide) (t * 2097152) (a * 65536) (by omega) (by omega) (by omega) (by omega) (by omega)]
  rw [or_at 16 (by decide) (t * 2097152 + a * 65536) _ (by omega) (by omega) (by omega) (by omega) (by omega)]
  rw [or_at 26 (by decide) h _ (by omega) (by omega) (by omega) (by omega) (by omega)]
  omega

theorem wl2 (h t a i : Int) (h0 : 0 ≤ h) (h1 : h < 4294967296) (hh : h % 67108864 = 0) (ht : 0 ≤ t ∧ t ≤ 31) (ha : 0 ≤ a ∧ a ≤ 31) (hi : 0 ≤ i ∧ i ≤ 65535) : bits .or .u32 h (bits .or .u32 (bits .or .u32 (((a % 4294967296) * 2097152) % 4294967296) (((t % 4294967296) * 65536) % 4294967296)) (i % 4294967296)) = h + a * 2097152 + t * 65536 + i := by
  rw [show i % 4294967296 = i by omega, show ((t % 4294967296) * 65536) % 4294967296 = t * 65536 by omega, show ((a % 4294967296) * 2097152) % 4294967296 = a * 2097152 by omega]
  rw [or_at 21 (by decide) (a * 2097152) (t * 65536) (by omega) (by omega) (by omega) (by omega) (by omega)]
  rw [or_at 16 (by decide) (a * 2097152 + t * 65536) _ (by omega) (by omega) (by omega) (by omega) (by omega)]
  rw [or_at 26 (by decide) h _ (by omega) (by omega) (by omega) (by omega) (by omega)]
  omega

theorem wl3 (h t a i : Int) (h0 : 0 ≤ h) (h1 : h < 4294967296) (hh : h % 67108864 = 4) (ht : 0 ≤ t ∧ t ≤ 31) (ha : 0 ≤ a ∧ a ≤ 31) (hi : 0 ≤ i ∧ i ≤ 63) : bits .or .u32 h (bits .or .u32 (bits .or .u32 (bits .or .u32 (bits .or .u32 (bits .or .u32 (((a % 4294967296) * 2097152) % 4294967296) (((t % 4294967296) * 65536) % 4294967296)) (((bits .and .u32 (i % 4294967296) 31) * 2048) % 4294967296)) (((bits .and .u32 ((63 - (i % 4294967296)) % 4294967296) 31) * 64) % 4294967296)) (((((63 - (i % 4294967296)) % 4294967296) / 32) * 32) % 4294967296)) ((((i % 4294967296) / 32) * 2) % 4294967296)) = h + a * 2097152 + t * 65536 + i % 32 * 2048 + (63 - i) % 32 * 64 + (63 - i) / 32 * 32 + i / 32 * 2 := by
  rw [show i % 4294967296 = i by omega, show (63 - i) % 4294967296 = 63 - i by omega, and_cut 0 5 (by decide) i (by omega) (by omega) 31 (by decide), and_cut 0 5 (by decide) (63 - i) (by omega) (by omega) 31 (by decide), show ((t % 4294967296) * 65536) % 4294967296 = t * 65536 by omega, show ((a % 4294967296) * 2097152) % 4294967296 = a * 2097152 by omega]
  rw [show (i / 2 ^ 0 % 2 ^ 5 * 2 ^ 0 * 2048) % 4294967296 = i % 32 * 2048 by omega, show ((63 - i) / 2 ^ 0 % 2 ^ 5 * 2 ^ 0 * 64) % 4294967296 = (63 - i) % 32 * 64 by omega, show ((63 - i) / 32 * 32) % 4294967296 = (63 - i) / 32 * 32 by omega, show (i / 32 * 2) % 4294967296 = i / 32 * 2 by omega]
  rw [or_at 21 (by decide) (a * 2097152) (t * 65536) (by omega) (by omega) (by omega) (by omega) (by omega)]
  rw [or_at 16 (by decide) (a * 2097152 + t * 65536) _ (by omega) (by omega) (by omega) (by omega) (by omega)]
  rw [or_at 11 (by decide) (a * 2097152 + t * 65536 + i % 32 * 2048) _ (by omega) (by omega) (by omega) (by omega) (by omega)]
  rw [or_at 6 (by decide) (a * 2097152 + t * 65536 + i % 32 * 2048 + (63 - i) % 32 * 64) _ (by omega) (by omega) (by omega) (by omega) (by omega)]
  rw [or_at 5 (by decide) (a * 2097152 + t * 65536 + i % 32 * 2048 + (63 - i) % 32 * 64 + (63 - i) / 32 * 32) _ (by omega) (by omega) (by omega) (by omega) (by omega)]
  rcases (by omega : i / 32 = 0 ∨ i / 32 = 1) with e | e
  · rw [or_sum 5 (by decide) h _ (by omega) (by omega) (by omega) (by omega) 4 0 (by omega) (by decide) (by omega) (by decide)]
    omega
  · rw [or_sum 5 (by decide) h _ (by omega) (by omega) (by omega) (by omega) 4 2 (by omega) (by decide) (by omega) (by decide)]
    omega

theorem wl4 (h t a b : Int) (h0 : 0 ≤ h) (h1 : h < 4294967296) (l : Nat) (hh : h % 67108864 = l) (hl : l < 2048) (ht : 0 ≤ t ∧ t ≤ 31) (ha : 0 ≤ a ∧ a ≤ 31) (hb : 0 ≤ b ∧ b ≤ 31) : bits .or .u32 h (bits .or .u32 (bits .or .u32 (((t % 4294967296) * 2097152) % 4294967296) (((a % 4294967296) * 65536) % 4294967296)) (((b % 4294967296) * 2048) % 4294967296)) = h + t * 2097152 + a * 65536 + b * 2048 := by
  rw [show ((t % 4294967296) * 2097152) % 4294967296 = t * 2097152 by omega, show ((a % 4294967296) * 65536) % 4294967296 = a * 65536 by omega, show ((b % 4294967296) * 2048) % 4294967296 = b * 2048 by omega]
  rw [or_at 21 (by decide) (t * 2097152) (a * 65536) (by omega) (by omega) (by omega) (by omega) (by omega)]
  rw [or_at 16 (by decide) (t * 2097152 + a * 65536) _ (by omega) (by omega) (by omega) (by omega) (by omega)]
  rw [or_sum 11 (by decide) h _ (by omega) (by omega) (by omega) (by omega) l 0 (by omega) (by omega) (by omega) (by simp)]
  omega

theorem wl5 (h t a i : Int) (h0 : 0 ≤ h) (h1 : h < 4294967296) (hh : h % 67108864 = 0) (ht : 0 ≤ t ∧ t ≤ 31) (ha : 0 ≤ a ∧ a ≤ 31) (hi : i % 4 = 0) : bits .or .u32 h (bits .or .u32 (bits .or .u32 (((t % 4294967296) * 2097152) % 4294967296) (((a % 4294967296) * 65536) % 4294967296)) (bits .and .u32 (i % 4294967296) 65532)) = h + t * 2097152 + a * 65536 + i % 65536 := by
  rw [and_cut 2 14 (by decide) (i % 4294967296) (by omega) (by omega) 65532 (by decide), show ((t % 4294967296) * 2097152) % 4294967296 = t * 2097152 by omega, show ((a % 4294967296) * 65536) % 4294967296 = a * 65536 by omega]
  rw [or_at 21 (by decide) (t * 2097152) (a * 65536) (by omega) (by omega) (by omega) (by omega) (by omega)]
  rw [or_at 16 (by decide) (t * 2097152 + a * 65536) _ (by omega) (by omega) (by omega) (by omega) (by omega)]
  rw [or_at 26 (by decide) h _ (by omega) (by omega) (by omega) (by omega) (by omega)]
  omega

theorem wl6 (h a b : Int) (h0 : 0 ≤ h) (h1 : h < 4294967296) (hh : h % 2097152 = 0) (ha : 0 ≤ a ∧ a ≤ 31) (hb : 0 ≤ b ∧ b ≤ 31) : bits .or .u32 h (bits .or .u32 (((a % 4294967296) * 65536) % 4294967296) (((b % 4294967296) * 2048) % 4294967296)) = h + a * 65536 + b * 2048 := by
  rw [show ((a % 4294967296) * 65536) % 4294967296 = a * 65536 by omega, show ((b % 4294967296) * 2048) % 4294967296 = b * 2048 by omega]
  rw [or_at 16 (by decide) (a * 65536) (b * 2048) (by omega) (by omega) (by omega) (by omega) (by omega)]
  rw [or_at 21 (by decide) h _ (by omega) (by omega) (by omega) (by omega) (by omega)]
  omega

theorem wl7 (h a i : Int) (h0 : 0 ≤ h) (h1 : h < 4294967296) (hh : h % 2097152 = 0) (ha : 0 ≤ a ∧ a ≤ 31) : bits .or .u32 h (bits .or .u32 (((a % 4294967296) * 65536) % 4294967296) (bits .and .u32 (i % 4294967296) 65535)) = h + a * 65536 + i % 65536 := by
  rw [and_cut 0 16 (by decide) (i % 4294967296) (by omega) (by omega) 65535 (by decide), show ((a % 4294967296) * 65536) % 4294967296 = a * 65536 by omega]
  rw [or_at 16 (by decide) (a * 65536) _ (by omega) (by omega) (by omega) (by omega) (by omega)]
  rw [or_at 21 (by decide) h _ (by omega) (by omega) (by omega) (by omega) (by omega)]
  omega

theorem wl8 (h c i : Int) (h0 : 0 ≤ h) (h1 : h < 4294967296) (hh : h % 67108864 = 0) (hc : 0 ≤ c ∧ c < 67108864 ∧ c % 65536 = 0) (hi : i % 4 = 0) : bits .or .u32 h (bits .or .u32 c (bits .and .u32 (i % 4294967296) 65532)) = h + c + i % 65536 := by
  rw [and_cut 2 14 (by decide) (i % 4294967296) (by omega) (by omega) 65532 (by decide)]
  rw [or_at 16 (by decide) c _ (by omega) (by omega) (by omega) (by omega) (by omega)]
  rw [or_at 26 (by decide) h _ (by omega) (by omega) (by omega) (by omega) (by omega)]
  omega

theorem wl9 (h i : Int) (h0 : 0 ≤ h) (h1 : h < 4294967296) (hh : h % 67108864 = 0) (hi : i % 4 = 0) : bits .or .u32 h (bits .and .u32 (i % 4294967296) 67108860) = h + i % 67108864 := by
  rw [and_cut 2 24 (by decide) (i % 4294967296) (by omega) (by omega) 67108860 (by decide)]
  rw [or_at 26 (by decide) h _ (by omega) (by omega) (by omega) (by omega) (by omega)]
  omega

/-! ### an instruction's word -/
def wd (k h : Int) (x : api_Inst) : Int :=
  if k = 1 ∨ k = 5 then h + x.T * 2097152 + x.A * 65536 + x.Imm % 65536
  else if k = 2 then h + x.A * 2097152 + x.T * 65536 + x.Imm
  else if k = 3 then h + x.A * 2097152 + x.T * 65536 + x.Imm % 32 * 2048 + (63 - x.Imm) % 32 * 64 + (63 - x.Imm) / 32 * 32 + x.Imm / 32 * 2
  else if k = 4 then h + x.T * 2097152 + x.A * 65536 + x.B * 2048
  else if k = 6 then h + x.A * 65536 + x.B * 2048
  else if k = 7 then h + x.A * 65536 + x.Imm % 65536
  else if k = 8 then h + isa_cond.m x.T + x.Imm % 65536
  else if k = 9 then h + x.Imm % 67108864 else h
def inrI (o : Unit ⊕ Int) : Int := match o with | .inl _ => -1 | .inr r => r
theorem pick_of {op : Int} {l m : List Int} {b : Int} (h : (loopF (selvageref15_pick.l0 op l m) 10 0).map inrI = some b) : selvageref15_pick.m op l m = some b := by
  unfold selvageref15_pick.m
  cases hl : loopF (selvageref15_pick.l0 op l m) 10 0 with
  | none => rw [hl] at h; cases h
  | some o =>
    rw [hl] at h
    rw [loop_of_F 10 hl, Option.bind_some]
    cases o <;> exact h
def P5 (o : Option Int) (f : Int → Prop) : Prop := ∃ p, o = some p ∧ f p
/-- What heads there are, and how the document's numbers make them. -/
structure Hd (op k h : Int) : Prop where
  r : 0 ≤ h ∧ h < 4294967296
  z : k = 1 ∨ k = 2 ∨ k = 5 ∨ k = 8 ∨ k = 9 → h % 67108864 = 0
  k3 : k = 3 → h = 2013265924
  k4 : k = 4 → h % 67108864 < 2048 ∧ P5 (selvageref15_pick.m op [6, 7, 8, 9, 12, 13, 14, 15] [266, 40, 233, 489, 21, 149, 84, 214]) fun p => h = 2080374784 + p * 2 + (if op = 15 then 1 else 0) ∧ 0 ≤ p ∧ p < 1024
  k6 : k = 6 → h = 2082471936
  k7 : k = 7 → h = 740294656
  k8 : k = 8 → h = 1073741824
  k9 : k = 9 → h = 1207959552
  k1 : k = 1 → P5 (selvageref15_pick.m op [1, 2] [14, 15]) fun p => h = p * 67108864
  k2 : k = 2 → P5 (selvageref15_pick.m op [3, 4] [24, 25]) fun p => h = p * 67108864
  k5 : k = 5 → P5 (selvageref15_pick.m op [10, 11] [58, 62]) fun p => h = p * 67108864
  k10 : k = 10 → op = 20 ∧ h = 2080375980 ∨ op = 21 ∧ h = 2082473132 ∨ op = 22 ∧ h = 1275068716 ∨ op = 23 ∧ h = 1140850690
theorem hd (op : Int) (h : 1 ≤ op ∧ op ≤ 23) : Hd op (isa_formOf.m op).1 (isa_formOf.m op).2 := by
  rcases (by omega : op = 1 ∨ op = 2 ∨ op = 3 ∨ op = 4 ∨ op = 5 ∨ op = 6 ∨ op = 7 ∨ op = 8 ∨ op = 9 ∨ op = 10 ∨ op = 11 ∨ op = 12 ∨ op = 13 ∨ op = 14 ∨ op = 15 ∨ op = 16 ∨ op = 17 ∨ op = 18 ∨ op = 19 ∨ op = 20 ∨ op = 21 ∨ op = 22 ∨ op = 23) with
    rfl | rfl | rfl | rfl | rfl | rfl | rfl | rfl | rfl | rfl | rfl | rfl | rfl | rfl | rfl | rfl | rfl | rfl | rfl | rfl | rfl | rfl | rfl
  all_goals refine ⟨by decide, by decide, by decide, ?_, by decide, by decide, by decide, by decide, ?_, ?_, ?_, by decide⟩
  all_goals first
    | exact fun e => absurd e (by decide)
    | exact fun _ => ⟨_, pick_of rfl, by decide⟩
    | exact fun _ => ⟨by decide, _, pick_of rfl, by decide, by decide, by decide⟩
theorem isaW {x : api_Inst} (h : isa_check.m (isa_formOf.m x.Op).1 x = some 0) : isa_Encode.m x = some (wd (isa_formOf.m x.Op).1 (isa_formOf.m x.Op).2 x, 0) := by
  have F := fit h
  have H := hd x.Op (formOf_in _ F.k0)
  have hk := formOf_le x.Op
  unfold isa_Encode.m
  rw [h, Option.bind_some, if_neg (by simp)]
  generalize (isa_formOf.m x.Op).1 = k at *
  generalize (isa_formOf.m x.Op).2 = hh at *
  have hr := H.r
  have hT := F.T
  have hA := F.A
  have hB := F.B
  have hI := F.I
  have hm := F.m
  have k0 := F.k0
  have go : ∀ {o : Option Int} {v : Int}, o = some v → (o.bind fun o_21 => some (o_21, (0 : Int))) = some (v, 0) := fun e => by rw [e]; rfl
  refine go ?_
  rcases (by omega : k = 1 ∨ k = 2 ∨ k = 3 ∨ k = 4 ∨ k = 5 ∨ k = 6 ∨ k = 7 ∨ k = 8 ∨ k = 9 ∨ k = 10) with rfl | rfl | rfl | rfl | rfl | rfl | rfl | rfl | rfl | rfl
  · exact congrArg some (wl1 hh x.T x.A x.Imm hr.1 hr.2 (H.z (by decide)) (by omega) (by omega))
  · change (0 : Int) ≤ _ ∧ _ ≤ (65535 : Int) at hI
    exact congrArg some (wl2 hh x.T x.A x.Imm hr.1 hr.2 (H.z (by decide)) (by omega) (by omega) hI)
  · change (0 : Int) ≤ _ ∧ _ ≤ (63 : Int) at hI
    exact congrArg some (wl3 hh x.T x.A x.Imm hr.1 hr.2 (by rw [H.k3 rfl]; decide) (by omega) (by omega) hI)
  · exact congrArg some (wl4 hh x.T x.A x.B hr.1 hr.2 (hh % 67108864).toNat (by omega) (by have := (H.k4 rfl).1; omega) (by omega) (by omega) (by omega))
  · exact congrArg some (wl5 hh x.T x.A x.Imm hr.1 hr.2 (H.z (by decide)) (by omega) (by omega) ((tm4 _).1 hm))
  · exact congrArg some (wl6 hh x.A x.B hr.1 hr.2 (by rw [H.k6 rfl]; decide) (by omega) (by omega))
  · exact congrArg some (wl7 hh x.A x.Imm hr.1 hr.2 (by rw [H.k7 rfl]; decide) (by omega))
  · exact congrArg some (wl8 hh (isa_cond.m x.T) x.Imm hr.1 hr.2 (H.z (by decide)) (condB _) ((tm4 _).1 hm))
  · exact congrArg some (wl9 hh x.Imm hr.1 hr.2 (H.z (by decide)) ((tm4 _).1 hm))
  · rfl
end Go.Proofs.Ytcnchjlomcafeaa.W
