/- Chapter 16: lists of places as masks. -/
import Derived.Test.YtcnchjlomcafeaaPT
import Derived.Test.YtcnchjlomcafeaaPBits
import Derived.Test.YtcnchjlomcafeaaG4
set_option linter.unusedVariables false
set_option linter.unusedSimpArgs false
namespace Go.Proofs.Ytcnchjlomcafeaa.W
open Go Go.RowKit Go.Proofs.Ytcnchjlomcafeaa.B
theorem pigeon : ∀ (n : Nat) (l : List Int), l.Nodup → (∀ k ∈ l, 0 ≤ k ∧ k < n) → l.length ≤ n := by
  intro n
  induction n with
  | zero => intro l _ h; cases l with
    | nil => simp
    | cons a r => have := h a (by simp); omega
  | succ n ih =>
    intro l hn h
    by_cases hm : (n : Int) ∈ l
    · have h1 := List.length_erase_of_mem hm
      have h2 := ih (l.erase (n : Int)) (hn.erase _) (fun k hk => by
        have h3 := (hn.mem_erase_iff).1 hk
        have := h k h3.2; have := h3.1; omega)
      have : 0 < l.length := List.length_pos_of_mem hm
      omega
    · have := ih l hn (fun k hk => by
        have := h k hk
        have : k ≠ n := fun e => hm (e ▸ hk)
        omega)
      omega
/-- A mask, and the list of its places. -/
structure HL (h : Int) (l : List Int) : Prop where
  W : W64 h
  nd : l.Nodup
  el : ∀ k ∈ l, 0 ≤ k ∧ k < 64
  bit : ∀ k : Nat, k < 64 → bt h k = decide ((k : Int) ∈ l)
theorem HL.len {h : Int} {l : List Int} (v : HL h l) : l.length ≤ 64 := pigeon 64 l v.nd v.el
theorem HL.nil : HL 0 [] := ⟨W_zero, List.nodup_nil, fun k h => (by cases h), fun k _ => (by rw [bt_zero]; rfl)⟩
theorem HL.one {i : Nat} (h : i < 64) : HL (b1 (i : Int)) [(i : Int)] :=
  ⟨b1_W _, by simp, fun k hk => (by simp at hk; omega), fun k hk => (by rw [bt_b1 h]; simp; omega)⟩
theorem bt_ext {a b : Int} (ha : W64 a) (hb : W64 b) (h : ∀ k : Nat, k < 64 → bt a k = bt b k) : a = b := by
  have h1 : a.toNat = b.toNat := by
    apply Nat.eq_of_testBit_eq
    intro k
    by_cases hk : k < 64
    · exact h k hk
    · have h2 : ∀ n : Nat, n < 2 ^ 64 → n.testBit k = false := fun n hn => Nat.testBit_lt_two_pow (Nat.lt_of_lt_of_le hn (Nat.pow_le_pow_right (by decide) (by omega)))
      rw [h2 _ (by have := ha.1; have := ha.2; omega), h2 _ (by have := hb.1; have := hb.2; omega)]
  have := ha.1; have := hb.1; omega
/-! ### the mask -/
def mkA (m : Int) (l : List Int) : Int := l.foldl (fun m k => bits .or .u64 m (b1 k)) m
theorem mkA_W {l : List Int} : ∀ {m : Int}, W64 m → W64 (mkA m l) := by
  induction l with
  | nil => intro m h; exact h
  | cons a r ih => intro m h; exact ih (or_W h (b1_W a))
theorem mkA_bt {l : List Int} : ∀ {m : Int}, W64 m → (∀ k ∈ l, 0 ≤ k ∧ k < 64) → ∀ k : Nat, k < 64 → bt (mkA m l) k = (bt m k || decide ((k : Int) ∈ l)) := by
  induction l with
  | nil => intro m h _ k _; simp [mkA]
  | cons a r ih =>
    intro m h hl k hk
    have ha := hl a (by simp)
    show bt (mkA (bits .or .u64 m (b1 a)) r) k = _
    rw [ih (or_W h (b1_W a)) (fun k hk => hl k (by simp [hk])) k hk, bt_or h (b1_W a)]
    obtain ⟨n, rfl⟩ := Int.eq_ofNat_of_zero_le ha.1
    rw [bt_b1 (by omega), Bool.or_assoc]
    congr 1
    by_cases e : n = k
    · simp [e]
    · have : ¬ (k : Int) = (n : Int) := by omega
      simp [e, this]
theorem mask_eq {h : Int} {l : List Int} (v : HL h l) : selvageref16_mask.m l = some h := by
  unfold selvageref16_mask.m
  have hlen := v.len
  have key : loop (selvageref16_mask.l0 l) (0, 0) = some (mkA 0 l) := by
    refine loop_to _ (fun s : Int × Int => 0 ≤ s.2 ∧ s.2 ≤ (l.length : Int) ∧ mkA s.1 (l.drop s.2.toNat) = mkA 0 l) (fun s : Int × Int => ((l.length : Int) - s.2).toNat) ?_ (0, 0) ⟨by simp, by simp, rfl⟩
    rintro ⟨m, i⟩ ⟨h0, h1, h2⟩
    simp only at h0 h1 h2
    unfold selvageref16_mask.l0
    simp only []
    by_cases hi : i < l.length
    · left
      rw [if_pos (by simpa using hi), if_pos ⟨h0, hi⟩]
      refine ⟨(bits .or .u64 m (b1 (gi l i)), i + 1), ?_, ⟨by simp only []; omega, by simp only []; omega, ?_⟩, by simp only []; omega⟩
      · rw [w64 (show _ ∧ _ by omega)]; rfl
      · obtain ⟨n, rfl⟩ := Int.eq_ofNat_of_zero_le h0
        simp only [Int.toNat_natCast] at h2 ⊢
        rw [show ((n : Int) + 1).toNat = n + 1 by omega]
        rw [List.drop_eq_getElem_cons (by omega)] at h2
        rw [gi_nat _ _ (by omega)]
        exact h2
    · right
      rw [if_neg (by simpa using hi)]
      rw [List.drop_eq_nil_of_le (by omega)] at h2
      rw [show mkA m [] = m from rfl] at h2
      rw [h2]; rfl
  rw [key, Option.bind_some]
  congr 1
  refine bt_ext (mkA_W W_zero) v.W fun k hk => ?_
  rw [mkA_bt W_zero v.el k hk, v.bit k hk, bt_zero, Bool.false_or]
/-! ### two lists joined -/
theorem join_l1 (a b : List Int) (x : List Int × Int) (ha : a.length ≤ 64) (h0 : 0 ≤ x.2) (h1 : x.2 < b.length) : loop (selvageref16_join.l1 a b x) (false, 0) = some (decide (gi b x.2 ∈ a)) := by
  refine loop_to _ (fun s : Bool × Int => 0 ≤ s.2 ∧ s.2 ≤ (a.length : Int) ∧ s.1 = decide (gi b x.2 ∈ a.take s.2.toNat)) (fun s : Bool × Int => ((a.length : Int) - s.2).toNat) ?_ (false, 0) ⟨by simp, by simp, by simp⟩
  rintro ⟨c, i⟩ ⟨g0, g1, g2⟩
  simp only at g0 g1 g2
  unfold selvageref16_join.l1
  simp only []
  by_cases hi : i < a.length
  · left
    rw [if_pos (by simpa using hi)]
    refine ⟨(c || decide (gi a i = gi b x.2), i + 1), ?_, ⟨by simp only []; omega, by simp only []; omega, ?_⟩, by simp only []; omega⟩
    · have e := w64 (show -9223372036854775808 ≤ i + 1 ∧ i + 1 < 9223372036854775808 by omega)
      cases c
      · rw [if_neg (by decide), if_pos ⟨g0, hi⟩, if_pos ⟨h0, h1⟩, e]; simp
      · rw [if_pos rfl, e]; rfl
    · obtain ⟨n, rfl⟩ := Int.eq_ofNat_of_zero_le g0
      simp only [Int.toNat_natCast] at g2 ⊢
      rw [show ((n : Int) + 1).toNat = n + 1 by omega, List.take_succ_eq_append_getElem (by omega), gi_nat a n (by omega), g2]
      simp only [List.mem_append, List.mem_singleton, Bool.decide_or]
      congr 1
      exact decide_eq_decide.2 eq_comm
  · right
    rw [if_neg (by simpa using hi), g2, List.take_of_length_le (by omega)]
    rfl
theorem join_eq {h h' : Int} {a b : List Int} (va : HL h a) (vb : HL h' b) : ∃ r, selvageref16_join.m a b = some r ∧ HL (uni h h') r := by
  have la := va.len
  have lb := vb.len
  let f := fun v => !decide (v ∈ a)
  have key : loop (selvageref16_join.l0 a b) (([] : List Int) ++ a, 0) = some (a ++ b.filter f) := by
    refine loop_to _ (fun s : List Int × Int => 0 ≤ s.2 ∧ s.2 ≤ (b.length : Int) ∧ s.1 = a ++ (b.take s.2.toNat).filter f) (fun s : List Int × Int => ((b.length : Int) - s.2).toNat) ?_ _ ⟨by simp, by simp, by simp⟩
    rintro ⟨c, i⟩ ⟨g0, g1, g2⟩
    simp only at g0 g1 g2
    unfold selvageref16_join.l0
    simp only []
    by_cases hi : i < b.length
    · left
      rw [if_pos (by simpa using hi), join_l1 a b (c, i) la g0 hi, Option.bind_some]
      refine ⟨(a ++ (b.take (i + 1).toNat).filter f, i + 1), ?_, ⟨by simp only []; omega, by simp only []; omega, rfl⟩, by simp only []; omega⟩
      have hl : c.length ≤ 128 := by
        rw [g2, List.length_append]
        have := List.length_filter_le f (b.take i.toNat)
        rw [List.length_take] at this
        omega
      have e := w64 (show -9223372036854775808 ≤ i + 1 ∧ i + 1 < 9223372036854775808 by omega)
      rw [e]
      have e2 : ((if (!decide (gi b i ∈ a)) = true then (if 0 ≤ i ∧ i < (b.length : Int) then (if (c.length + ([(gi b i)] : List Int).length) * 8 ≤ 140737488355328 then (some (c ++ ([(gi b i)] : List Int))) else none) else none) else (some c)) : Option (List Int)) = some (if gi b i ∈ a then c else c ++ [gi b i]) := by
        by_cases hm : gi b i ∈ a
        · rw [if_neg (by simp [hm]), if_pos hm]
        · rw [if_pos (by simp [hm]), if_neg hm, if_pos ⟨g0, hi⟩, if_pos (by simp only [List.length_singleton]; omega)]
      simp only []
      rw [e2, Option.bind_some]
      obtain ⟨n, rfl⟩ := Int.eq_ofNat_of_zero_le g0
      simp only [Int.toNat_natCast] at g2 ⊢
      rw [show ((n : Int) + 1).toNat = n + 1 by omega, List.take_succ_eq_append_getElem (by omega), List.filter_append, gi_nat b n (by omega), g2]
      by_cases hm : b[n]'(by omega) ∈ a
      · simp [f, hm]
      · simp [f, hm]
    · right
      rw [if_neg (by simpa using hi), g2, List.take_of_length_le (by omega)]
      rfl
  refine ⟨a ++ b.filter f, ?_, or_W va.W vb.W, ?_, ?_, ?_⟩
  · unfold selvageref16_join.m
    rw [if_pos (by simp; omega), key]; rfl
  · rw [List.nodup_append]
    refine ⟨va.nd, vb.nd.filter _, fun x hx y hy e => ?_⟩
    subst e
    simp [f] at hy
    exact hy.2 hx
  · intro k hk
    rcases List.mem_append.1 hk with hk | hk
    · exact va.el k hk
    · exact vb.el k (List.mem_filter.1 hk).1
  · intro k hk
    rw [show uni h h' = bits .or .u64 h h' from rfl, bt_or va.W vb.W, va.bit k hk, vb.bit k hk]
    by_cases ha : (k : Int) ∈ a
    · simp [ha]
    · simp [ha, f]
end Go.Proofs.Ytcnchjlomcafeaa.W
