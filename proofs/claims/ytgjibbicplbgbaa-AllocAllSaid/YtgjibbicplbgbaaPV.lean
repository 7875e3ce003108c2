/- PV: several texts in one. -/
import Derived.Test.YtgjibbicplbgbaaLB
import Derived.Laws.BitsAllLaws
import Derived.Test.YtgjibbicplbgbaaPT
import Derived.Test.YtgjibbicplbgbaaPP
import Derived.Test.YtgjibbicplbgbaaQH
set_option linter.unusedVariables false
set_option linter.unusedSimpArgs false
set_option linter.unusedSectionVars false
namespace Go.Proofs.Ytgjibbicplbgbaa.B
open Go Go.RowKit
/-- A number of 64 bits. -/
def W64 (a : Int) : Prop := 0 ≤ a ∧ a < 18446744073709551616
/-- Is a bit of it 1? -/
def bt (a : Int) (k : Nat) : Bool := a.toNat.testBit k
theorem or_W {a b : Int} (ha : W64 a) (hb : W64 b) : W64 (bits .or .u64 a b) := by
  rw [u64_or a b ha.1 ha.2 hb.1 hb.2]
  have : a.toNat ||| b.toNat < 2 ^ 64 := Nat.or_lt_two_pow (by have := ha.1; have := ha.2; omega) (by have := hb.1; have := hb.2; omega)
  exact ⟨by omega, by omega⟩
theorem bt_or {a b : Int} (ha : W64 a) (hb : W64 b) (k : Nat) : bt (bits .or .u64 a b) k = (bt a k || bt b k) := by
  rw [u64_or a b ha.1 ha.2 hb.1 hb.2]
  simp [bt]
theorem W_zero : W64 0 := ⟨by decide, by decide⟩
theorem bt_zero (k : Nat) : bt 0 k = false := by simp [bt]
/-- The bit of a place. -/
def b1 (i : Int) : Int := (1 * 2 ^ (min (i % 18446744073709551616).toNat 64)) % 18446744073709551616
theorem b1_eq {i : Nat} (h : i < 64) : b1 (i : Int) = ((2 ^ i : Nat) : Int) := by
  unfold b1
  have h1 : min (((i : Int)) % 18446744073709551616).toNat 64 = i := by omega
  have h2 : 2 ^ i < 2 ^ 64 := Nat.pow_lt_pow_right (by decide) h
  rw [h1, Int.one_mul]
  have h3 : ((2 : Int) ^ i) = ((2 ^ i : Nat) : Int) := by simp
  rw [h3]
  generalize 2 ^ i = m at h2 ⊢
  omega
theorem b1_W (i : Int) : W64 (b1 i) := by unfold b1; exact ⟨by omega, by omega⟩
theorem bt_b1 {i : Nat} (h : i < 64) (k : Nat) : bt (b1 (i : Int)) k = decide (i = k) := by
  rw [b1_eq h]; simp only [bt, Int.toNat_natCast, Nat.testBit_two_pow]
/-- How a program asks for a bit. -/
theorem ask_bit {a : Int} (ha : W64 a) {k : Int} (h0 : 0 ≤ k) (h1 : k < 64) : decide (bits .and .u64 (a / 2 ^ (min (k % 18446744073709551616).toNat 64)) 1 = 1) = bt a k.toNat := by
  obtain ⟨n, rfl⟩ := Int.eq_ofNat_of_zero_le ha.1
  obtain ⟨k, rfl⟩ := Int.eq_ofNat_of_zero_le h0
  have hm : min (((k : Int)) % 18446744073709551616).toNat 64 = k := by omega
  have hd : (n : Int) / 2 ^ k = ((n / 2 ^ k : Nat) : Int) := by simp
  have hn : n < 18446744073709551616 := by have := ha.2; omega
  have hle : n / 2 ^ k ≤ n := Nat.div_le_self _ _
  rw [hm, hd]
  have key : bits .and .u64 ((n / 2 ^ k : Nat) : Int) 1 = ((n / 2 ^ k % 2 : Nat) : Int) := by
    generalize n / 2 ^ k = m at hle
    rw [show (1 : Int) = ((1 : Nat) : Int) from rfl, u64_and_nat m 1 (by omega) (by omega), Nat.and_one_is_mod]
  rw [key]
  simp only [bt, Int.toNat_natCast, Nat.testBit, Nat.shiftRight_eq_div_pow]
  have e2 : 1 &&& n / 2 ^ k = n / 2 ^ k % 2 := by rw [Nat.and_comm]; exact Nat.and_one_is_mod _
  rw [e2]
  rcases Nat.mod_two_eq_zero_or_one (n / 2 ^ k) with h | h <;> simp [h]
theorem andNot_zero {a b : Int} (ha : W64 a) (hb : W64 b) (h : ∀ k, bt a k = true → bt b k = true) : bits .andNot .u64 a b = 0 := by
  rw [u64_andNot a b ha.1 ha.2 hb.1 hb.2]
  have : a.toNat &&& (18446744073709551615 - b.toNat) = 0 := by
    apply Nat.eq_of_testBit_eq
    intro k
    rw [Nat.testBit_and, Nat.zero_testBit]
    have hb2 : b.toNat < 2 ^ 64 := by have := hb.1; have := hb.2; omega
    have := Nat.testBit_two_pow_sub_succ hb2 k
    rw [show 2 ^ 64 - (b.toNat + 1) = 18446744073709551615 - b.toNat by omega] at this
    rw [this]
    cases h1 : a.toNat.testBit k
    · simp
    · have := h k h1
      simp only [bt] at this
      simp [this]
  rw [this]; rfl
end Go.Proofs.Ytgjibbicplbgbaa.B
namespace Go.Proofs.Ytgjibbicplbgbaa.W
open Go Go.RowKit Go.Proofs.Ytgjibbicplbgbaa Go.Proofs.Ytgjibbicplbgbaa.X
open Go.Proofs.Ytgjibbicplbgbaa.B (wr aget aset loop loop_in loop_out loop_tot)

/-- Those of the first i from which one comes to j. -/
def proc (code : List api_Ins) (i j : Nat) : List Nat := (List.range i).filter fun k => isP code k j
theorem proc_succ (code : List api_Ins) (i j : Nat) : proc code (i + 1) j = proc code i j ++ if isP code i j = true then [i] else [] := by
  unfold proc
  rw [List.range_succ, List.filter_append]
  congr 1
  by_cases h : isP code i j = true
  · rw [if_pos h, List.filter_cons_of_pos (p := fun k => isP code k j) h]; rfl
  · rw [if_neg h, List.filter_cons_of_neg (p := fun k => isP code k j) h]; rfl
theorem proc_len (code : List api_Ins) (i j : Nat) : (proc code i j).length ≤ i := by
  have := List.length_filter_le (fun k => isP code k j) (List.range i)
  simpa [proc] using this
theorem proc_preds {code : List api_Ins} {i : Nat} : ∀ {n : Nat}, i ≤ n → (∀ k : Nat, i ≤ k → k < n → isP code k i = false) → proc code n i = preds code i
  | n, h, hk => by
    induction n with
    | zero => have : i = 0 := by omega
              subst this; rfl
    | succ n ih =>
      by_cases e : i = n + 1
      · subst e; rfl
      · rw [proc_succ, hk n (by omega) (by omega), ih (by omega) fun k h1 h2 => hk k h1 (by omega)]; simp
structure RJ (code : List api_Ins) (l : List api_Loc) (i : Nat) (s : (List Int) × (List Int) × (List (Int × Int))) : Prop where
  l1 : s.1.length = code.length
  l2 : s.2.1.length = code.length
  ap : ∀ j : Nat, j < i → AP code l j
  wy : ∀ j : Nat, j < code.length → gi s.1 j = (proc code i j).length
  fr : ∀ j : Nat, j < code.length → ∀ k : Nat, (proc code i j).getLast? = some k → gi s.2.1 j = (k : Int)
  m1 : ∀ t v, aget s.2.2 t = some v → ∃ j : Nat, j < i ∧ mks (gi code j) = true ∧ (gi code j).D = t ∧ v = (j : Int)
  m2 : ∀ j : Nat, j < i → mks (gi code j) = true → aget s.2.2 (gi code j).D ≠ none
theorem tree_l1 (code : List api_Ins) (l : List api_Loc) (hn : code.length ≤ 400) (hl : l.length ≤ 16) (h18 : (gi code (code.length - 1)).Op = 18) :
    Tot (fun o => match o with | .inl _ => ¬ ∀ i : Nat, i < code.length → AP code l i | .inr s => RJ code l code.length s) (loop (tree_Right.l1 code l) ((List.replicate code.length (0 : Int), List.replicate code.length (0 : Int), ([] : List (Int × Int)), 0) : (List Int) × (List Int) × (List (Int × Int)) × Int)) := by
  refine loop_T code.length (fun i s => RJ code l i (s.1, s.2.1, s.2.2.1) ∧ s.2.2.2 = (i : Int)) (fun i s hi hs => ?_) (fun s hs => ?_) ⟨⟨by simp, by simp, fun j hj => by omega, fun j hj => ?_, fun j hj k hk => (by simp [proc] at hk), fun t v h => (by cases h), fun j hj => by omega⟩, rfl⟩
  · obtain ⟨w, f, m, k⟩ := s
    obtain ⟨hI, rfl⟩ := hs
    obtain ⟨c1, c2, c3, c4, c5, c6, c7⟩ := hI
    simp only [] at c1 c2 c3 c4 c5 c6 c7
    unfold tree_Right.l1
    dsimp only
    refine .tt (by omega) ?_
    refine Tot.gd (by omega) ?_
    refine Tot.let fun x hx => ?_
    refine Tot.let fun r hr => ?_
    have hsh : r.1 = sh x.Op := by rw [hr]; rfl
    have hop : r.2 = isOp x.Op := by rw [hr]; rfl
    refine .bind (R := fun b => b = false ↔ (isOp x.Op = true ∧ TempP (sh x.Op).d x.D ∧ TempP (sh x.Op).a x.A ∧ TempP (sh x.Op).b x.B ∧ ((sh x.Op).k = false → x.K = 0) ∧ PlP (sh x.Op) x l)) ?_ fun b1 hb1 => ?_
    · simp only [letC]
      rw [hsh, hop]
      have hp := places_iff (sh x.Op) x l hl
      refine .ite (fun h0 => .ite (fun h1 => .ite (fun h2 => .ite (fun h3 => ?_) fun h3 => .some ?_) fun h2 => .some ?_) fun h1 => .some ?_) fun h0 => .some ?_
      · rw [temp_iff] at h1 h2 h3
        refine .ite (fun h4 => .bind hp fun y hy => .some ?_) fun h4 => .ite (fun h5 => .bind hp fun y hy => .some ?_) fun h5 => .some ?_
        · simp only [h0, h1, h2, h3, h4, true_and, ← hy]; cases y <;> simp
        · simp only [h0, h1, h2, h3, h5, true_and, implies_true, ← hy]; cases y <;> simp
        · simp [h0, h4, h5]
      · rw [temp_iff] at h3; simp [h3]
      · rw [temp_iff] at h2; simp [h2]
      · rw [temp_iff] at h1; simp [h1]
      · simp [h0]
    refine .ite (fun h => .some ?_) fun h => ?_
    · simp only []
      intro c
      have p := (c i hi).1
      rw [← hx] at p
      have := hb1.2 ⟨p.op, p.d, p.a, p.b, p.k, p.pl⟩
      rw [h] at this; cases this
    obtain ⟨q1, q2, q3, q4, q5, q6⟩ := hb1.1 (by simpa using h)
    rw [hsh]
    refine .bind (R := fun b => b = false ↔ (((sh x.Op).to_ = true → (i : Int) + 1 < x.To ∧ x.To < code.length) ∧ ((sh x.Op).to_ = false → x.To = 0))) ?_ fun b2 hb2 => ?_
    · refine .ite (fun h => ?_) fun h => .some ?_
      · refine Tot.let fun v1 e1 => ?_
        rw [wr64 (by omega)] at e1
        refine .ite (fun h1 => .some ?_) fun h1 => .ite (fun h2 => .some ?_) fun h2 => .some ?_
        · simp [h]; omega
        · simp [h]; omega
        · simp [h]; omega
      · simp [h]
    refine .ite (fun h => .some ?_) fun h => ?_
    · simp only []
      intro c
      have p := (c i hi).1
      rw [← hx] at p
      have := hb2.2 ⟨p.to1, p.to0⟩
      rw [h] at this; cases this
    obtain ⟨q7, q8⟩ := hb2.1 (by simpa using h)
    have hPP : PP (gi code i) i code.length l := by rw [← hx]; exact ⟨q1, q2, q3, q4, q5, q6, q7, q8⟩
    -- arrays
    let T : Nat → Prop := fun j => (sh x.Op).to_ = true ∧ x.To = (j : Int)
    have hP : ∀ j : Nat, isP code i j = true ↔ ((i + 1 = j ∧ x.Op ≠ 18) ∨ T j) := fun j => by
      unfold isP
      rw [← hx]
      simp [T]
    refine .bind (R := fun p : (List Int) × (List Int) => p.1.length = code.length ∧ p.2.length = code.length ∧ ∀ j : Nat, j < code.length → (T j → gi p.1 j = (proc code i j).length + 1 ∧ gi p.2 j = i) ∧ (¬ T j → gi p.1 j = (proc code i j).length ∧ gi p.2 j = gi f j)) ?_ fun p hp => ?_
    · refine .ite (fun h => ?_) fun h => .some ⟨c1, c2, fun j hj => ⟨fun t => absurd t.1 h, fun _ => ⟨c4 j hj, rfl⟩⟩⟩
      have := q7 h
      refine Tot.gd (by omega) ?_
      refine Tot.gd (by omega) ?_
      refine Tot.let fun v1 e1 => ?_
      refine Tot.let fun v2 e2 => ?_
      refine Tot.gd (by omega) ?_
      refine Tot.let fun v3 e3 => ?_
      have hw := c4 x.To.toNat (by omega)
      rw [show ((x.To.toNat : Nat) : Int) = x.To by omega] at hw
      have hpl := proc_len code i x.To.toNat
      rw [hw] at e1
      rw [wr64 (by omega)] at e2
      refine .some ⟨by rw [e2]; simp [c1], by rw [e3]; simp [c2], fun j hj => ?_⟩
      rw [e2, e3]
      simp only []
      rw [gi_set (by omega) (by omega) (by omega), gi_set (by omega) (by omega) (by omega)]
      constructor
      · intro t
        have : ((x.To.toNat : Nat) : Int) = (j : Int) := by have := t.2; omega
        rw [if_pos this, if_pos this, e1]
        have e : x.To.toNat = j := by omega
        rw [e]; exact ⟨rfl, rfl⟩
      · intro t
        have : ¬ ((x.To.toNat : Nat) : Int) = (j : Int) := fun e => t ⟨h, by omega⟩
        rw [if_neg this, if_neg this]
        exact ⟨c4 j hj, rfl⟩
    obtain ⟨p1, p2, p3⟩ := hp
    have hlast : ¬ x.Op = 18 → (i : Int) + 1 < code.length := by
      intro hne
      rcases Nat.lt_or_ge (i + 1) code.length with c | c
      · omega
      · exfalso
        apply hne
        rw [hx, show ((i : Nat) : Int) = code.length - 1 by omega]
        exact h18
    refine .bind (R := fun p : (List Int) × (List Int) => p.1.length = code.length ∧ p.2.length = code.length ∧ ∀ j : Nat, j < code.length → (isP code i j = true → gi p.1 j = (proc code i j).length + 1 ∧ gi p.2 j = i) ∧ (¬ isP code i j = true → gi p.1 j = (proc code i j).length ∧ gi p.2 j = gi f j)) ?_ fun q hq => ?_
    · refine .ite (fun h => .some ⟨p1, p2, fun j hj => ?_⟩) fun h => ?_
      · have : isP code i j = true ↔ T j := by rw [hP]; simp [h]
        rw [this]; exact p3 j hj
      have := hlast h
      have hnT : ¬ T (i + 1) := fun t => by have := q7 t.1; have := t.2; omega
      refine Tot.let fun v1 e1 => ?_
      rw [wr64 (by omega)] at e1
      refine Tot.gd (by omega) ?_
      refine Tot.gd (by omega) ?_
      refine Tot.let fun v2 e2 => ?_
      refine Tot.let fun v3 e3 => ?_
      refine Tot.let fun v4 e4 => ?_
      rw [wr64 (by omega)] at e4
      refine Tot.gd (by omega) ?_
      refine Tot.gd (by omega) ?_
      refine Tot.let fun v5 e5 => ?_
      have hw := ((p3 (i + 1) (by omega)).2 hnT).1
      have hpl := proc_len code i (i + 1)
      rw [e1, show (i : Int) + 1 = ((i + 1 : Nat) : Int) by omega, hw] at e2
      rw [wr64 (by omega)] at e3
      refine .some ⟨by rw [e3]; simp [p1], by rw [e5]; simp [p2], fun j hj => ?_⟩
      rw [e3, e5, e1, e4]
      simp only []
      rw [gi_set (by omega) (by omega) (by omega), gi_set (by omega) (by omega) (by omega)]
      by_cases e : i + 1 = j
      · have c : ((((i : Int) + 1).toNat : Nat) : Int) = (j : Int) := by omega
        rw [if_pos c, if_pos c, e2]
        subst e
        exact ⟨fun _ => ⟨rfl, rfl⟩, fun n => absurd ((hP _).2 (.inl ⟨rfl, h⟩)) n⟩
      · have c : ¬ ((((i : Int) + 1).toNat : Nat) : Int) = (j : Int) := by omega
        rw [if_neg c, if_neg c]
        have : isP code i j = true ↔ T j := by rw [hP]; simp [e]
        rw [this]; exact p3 j hj
    obtain ⟨r1, r2, r3⟩ := hq
    have hmk : mks x = (sh x.Op).d := mks_sh x
    have wyN : ∀ j : Nat, j < code.length → gi q.1 j = (proc code (i + 1) j).length := fun j hj => by
      rw [proc_succ, List.length_append]
      by_cases h : isP code i j = true
      · rw [if_pos h, ((r3 j hj).1 h).1]; simp
      · rw [if_neg h, ((r3 j hj).2 h).1]; simp
    have frN : ∀ j : Nat, j < code.length → ∀ k : Nat, (proc code (i + 1) j).getLast? = some k → gi q.2 j = (k : Int) := fun j hj k hk => by
      rw [proc_succ] at hk
      by_cases h : isP code i j = true
      · rw [if_pos h] at hk
        simp at hk; subst hk
        exact ((r3 j hj).1 h).2
      · rw [if_neg h, List.append_nil] at hk
        rw [((r3 j hj).2 h).2]; exact c5 j hj k hk
    refine .ite (fun hd => ?_) fun hd => ?_
    · cases hm : aget m x.D with
      | some v =>
        refine .some ?_
        simp only []
        intro c
        obtain ⟨j, hj, hmj, hD, _⟩ := c6 _ _ hm
        exact (c i hi).2 (by rw [← hx, hmk]; exact hd) j hj hmj (by rw [hD, hx])
      | none =>
        simp only []
        refine Tot.let fun v1 e1 => ?_
        refine Tot.let fun v2 e2 => ?_
        rw [wr64 (by omega)] at e2
        subst e1
        refine .some ⟨⟨r1, r2, fun j hj => ?_, wyN, frN, fun t v h => ?_, fun j hj hmj => ?_⟩, by simp only []; omega⟩
        · by_cases e : j = i
          · subst e
            refine ⟨hPP, fun _ k hk hmk e => ?_⟩
            have := c7 k hk hmk
            rw [e, ← hx, hm] at this
            exact this rfl
          · exact c3 j (by omega)
        · simp only [] at h
          rw [B.aget_aset] at h
          by_cases e : t = x.D
          · rw [if_pos e] at h; cases h; exact ⟨i, by omega, by rw [← hx, hmk]; exact hd, by rw [← hx, e], rfl⟩
          · rw [if_neg e] at h
            obtain ⟨j, hj, hv⟩ := c6 t v h
            exact ⟨j, by omega, hv⟩
        · simp only []
          rw [B.aget_aset]
          by_cases e : (gi code j).D = x.D
          · rw [if_pos e]; simp
          · rw [if_neg e]
            have hji : j ≠ i := by rintro rfl; exact e (by rw [hx])
            exact c7 j (by omega) hmj
    · refine Tot.let fun v1 e1 => ?_
      rw [wr64 (by omega)] at e1
      have hno : mks (gi code i) = false := by rw [← hx, hmk]; simpa using hd
      refine .some ⟨⟨r1, r2, fun j hj => ?_, wyN, frN, fun t v h => ?_, fun j hj hmj => ?_⟩, by simp only []; omega⟩
      · by_cases e : j = i
        · subst e; exact ⟨hPP, fun c => by rw [hno] at c; cases c⟩
        · exact c3 j (by omega)
      · obtain ⟨j, hj, hv⟩ := c6 t v h
        exact ⟨j, by omega, hv⟩
      · have hji : j ≠ i := by rintro rfl; rw [hno] at hmj; cases hmj
        exact c7 j (by omega) hmj
  · obtain ⟨w, f, m, k⟩ := s
    obtain ⟨hI, rfl⟩ := hs
    unfold tree_Right.l1
    refine .ff (by simp only []; omega) (.some hI)
  · simp only []
    rw [gi_replicate (by omega) (by omega)]; rfl
theorem above_iff {code : List api_Ins} {l : List api_Loc} {s : (List Int) × (List Int) × (List (Int × Int))} (hn : code.length ≤ 400) (h : RJ code l code.length s) (hpr : ∀ i : Nat, i < code.length → proc code code.length i = preds code i) {i : Nat} (hi : i < code.length) (hw : ∀ j : Nat, 0 < j → j ≤ i → (preds code j).length = 1) (t : Int) :
    Tot (fun b => b = true ↔ UA code i t) (tree_above.m t (i : Int) s.2.2 s.2.1 code.length) := by
  unfold tree_above.m
  cases hm : aget s.2.2 t with
  | none =>
    refine .some ⟨fun e => (by cases e), fun ⟨k, hk, hmk, hD⟩ => ?_⟩
    have := hk.lt
    have := h.m2 k (by omega) hmk
    rw [hD, hm] at this
    exact absurd rfl this
  | some v =>
    obtain ⟨j, hj, hmj, hD, rfl⟩ := h.m1 t v hm
    have hua : UA code i t ↔ Anc code i j := by
      constructor
      · rintro ⟨k, hk, hmk, hD'⟩
        have := hk.lt
        have : k = j := by
          rcases Nat.lt_trichotomy k j with c | c | c
          · exact absurd (hD'.trans hD.symm) ((h.ap j hj).2 hmj k c hmk)
          · exact c
          · exact absurd (hD.trans hD'.symm) ((h.ap k (by omega)).2 hmk j c hmj)
        subst this; exact hk
      · exact fun c => ⟨j, c, hmj, hD⟩
    have hl2 := h.l2
    have key : ∀ q : Nat, q ≤ i → Tot (fun o => o = .inl () ↔ Anc code q j) (loop (tree_above.l1 s.2.1 code.length (j : Int)) (q : Int)) := by
      intro q
      induction q using Nat.strongRecOn with
      | ind q ih =>
        intro hq
        rcases Nat.lt_or_ge j q with hlt | hge
        · obtain ⟨p, hp⟩ : ∃ p, preds code q = [p] := by
            have := hw q (by omega) hq
            match preds code q, this with
            | [p], _ => exact ⟨p, rfl⟩
          have hpq := preds_lt hp
          have hfr := h.fr q (by omega) p (by rw [hpr q (by omega), hp]; rfl)
          have hf : tree_above.l1 s.2.1 code.length (j : Int) (q : Int) = if p = j then some (.inr (.inl ())) else some (.inl (p : Int)) := by
            unfold tree_above.l1
            rw [if_pos (by omega), if_pos (by omega), if_pos (by omega)]
            simp only [letC]
            rw [hfr]
            by_cases e : p = j
            · rw [if_pos e, if_pos (by omega)]
            · rw [if_neg e, if_neg (by omega)]
          by_cases e : p = j
          · rw [if_pos e] at hf
            rw [loop_out hf]
            exact .some ⟨fun _ => (Anc.iff hp j).2 (.inl e), fun _ => rfl⟩
          · rw [if_neg e] at hf
            rw [loop_in hf]
            refine (ih p hpq (by omega)).mono fun o ho => ?_
            rw [ho, Anc.iff hp]
            simp [e]
        · rw [loop_out (o := .inr ()) (by unfold tree_above.l1; rw [if_neg (by omega)])]
          exact .some ⟨fun e => (by cases e), fun c => by have := c.lt; omega⟩
    refine .bind (key i (Nat.le_refl _)) fun o ho => ?_
    rw [hua, ← ho]
    cases o with
    | inl o => exact .some (by simp)
    | inr o => exact .some (by simp)
theorem tree_right (code : List api_Ins) (l : List api_Loc) (hn : code.length ≤ 400) (hl : l.length ≤ 16) : Tot (fun b => b = true ↔ RP code l) (tree_Right.m code l) := by
  unfold tree_Right.m
  refine .bind (last_T code hn) fun b hb => .ite (fun h => .some ⟨fun e => (by cases e), fun p => ?_⟩) fun h => ?_
  · have := hb.2 ⟨p.n.1, p.n.2, p.z⟩; rw [h] at this; cases this
  obtain ⟨n1, n4, hz⟩ := hb.1 (by simpa using h)
  refine Tot.gd (by omega) ?_
  refine Tot.let fun v hv => ?_
  refine Tot.let fun w hw => ?_
  simp only [Int.toNat_natCast] at hv hw
  subst hv hw
  refine .bind (tree_l1 code l hn hl hz) fun o ho => ?_
  cases o with
  | inl o => exact .some ⟨fun e => (by cases e), fun p => absurd p.p ho⟩
  | inr s =>
    simp only [] at ho
    simp only [Int.toNat_natCast]
    have hpr : ∀ i : Nat, i < code.length → proc code code.length i = preds code i := fun i hi => proc_preds (by omega) fun k h1 h2 => by
      have p := (ho.ap k h2).1
      cases hp : isP code k i
      · rfl
      · unfold isP at hp
        simp only [Bool.or_eq_true, Bool.and_eq_true, decide_eq_true_eq] at hp
        rcases hp with c | c
        · omega
        · have := p.to1 c.1; omega
    have hl1 := ho.l1
    refine .bind (R := fun o => o = .inr () ↔ ∀ i : Nat, i < code.length → AW code i) ?_ fun o hoo => ?_
    · refine loop_T code.length (fun i z => z.1 = code.length ∧ z.2 = (i : Int) ∧ ∀ j : Nat, j < i → AW code j) (fun i z hi hz => ?_) (fun z hz => ?_) ⟨rfl, rfl, fun j hj => by omega⟩
      · obtain ⟨n, k⟩ := z
        obtain ⟨h0, rfl, hs⟩ := hz
        simp only [] at h0
        subst h0
        unfold tree_Right.l2
        dsimp only
        refine .tt (by omega) ?_
        refine Tot.gd (by omega) ?_
        refine Tot.let fun x hx => ?_
        refine .bind (R := fun b => b = false ↔ (0 < i → (preds code i).length = 1)) ?_ fun b hb => ?_
        · refine .ite (fun h => ?_) fun h => .some ⟨fun _ c => by omega, fun _ => rfl⟩
          refine Tot.gd (by omega) ?_
          refine Tot.gd (by omega) ?_
          refine Tot.let fun v hv => ?_
          rw [ho.wy i hi, hpr i hi] at hv
          refine .some ?_
          simp only [Bool.not_eq_false', decide_eq_true_eq]
          exact ⟨fun c _ => by omega, fun c => by have := c (by omega); omega⟩
        refine .ite (fun h => .some ?_) fun h => ?_
        · simp only [reduceCtorEq, false_iff]
          intro c
          have := hb.2 (c i hi).1
          rw [h] at this; cases this
        have h1 := hb.1 (by simpa using h)
        have hab := above_iff hn ho hpr hi (fun j j0 j1 => by
          by_cases e : j = i
          · subst e; exact h1 j0
          · exact (hs j (by omega)).1 j0)
        refine Tot.let fun r hr => ?_
        have hsh : r.1 = sh (gi code i).Op := by rw [hr, hx]; rfl
        rw [hsh, hx]
        refine .bind (R := fun b => b = false ↔ (((sh (gi code i).Op).a = true → UA code i (gi code i).A) ∧ ((sh (gi code i).Op).b = true → UA code i (gi code i).B))) ?_ fun b hb => ?_
        · refine .ite (fun ha => .bind (hab _) fun y hy => .ite (fun h2 => .ite (fun hbb => .bind (hab _) fun z hz => .some ?_) fun hbb => .some ?_) fun h2 => .some ?_) fun ha => .ite (fun hbb => .bind (hab _) fun z hz => .some ?_) fun hbb => .some ?_
          · have := hy.1 h2
            simp only [ha, hbb, this, true_and, forall_const, ← hz]; cases z <;> simp
          · have := hy.1 h2
            simp [ha, hbb, this]
          · have : ¬ UA code i (gi code i).A := fun c => h2 (hy.2 c)
            simp [ha, this]
          · simp only [ha, hbb, true_and, forall_const, ← hz]; cases z <;> simp
          · simp [ha, hbb]
        refine .ite (fun h => .some ?_) fun h => ?_
        · simp only [reduceCtorEq, false_iff]
          intro c
          have := hb.2 ⟨(c i hi).2.1, (c i hi).2.2⟩
          rw [h] at this; cases this
        have h2 := hb.1 (by simpa using h)
        refine Tot.let fun v hv => ?_
        rw [wr64 (by omega)] at hv
        refine .some ⟨rfl, by simp only []; omega, fun j hj => ?_⟩
        by_cases e : j = i
        · subst e; exact ⟨h1, h2.1, h2.2⟩
        · exact hs j (by omega)
      · obtain ⟨n, k⟩ := z
        obtain ⟨h0, rfl, hs⟩ := hz
        unfold tree_Right.l2
        exact .ff (by simp only []; omega) (.some (by simp only [true_iff]; exact hs))
    cases o with
    | inl o => exact .some ⟨fun e => (by cases e), fun p => by have := hoo.2 p.w; cases this⟩
    | inr o => exact .some ⟨fun _ => ⟨⟨n1, n4⟩, hz, ho.ap, hoo.1 rfl⟩, fun _ => rfl⟩
/-- The two answers are the same. -/
theorem right_same (code : List api_Ins) (l : List api_Loc) (hn : code.length ≤ 400) (hl : l.length ≤ 16) : ∃ b, tree_Right.m code l = some b ∧ selvageref10_Right.m code l = some b ∧ (b = true → RP code l) := by
  obtain ⟨b, e, hb⟩ := tree_right code l hn hl
  obtain ⟨c, e', hc⟩ := ref_right code l hn hl
  have : b = c := by
    cases b <;> cases c
    · rfl
    · exact hb.2 (hc.1 rfl)
    · exact (hc.2 (hb.1 rfl)).symm
    · rfl
  subst this
  exact ⟨b, e, e', hb.1⟩
end Go.Proofs.Ytgjibbicplbgbaa.W
namespace Go.Proofs.Ytgjibbicplbgbaa.W
open Go Go.RowKit Go.Proofs.Ytgjibbicplbgbaa Go.Proofs.Ytgjibbicplbgbaa.X
open Go.Proofs.Ytgjibbicplbgbaa.B (wr aget aset loop loop_in loop_out loop_tot qf flt i2f feq fls isnan)

def S63 : Nat := 9223372036854775808
def B52 : Nat := 4503599627370496
def INF : Nat := 9218868437227405312
/-- What a rung's number is, in units of the least. -/
def ex (r : Nat) : Nat := r / 4503599627370496 - 1
def mg (r : Nat) : Nat := if r < 4503599627370496 then r else 4503599627370496 + r % 4503599627370496
def vl (r : Nat) : Nat := mg r * 2 ^ ex r
theorem vl_succ (r : Nat) : vl r < vl (r + 1) := by
  unfold vl
  have hp : 0 < 2 ^ ex r := Nat.two_pow_pos _
  by_cases h : ex (r + 1) = ex r
  · rw [h]
    refine Nat.mul_lt_mul_of_pos_right ?_ hp
    unfold ex at h
    unfold mg
    split <;> split <;> omega
  · have h1 : ex (r + 1) = ex r + 1 := by unfold ex at h ⊢; omega
    have h2 : mg r = 9007199254740991 ∧ mg (r + 1) = 4503599627370496 := by
      unfold ex at h h1
      unfold mg
      constructor
      · split <;> omega
      · split <;> omega
    rw [h1, h2.1, h2.2, Nat.pow_succ]
    omega
theorem vl_lt {a b : Nat} (h : a < b) : vl a < vl b := by
  induction b with
  | zero => omega
  | succ b ih =>
    rcases Nat.lt_or_ge a b with c | c
    · exact Nat.lt_trans (ih c) (vl_succ b)
    · have : a = b := by omega
      subst this; exact vl_succ a
theorem vl_cmp (a b : Nat) : compare (vl a) (vl b) = compare a b := by
  rcases Nat.lt_trichotomy a b with c | c | c
  · rw [Nat.compare_eq_lt.2 c, Nat.compare_eq_lt.2 (vl_lt c)]
  · subst c; simp
  · rw [Nat.compare_eq_gt.2 c, Nat.compare_eq_gt.2 (vl_lt c)]
theorem scale_cmp (m n e : Nat) : compare (m * 2 ^ e) (n * 2 ^ e) = compare m n := by
  have hp : 0 < 2 ^ e := Nat.two_pow_pos _
  rcases Nat.lt_trichotomy m n with c | c | c
  · rw [Nat.compare_eq_lt.2 c, Nat.compare_eq_lt.2 (Nat.mul_lt_mul_of_pos_right c hp)]
  · subst c; simp
  · rw [Nat.compare_eq_gt.2 c, Nat.compare_eq_gt.2 (Nat.mul_lt_mul_of_pos_right c hp)]
theorem read_pos {a : Nat} (h : a < 9223372036854775808) : Ieee.double.read a = if a < 9218868437227405312 then .number false (mg a) (Ieee.double.leastPlace + (ex a : Nat)) else if a = 9218868437227405312 then .infinity false else .nan false (a - 9218868437227405312) := by
  unfold Ieee.Format.read
  simp only [show Ieee.double.signWeight = 9223372036854775808 from rfl, show Ieee.double.binade = 4503599627370496 from rfl, show Ieee.double.infRung = 9218868437227405312 from rfl]
  have e1 : a / 9223372036854775808 = 0 := Nat.div_eq_of_lt h
  rw [e1, Nat.mod_eq_of_lt h]
  simp only [Nat.zero_mod]
  unfold mg ex
  by_cases h1 : a < 4503599627370496
  · rw [if_pos h1, if_pos (by omega), if_pos h1, Nat.div_eq_of_lt h1]
    simp
  · rw [if_neg h1]
    by_cases h2 : a < 9218868437227405312
    · rw [if_pos h2, if_pos h2, if_neg h1]; rfl
    · rw [if_neg h2, if_neg h2]; rfl
theorem isnan_pos {a : Nat} (h : a < 9223372036854775808) : isnan a = decide (9218868437227405312 < a) := by
  unfold isnan
  rw [read_pos h]
  by_cases h1 : a < 9218868437227405312
  · rw [if_pos h1]; symm; simp [Ieee.Datum.isNaN]; omega
  · rw [if_neg h1]
    by_cases h2 : a = 9218868437227405312
    · rw [if_pos h2]; symm; simp [Ieee.Datum.isNaN]; omega
    · rw [if_neg h2]; symm; simp [Ieee.Datum.isNaN]; omega
theorem int_cmp (m n : Nat) : compare (m : Int) (n : Int) = compare m n := by
  rcases Nat.lt_trichotomy m n with c | c | c
  · rw [Nat.compare_eq_lt.2 c, Int.compare_eq_lt.2 (by omega)]
  · subst c; simp
  · rw [Nat.compare_eq_gt.2 c, Int.compare_eq_gt.2 (by omega)]
theorem order_pos {a b : Nat} (ha : a ≤ 9218868437227405312) (hb : b ≤ 9218868437227405312) : Ieee.double.order a b = some (compare a b) := by
  unfold Ieee.Format.order
  rw [read_pos (by omega), read_pos (by omega)]
  by_cases h1 : a < 9218868437227405312
  · rw [if_pos h1]
    by_cases h2 : b < 9218868437227405312
    · rw [if_pos h2]
      simp only [Ieee.Datum.order, Ieee.signed]
      congr 1
      simp only [Bool.false_eq_true, if_false]
      rw [int_cmp, Nat.shiftLeft_eq, Nat.shiftLeft_eq]
      have e1 : (Ieee.double.leastPlace + (ex a : Nat) - min (Ieee.double.leastPlace + (ex a : Nat)) (Ieee.double.leastPlace + (ex b : Nat))).toNat = ex a - min (ex a) (ex b) := by omega
      have e2 : (Ieee.double.leastPlace + (ex b : Nat) - min (Ieee.double.leastPlace + (ex a : Nat)) (Ieee.double.leastPlace + (ex b : Nat))).toNat = ex b - min (ex a) (ex b) := by omega
      rw [e1, e2, ← scale_cmp _ _ (min (ex a) (ex b)), Nat.mul_assoc, Nat.mul_assoc, ← Nat.pow_add, ← Nat.pow_add, Nat.sub_add_cancel (Nat.min_le_left _ _), Nat.sub_add_cancel (Nat.min_le_right _ _)]
      exact vl_cmp a b
    · rw [if_neg h2, if_pos (by omega)]
      simp only [Ieee.Datum.order]
      rw [Nat.compare_eq_lt.2 (by omega)]; rfl
  · rw [if_neg h1, if_pos (by omega)]
    by_cases h2 : b < 9218868437227405312
    · rw [if_pos h2]
      simp only [Ieee.Datum.order]
      rw [Nat.compare_eq_gt.2 (by omega)]; rfl
    · rw [if_neg h2, if_pos (by omega)]
      simp only [Ieee.Datum.order]
      have : a = b := by omega
      subst this; simp
theorem fls_pos {a b : Nat} (ha : a ≤ 9218868437227405312) (hb : b ≤ 9218868437227405312) : fls a b = decide (a < b) := by
  unfold fls
  rw [order_pos ha hb]
  rcases Nat.lt_trichotomy a b with c | c | c
  · rw [Nat.compare_eq_lt.2 c]; simp [c]
  · subst c; simp
  · rw [Nat.compare_eq_gt.2 c]; symm; rw [decide_eq_false_iff_not.2 (by omega)]; rfl
theorem feq_pos {a b : Nat} (ha : a ≤ 9218868437227405312) (hb : b ≤ 9218868437227405312) : feq a b = decide (a = b) := by
  unfold feq
  rw [order_pos ha hb]
  rcases Nat.lt_trichotomy a b with c | c | c
  · rw [Nat.compare_eq_lt.2 c]; symm; rw [decide_eq_false_iff_not.2 (by omega)]; rfl
  · subst c; simp
  · rw [Nat.compare_eq_gt.2 c]; symm; rw [decide_eq_false_iff_not.2 (by omega)]; rfl
theorem fls_nan {a b : Nat} (h : isnan a = true ∨ isnan b = true) : fls a b = false := by
  unfold fls
  rcases h with h | h
  · rw [B.ord_l h]; rfl
  · rw [B.ord_r h]; rfl
theorem feq_nan {a b : Nat} (h : isnan a = true ∨ isnan b = true) : feq a b = false := by
  unfold feq
  rcases h with h | h
  · rw [B.ord_l h]; rfl
  · rw [B.ord_r h]; rfl
/-- What a weight's place is. -/
def rk (a : Nat) : Int := if isnan a = true then 0 else (a : Int) + 9223372036854775808
theorem less_rk {a b : Nat} (ha : a < 9223372036854775808) (hb : b < 9223372036854775808) : lessB a b = decide (rk a < rk b) := by
  unfold lessB weight_Less.m rk
  have h0 : flt 0 = 0 := B.flt0
  rw [h0]
  have na := isnan_pos ha
  have nb := isnan_pos hb
  cases ea : isnan a
  · rw [ea] at na
    have ha' : a ≤ 9218868437227405312 := by have := decide_eq_false_iff_not.1 na.symm; omega
    rw [feq_pos ha' (by omega)]
    cases eb : isnan b
    · rw [eb] at nb
      have hb' : b ≤ 9218868437227405312 := by have := decide_eq_false_iff_not.1 nb.symm; omega
      rw [feq_pos hb' (by omega)]
      by_cases h1 : a = 0
      · by_cases h2 : b = 0
        · subst h1 h2
          simp only [decide_true, if_true, Option.bind_some, math_Signbit.m, ea]
          rfl
        · simp only [h1, h2, decide_true, decide_false, if_true, Option.bind_some, Bool.false_eq_true, if_false, letC, cmp_Less.m]
          rw [feq_pos (by omega) (by omega), fls_pos (by omega) hb']
          simp <;> omega
      · simp only [h1, decide_false, Bool.false_eq_true, if_false, Option.bind_some, letC, cmp_Less.m]
        rw [feq_pos ha' ha', fls_pos ha' hb']
        simp
    · rw [eb] at nb
      have hbn : feq b 0 = false := feq_nan (.inl eb)
      have key : cmp_Less.m a b = false := by
        unfold cmp_Less.m
        simp only [letC]
        rw [feq_pos ha' ha', fls_nan (.inr eb)]
        simp
      have : (if decide (a = 0) = true then some (feq b 0) else some false : Option Bool) = some false := by rw [hbn]; split <;> rfl
      rw [this]
      simp only [Option.bind_some, Bool.false_eq_true, if_false, letC, key]
      symm
      simp
      omega
  · have han : feq a 0 = false := feq_nan (.inl ea)
    rw [han]
    simp only [Bool.false_eq_true, if_false, Option.bind_some, letC, cmp_Less.m]
    rw [feq_nan (a := a) (b := a) (.inl ea)]
    cases eb : isnan b
    · rw [eb] at nb
      have hb' : b ≤ 9218868437227405312 := by have := decide_eq_false_iff_not.1 nb.symm; omega
      rw [feq_pos hb' hb']
      simp
      omega
    · rw [feq_nan (a := b) (b := b) (.inl eb), fls_nan (.inl ea)]
      simp
/-! ### weights are not negative -/
theorem word_pos (r : Nat) (h : r ≤ 9218868437227405312) : Ieee.double.word false r < 9223372036854775808 := by
  unfold Ieee.Format.word
  simp; omega
theorem nearest_pos (m : Nat) (p : Int) : Ieee.double.nearest false m p < 9223372036854775808 := by
  unfold Ieee.Format.nearest
  split
  · exact word_pos 0 (by omega)
  · exact word_pos _ (Nat.min_le_right _ _)
theorem flt_pos {b : Nat} (h : b < 9223372036854775808) : flt b < 9223372036854775808 := by
  unfold flt
  split
  · decide
  · exact h
theorem i2f_pos {n : Int} (h : 0 ≤ n) : flt (i2f n) < 9223372036854775808 := by
  refine flt_pos ?_
  unfold i2f floatOfInt
  have : ¬ n < 0 := by omega
  simp only [FloatKind.nearest, FloatKind.encode, FloatKind.format, Ieee.Format.write, this, decide_false]
  exact nearest_pos _ _
theorem qf_pos {a b : Nat} (ha : a < 9223372036854775808) (hb : b < 9223372036854775808) : qf a b < 9223372036854775808 := by
  have nn : B.nan64 < 9223372036854775808 := by decide
  have main : ∀ d : Option Ieee.Datum, (∀ x, d = some x → (∃ m p, x = .number false m p) ∨ x = .infinity false) → (match d.map Ieee.double.write with | some r => flt r | none => B.nan64) < 9223372036854775808 := by
    intro d hd
    cases d with
    | none => exact nn
    | some x =>
      rcases hd x rfl with ⟨m, p, rfl⟩ | rfl
      · exact flt_pos (nearest_pos m p)
      · exact flt_pos (word_pos _ (Nat.le_refl _))
  unfold qf Ieee.Format.div
  refine main _ fun x hx => ?_
  rw [read_pos ha, read_pos hb] at hx
  by_cases a1 : a < 9218868437227405312
  · rw [if_pos a1] at hx
    by_cases b1 : b < 9218868437227405312
    · rw [if_pos b1] at hx
      simp only [Ieee.Datum.quotient, Bool.xor_false] at hx
      split at hx
      · split at hx
        · cases hx
        · cases hx; exact .inr rfl
      · cases hx; exact .inl ⟨_, _, rfl⟩
    · rw [if_neg b1] at hx
      split at hx
      · cases hx; exact .inl ⟨_, _, rfl⟩
      · cases hx
  · rw [if_neg a1] at hx
    by_cases a2 : a = 9218868437227405312
    · rw [if_pos a2] at hx
      by_cases b1 : b < 9218868437227405312
      · rw [if_pos b1] at hx; cases hx; exact .inr rfl
      · rw [if_neg b1] at hx
        split at hx <;> cases hx
    · rw [if_neg a2] at hx; cases hx
theorem wt_pos {s : alloc_span} (h0 : 0 ≤ s.uses) (h1 : s.from_ ≤ s.to_) (h2 : s.to_ ≤ 400 ∧ 0 ≤ s.from_) : wt s < 9223372036854775808 := by
  unfold wt alloc_weightOf.m weight_Of.m
  simp only [letC]
  rw [wr64 (by omega)]
  exact qf_pos (i2f_pos h0) (i2f_pos (by omega))
theorem rank_eq {a : Nat} (h : a < 9223372036854775808) : selvageref03_Rank.m a = some (rk a) := by
  unfold selvageref03_Rank.m selvageref03_NaN_3.m rk
  simp only [letC]
  cases e : isnan a
  · simp only [Bool.false_eq_true, if_false, if_true]
    have e1 : ((a : Int) / 2 ^ (min (63 : Int).toNat 64)) = 0 := by
      simp only [show ((2 : Int) ^ (min (63 : Int).toNat 64)) = 9223372036854775808 from rfl]
      omega
    rw [e1, if_neg (by omega)]
    congr 1
    have : bits .or .u64 (a : Int) 9223372036854775808 = (a : Int) + 9223372036854775808 := by
      rw [u64_or _ _ (by omega) (by omega) (by omega) (by omega)]
      have e2 : (a : Int).toNat = a := by omega
      have e3 : (9223372036854775808 : Int).toNat = 2 ^ 63 * 1 := rfl
      rw [e2, e3, Nat.or_comm, ← Nat.two_pow_add_eq_or_of_lt (i := 63) (by omega) 1]
      omega
    exact this
  · simp
end Go.Proofs.Ytgjibbicplbgbaa.W
namespace Go.Proofs.Ytgjibbicplbgbaa.W
open Go Go.RowKit Go.Proofs.Ytgjibbicplbgbaa Go.Proofs.Ytgjibbicplbgbaa.X
open Go.Proofs.Ytgjibbicplbgbaa.B (wr aget aset loop loop_in loop_out loop_tot qf flt i2f feq fls isnan)

section
variable {code : List api_Ins} {regs : Int} {i : Nat}
/-- Those that have a register stand in the order in which they are made. -/
def Ord (act : List alloc_span) : Prop := act.Pairwise fun a b => a.from_ < b.from_
/-- A table of registers tells what a list does: what is older than now may stand there, too. -/
structure TB (code : List api_Ins) (regs : Int) (i : Nat) (now : Int) (tab : List Int) (out : List api_Home) (act : List alloc_span) : Prop where
  l : tab.length = 8
  h0 : ∀ r : Nat, r < 8 → regs ≤ (r : Int) → gi tab r = -1
  h1 : ∀ r : Nat, r < 8 → gi tab r = -1 ∨ ∃ j : Nat, j < i ∧ mks (gi code j) = true ∧ gi tab r = (gi code j).D ∧ ((spn code j ∈ act ∧ reg out (spn code j) = (r : Int)) ∨ (spn code j).to_ < now)
  h2 : ∀ a ∈ act, gi tab (reg out a) = a.temp
theorem ord_app {act : List alloc_span} {s : alloc_span} (h : Ord act) (hs : ∀ a ∈ act, a.from_ < s.from_) : Ord (act ++ [s]) := by
  unfold Ord at *
  rw [List.pairwise_append]
  refine ⟨h, by simp, fun a ha b hb => ?_⟩
  simp only [List.mem_singleton] at hb
  subst hb; exact hs a ha
theorem hs_ord (hn : code.length ≤ 400) (hg : Good code code.length) (hr : 1 ≤ regs ∧ regs ≤ 8) : ∀ i, i ≤ code.length → Ord (hs code regs i).act
  | 0, _ => by simp [hs, Ord]
  | i + 1, hi => by
    have ih := hs_ord hn hg hr i (by omega)
    have hI := hs_ok hn hg hr i (by omega)
    show Ord (hstep code regs i (hs code regs i)).act
    unfold hstep
    by_cases hm : mks (gi code i) = true
    · rw [if_pos hm]
      dsimp only
      have hp := pre_of hI hg (by omega) hm
      have hf : Ord ((hs code regs i).act.filter (live (spn code i).from_)) := ih.sublist List.filter_sublist
      have happ : Ord ((hs code regs i).act.filter (live (spn code i).from_) ++ [spn code i]) := ord_app hf fun a ha => by
        obtain ⟨j, hj, _, e, _⟩ := hp.a.ac a ha
        rw [e, (spn_t code j).2.1, (spn_t code i).2.1]; omega
      split
      · exact happ
      · exact happ.sublist (List.eraseIdx_sublist _ _)
    · rw [if_neg hm]; exact ih
variable {out : List api_Home} {act : List alloc_span} {slots : Int}
/-- All registers are taken. -/
theorem Ahd.full (h : Ahd code regs i out act slots) (hr : regs ≤ (act.length : Int)) (h1 : 1 ≤ regs) {r : Nat} (hrr : (r : Int) < regs) : has act out r = true := by
  have hal := h.a.al
  cases hq : has act out r
  · exfalso
    have := sub_len (l := act.map (reg out)) (m := ((List.range regs.toNat).map fun m : Nat => (m : Int)).erase (r : Int)) (by
      have key : ∀ l : List alloc_span, (l.map (·.temp)).Nodup → (∀ a ∈ l, ∀ b ∈ l, reg out a = reg out b → a = b) → (l.map (reg out)).Nodup := by
        intro l
        induction l with
        | nil => intro _ _; simp
        | cons a l ih =>
          intro hn hrg
          simp only [List.map_cons, List.nodup_cons] at hn ⊢
          refine ⟨fun c => ?_, ih hn.2 fun a ha b hb => hrg a (by simp [ha]) b (by simp [hb])⟩
          obtain ⟨b, hb, e⟩ := List.mem_map.1 c
          have := hrg b (by simp [hb]) a (by simp) e
          exact hn.1 (List.mem_map.2 ⟨b, hb, by rw [this]⟩)
      exact key act h.a.nd h.a.rg) (fun x hx => by
      obtain ⟨a, ha, rfl⟩ := List.mem_map.1 hx
      obtain ⟨j, hj, hm, e, h0⟩ := h.a.ac a ha
      have hy := h.o.ye j hj hm
      have hrg : reg out a = (gi out (gi code j).D).Reg := by unfold reg; rw [e, (spn_t code j).1]
      rw [← hrg] at hy
      have hne : reg out a ≠ (r : Int) := fun c => by
        have : has act out r = true := List.any_eq_true.2 ⟨a, ha, by simp [c]⟩
        rw [hq] at this; cases this
      refine (List.mem_erase_of_ne hne).2 (List.mem_map.2 ⟨(reg out a).toNat, List.mem_range.2 (by omega), by omega⟩))
    rw [List.length_map, List.length_erase_of_mem (List.mem_map.2 ⟨r, List.mem_range.2 (by omega), rfl⟩), List.length_map, List.length_range] at this
    omega
  · rfl
/-- The table is swept: what is over is taken out; the least register that is free. -/
theorem sweep {tab : List Int} {S : (List Int) × (List api_Home) × Nat × Int × Int} {act0 : List alloc_span} (hn : code.length ≤ 400) (hr : 1 ≤ regs ∧ regs ≤ 8) (h : Ahd code regs i out (act0.filter (live (i : Int))) slots) (hg : Good code code.length)
    (hS : S.2.2.2.2 = (i : Int)) (hT : TB code regs i (i : Int) tab out act0) (ha0 : ∀ a ∈ act0, ∃ j : Nat, j < i ∧ mks (gi code j) = true ∧ a = spn code j ∧ 0 ≤ reg out a ∧ reg out a < regs) :
    ∃ tab', loop (selvageref14_Homes.l4 code S) ((tab, (-1), (wr .i64 (regs - (1 : Int)))) : (List Int) × Int × Int) = some (tab', if ((act0.filter (live (i : Int))).length : Int) < regs then least (act0.filter (live (i : Int))) out else -1) ∧
      TB code regs i (-1) tab' out (act0.filter (live (i : Int))) := by
  have hspan : ∀ j : Nat, j < i → mks (gi code j) = true → ∃ b, selvageref14_Span.m code (gi code j).D = some ((j : Int), (spn code j).to_, b) := fun j hj hm => by
    rw [rspan_eq hn]
    rcases span_c hn (gi code j).D with ⟨k, hk, hm', hD, e⟩ | ⟨hno, _⟩
    · have hkj : k = j := by
        have := h.hi
        rcases Nat.lt_trichotomy k j with c | c | c
        · exact absurd hD ((hg j (by omega) hm).2.2 k c hm')
        · exact c
        · exact absurd hD.symm ((hg k hk hm').2.2 j c hm)
      subst hkj
      exact ⟨true, e⟩
    · exact absurd rfl (hno j (by have := h.hi; omega) hm)
  have hDi : ∀ j : Nat, j < i → mks (gi code j) = true → 0 ≤ (gi code j).D := fun j hj hm => (hg j (by have := h.hi; omega) hm).1
  generalize hact : act0.filter (live (i : Int)) = act at *
  have hin : ∀ a, a ∈ act ↔ a ∈ act0 ∧ ¬ a.to_ < (i : Int) := fun a => by
    rw [← hact, List.mem_filter]; simp [live]
  -- what one entry becomes
  let new : Nat → Int := fun r => if has act out r = true then gi tab r else -1
  have hnew : ∀ r : Nat, (r : Int) < regs → (gi tab r = -1 ∧ new r = -1 ∧ has act out r = false) ∨ (∃ j : Nat, j < i ∧ mks (gi code j) = true ∧ gi tab r = (gi code j).D ∧ (if (spn code j).to_ < (i : Int) then new r = -1 ∧ has act out r = false else new r = gi tab r ∧ has act out r = true ∧ spn code j ∈ act ∧ reg out (spn code j) = (r : Int))) := fun r hrr => by
    have hfalse : (∀ a ∈ act, gi tab r ≠ a.temp) → has act out r = false := fun hno => by
      cases hq : has act out r
      · rfl
      · exfalso
        obtain ⟨a, ha, e⟩ := List.any_eq_true.1 hq
        have e := of_decide_eq_true e
        have := hT.h2 a ((hin a).1 ha).1
        rw [e] at this
        exact hno a ha this
    rcases hT.h1 r (by omega) with c | ⟨j, hj, hm, e, c⟩
    · left
      have hf := hfalse fun a ha => by
        obtain ⟨j, hj, hm, ea, _⟩ := ha0 a ((hin a).1 ha).1
        have := hDi j hj hm
        rw [c, ea, (spn_t code j).1]; omega
      exact ⟨c, by simp only [new, hf]; rfl, hf⟩
    · right
      refine ⟨j, hj, hm, e, ?_⟩
      by_cases hlt : (spn code j).to_ < (i : Int)
      · rw [if_pos hlt]
        have hf := hfalse fun a ha ea => by
          obtain ⟨k, hk, hmk, ek, _⟩ := ha0 a ((hin a).1 ha).1
          rw [e, ek, (spn_t code k).1] at ea
          have : j = k := h.inj hg (by omega) (by omega) hm hmk ea
          subst this
          rw [ek] at ha
          exact ((hin _).1 ha).2 hlt
        exact ⟨by simp only [new, hf]; rfl, hf⟩
      · rw [if_neg hlt]
        rcases c with ⟨c1, c2⟩ | c
        · have ha : spn code j ∈ act := (hin _).2 ⟨c1, hlt⟩
          have ht : has act out r = true := List.any_eq_true.2 ⟨_, ha, by simp [c2]⟩
          exact ⟨by simp only [new, ht]; rfl, ht, ha, c2⟩
        · exact absurd c hlt
  have hw : wr .i64 (regs - (1 : Int)) = regs - 1 := wr64 (by omega)
  rw [hw]
  have main : Tot (fun o : (List Int) × Int => o.1.length = 8 ∧ (∀ q : Nat, q < 8 → gi o.1 q = if (q : Int) < regs then new q else gi tab q) ∧ ((o.2 = -1 ∧ ∀ q : Nat, (q : Int) < regs → has act out q = true) ∨ ∃ q : Nat, (q : Int) < regs ∧ o.2 = (q : Int) ∧ has act out q = false ∧ ∀ p : Nat, p < q → has act out p = true)) (loop (selvageref14_Homes.l4 code S) ((tab, (-1), regs - 1) : (List Int) × Int × Int)) := by
    refine loop_T regs.toNat (fun k z => z.1.length = 8 ∧ z.2.2 = regs - 1 - (k : Int) ∧ (∀ q : Nat, q < 8 → gi z.1 q = if (q : Int) < regs ∧ regs - (k : Int) ≤ (q : Int) then new q else gi tab q) ∧ ((z.2.1 = -1 ∧ ∀ q : Nat, (q : Int) < regs → regs - (k : Int) ≤ (q : Int) → has act out q = true) ∨ ∃ q : Nat, (q : Int) < regs ∧ regs - (k : Int) ≤ (q : Int) ∧ z.2.1 = (q : Int) ∧ has act out q = false ∧ ∀ p : Nat, p < q → regs - (k : Int) ≤ (p : Int) → has act out p = true)) (fun k z hk hz => ?_) (fun z hz => ?_) ⟨hT.l, by simp only []; omega, fun q hq => by simp only []; rw [if_neg (by omega)], .inl ⟨rfl, fun q h1 h2 => by omega⟩⟩
    · obtain ⟨t, f, r⟩ := z
      obtain ⟨z1, z2, z3, z4⟩ := hz
      simp only [] at z1 z2 z3 z4
      obtain ⟨r0, rfl⟩ : ∃ n : Nat, r = n := ⟨r.toNat, by omega⟩
      have hr0 : (r0 : Int) < regs := by omega
      have hcur : gi t (r0 : Int) = gi tab r0 := by rw [z3 r0 (by omega), if_neg (by omega)]
      unfold selvageref14_Homes.l4
      dsimp only
      refine .tt (by omega) ?_
      refine Tot.gd (by omega) ?_
      refine Tot.gd (by omega) ?_
      refine Tot.let fun v hv => ?_
      rw [hcur] at hv
      refine .bind (R := fun t' => t'.length = 8 ∧ gi t' (r0 : Int) = new r0 ∧ ∀ q : Nat, q < 8 → q ≠ r0 → gi t' q = gi t q) ?_ fun t' ht' => ?_
      · rcases hnew r0 hr0 with ⟨c1, c2, c3⟩ | ⟨j, hj, hm, e, c⟩
        · exact .ff (by omega) (.some ⟨z1, by rw [hcur, c1, c2], fun _ _ _ => rfl⟩)
        · have := hDi j hj hm
          refine .tt (by omega) ?_
          refine Tot.let fun u hu => ?_
          obtain ⟨b, hb⟩ := hspan j hj hm
          refine .bindE (by rw [hu, hcur, e]; exact hb) ?_
          simp only []
          rw [hS]
          by_cases hlt : (spn code j).to_ < (i : Int)
          · rw [if_pos hlt] at c ⊢
            simp only [letC]
            refine .some ⟨by simp [z1], ?_, fun q hq hne => ?_⟩
            · rw [gi_set (by omega) (by omega) (by omega), if_pos (by omega)]; exact c.1.symm
            · rw [gi_set (by omega) (by omega) (by omega), if_neg (by omega)]
          · rw [if_neg hlt] at c ⊢
            exact .some ⟨z1, by rw [hcur]; exact c.1.symm, fun _ _ _ => rfl⟩
      · obtain ⟨y1, y2, y3⟩ := ht'
        refine Tot.gd (by omega) ?_
        refine Tot.let fun u hu => ?_
        rw [y2] at hu
        have hfree : u < 0 ↔ has act out r0 = false := by
          rw [hu]
          rcases hnew r0 hr0 with ⟨c1, c2, c3⟩ | ⟨j, hj, hm, e, c⟩
          · rw [c2]; simp [c3]
          · have := hDi j hj hm
            by_cases hlt : (spn code j).to_ < (i : Int)
            · rw [if_pos hlt] at c; rw [c.1]; simp [c.2]
            · rw [if_neg hlt] at c; rw [c.1, e, c.2.1]; simp; omega
        have tabN : ∀ q : Nat, q < 8 → gi t' q = if (q : Int) < regs ∧ regs - ((k + 1 : Nat) : Int) ≤ (q : Int) then new q else gi tab q := fun q hq => by
          by_cases e : q = r0
          · subst e; rw [y2, if_pos (by omega)]
          · rw [y3 q hq e, z3 q hq]
            by_cases c : (q : Int) < regs ∧ regs - (k : Int) ≤ (q : Int)
            · rw [if_pos c, if_pos (by omega)]
            · rw [if_neg c, if_neg (by omega)]
        refine .ite (fun hlt => ?_) fun hge => ?_
        · refine Tot.let fun v2 hv2 => ?_
          rw [wr64 (by omega)] at hv2
          exact .some ⟨y1, by simp only []; omega, tabN, .inr ⟨r0, hr0, by omega, rfl, hfree.1 hlt, fun p hp hp2 => by omega⟩⟩
        · refine Tot.let fun v2 hv2 => ?_
          rw [wr64 (by omega)] at hv2
          have ht : has act out r0 = true := by
            cases hq : has act out r0
            · exact absurd (hfree.2 hq) hge
            · rfl
          refine .some ⟨y1, by simp only []; omega, tabN, ?_⟩
          simp only []
          rcases z4 with ⟨c1, c2⟩ | ⟨q, q1, q2, q3, q4, q5⟩
          · refine .inl ⟨c1, fun q h1 h2 => ?_⟩
            by_cases e : q = r0
            · subst e; exact ht
            · exact c2 q h1 (by omega)
          · refine .inr ⟨q, q1, by omega, q3, q4, fun p hp hp2 => ?_⟩
            by_cases e : p = r0
            · subst e; exact ht
            · exact q5 p hp (by omega)
    · obtain ⟨t, f, r⟩ := z
      obtain ⟨z1, z2, z3, z4⟩ := hz
      simp only [] at z1 z2 z3 z4
      unfold selvageref14_Homes.l4
      dsimp only
      refine .ff (by omega) (.some ⟨z1, fun q hq => ?_, ?_⟩)
      · rw [z3 q hq]
        by_cases c : (q : Int) < regs
        · rw [if_pos (by omega), if_pos c]
        · rw [if_neg (by omega), if_neg c]
      · rcases z4 with ⟨c1, c2⟩ | ⟨q, q1, q2, q3, q4, q5⟩
        · exact .inl ⟨c1, fun q h1 => c2 q h1 (by omega)⟩
        · exact .inr ⟨q, q1, q3, q4, fun p hp => q5 p hp (by omega)⟩
  obtain ⟨⟨tab', f⟩, e, y1, y2, y3⟩ := main
  simp only [] at y1 y2 y3
  refine ⟨tab', ?_, y1, fun r hr8 hge => by rw [y2 r hr8, if_neg (by omega)]; exact hT.h0 r hr8 hge, fun r hr8 => ?_, fun a ha => ?_⟩
  · rw [e]
    congr 2
    have hal := h.a.al
    by_cases hc : (act.length : Int) < regs
    · rw [if_pos hc]
      obtain ⟨q, hq, hle, hno, hall⟩ := leastN_ok act out (act.length + 1) 0 (by omega) fun k hk => by omega
      have hq' : least act out = (q : Int) := hq
      rw [hq']
      rcases y3 with ⟨c1, c2⟩ | ⟨p, p1, p2, p3, p4⟩
      · have := c2 q (by omega)
        rw [hno] at this; cases this
      · rw [p2]
        rcases Nat.lt_trichotomy p q with c | c | c
        · have := hall p c; rw [p3] at this; cases this
        · rw [c]
        · have := p4 q c; rw [hno] at this; cases this
    · rw [if_neg hc]
      rcases y3 with ⟨c1, c2⟩ | ⟨p, p1, p2, p3, p4⟩
      · exact c1
      · have := h.full (by omega) hr.1 p1
        rw [p3] at this; cases this
  · rw [y2 r hr8]
    by_cases c : (r : Int) < regs
    · rw [if_pos c]
      rcases hnew r c with ⟨c1, c2, c3⟩ | ⟨j, hj, hm, e, c4⟩
      · exact .inl c2
      · by_cases hlt : (spn code j).to_ < (i : Int)
        · rw [if_pos hlt] at c4; exact .inl c4.1
        · rw [if_neg hlt] at c4
          exact .inr ⟨j, hj, hm, by rw [c4.1, e], .inl ⟨c4.2.2.1, c4.2.2.2⟩⟩
    · rw [if_neg c]; exact .inl (hT.h0 r hr8 (by omega))
  · obtain ⟨j, hj, hm, ea, g0, g1⟩ := ha0 a ((hin a).1 ha).1
    have := hT.h2 a ((hin a).1 ha).1
    obtain ⟨r, hrr⟩ : ∃ n : Nat, reg out a = n := ⟨(reg out a).toNat, by omega⟩
    rw [hrr] at this g1 ⊢
    rw [y2 r (by omega), if_pos g1]
    have ht : has act out r = true := List.any_eq_true.2 ⟨a, ha, by simp [hrr]⟩
    simp only [new, ht, if_true]
    exact this
end
end Go.Proofs.Ytgjibbicplbgbaa.W
namespace Go.Proofs.Ytgjibbicplbgbaa.W
open Go Go.RowKit Go.Proofs.Ytgjibbicplbgbaa Go.Proofs.Ytgjibbicplbgbaa.X
open Go.Proofs.Ytgjibbicplbgbaa.B (wr aget aset loop loop_in loop_out loop_tot qf flt i2f feq fls isnan)

theorem spn_wt {code : List api_Ins} (hn : code.length ≤ 400) {j : Nat} (hj : j < code.length) : wt (spn code j) < 9223372036854775808 := by
  obtain ⟨_, h2, h3, _, h5, h6, _⟩ := su_p code (gi code j).D j code.length
  have h2' : (spn code j).from_ = (j : Int) := h2
  have h5' : (j : Int) ≤ (spn code j).to_ := h5
  have h6' : (spn code j).to_ = (j : Int) ∨ (spn code j).to_ < code.length := h6
  exact wt_pos h3 (by omega) ⟨by omega, by omega⟩
theorem gi_map {l : List alloc_span} {i : Nat} (h : i < l.length) : gi (l.map wt) i = wt (gi l i) := by
  rw [gi_in (by simpa using h), gi_in h]; simp
theorem gi_app {α : Type} [Inhabited α] {l m : List α} {i : Int} (h0 : 0 ≤ i) (h : i < l.length) : gi (l ++ m) i = gi l i := by
  have : i.toNat < l.length := by omega
  simp [gi, List.getD_eq_getElem?_getD, List.getElem?_append_left this]
theorem lw_app (l m : List Nat) : ∀ i, i ≤ l.length → lw (l ++ m) i = lw l i
  | 0, _ => rfl
  | i + 1, h => by
    have hb := lw_b l i
    simp only [lw]
    rw [lw_app l m i (by omega)]
    by_cases c : lw l i < 0
    · rw [if_pos c, if_pos c]
    · rw [if_neg c, if_neg c, gi_app (by omega) (by omega), gi_app (by omega) (by omega)]
section
variable {code : List api_Ins} {regs : Int} {i : Nat} {out : List api_Home} {act : List alloc_span} {slots : Int}
/-- The first of least weight among the first m. -/
def wso (act : List alloc_span) (out : List api_Home) (m : Nat) : Int := if m = 0 then -1 else reg out (gi act (lw (act.map wt) m))
theorem worst_eq {tab : List Int} {S : (List Int) × (List api_Home) × Nat × Int × Int} {f : Int} (hn : code.length ≤ 400) (hr : 1 ≤ regs ∧ regs ≤ 8) (h : Ahd code regs i out act slots) (hg : Good code code.length) (hfull : regs ≤ (act.length : Int))
    (hS : S.2.2.2.2 = (i : Int)) (hT : TB code regs i (-1) tab out act) (hO : Ord act) :
    loop (selvageref14_Homes.l5 code regs S (tab, f)) (((-1), 0) : Int × Int) = some (wso act out act.length) := by
  have hi := h.hi
  have hl := hT.l
  have hac : ∀ a ∈ act, ∃ j : Nat, j < i ∧ mks (gi code j) = true ∧ a = spn code j ∧ 0 ≤ reg out a ∧ reg out a < regs := fun a ha => by
    obtain ⟨j, hj, hm, e, h0⟩ := h.a.ac a ha
    refine ⟨j, hj, hm, e, h0, ?_⟩
    have hy := h.o.ye j hj hm
    have : reg out a = (gi out (gi code j).D).Reg := by unfold reg; rw [e, (spn_t code j).1]
    rw [← this] at hy
    omega
  -- an entry
  have hent : ∀ r : Nat, (r : Int) < regs → ∃ j : Nat, j < i ∧ mks (gi code j) = true ∧ gi tab r = (gi code j).D ∧ spn code j ∈ act ∧ reg out (spn code j) = (r : Int) := fun r hrr => by
    have ht := h.full hfull hr.1 hrr
    obtain ⟨a, ha, e⟩ := List.any_eq_true.1 ht
    have e := of_decide_eq_true e
    obtain ⟨j, hj, hm, ea, _⟩ := hac a ha
    have := hT.h2 a ha
    rw [e, ea, (spn_t code j).1] at this
    exact ⟨j, hj, hm, this, by rw [← ea]; exact ha, by rw [← ea]; exact e⟩
  have hrank : ∀ r : Nat, (r : Int) < regs → ∀ j : Nat, j < i → mks (gi code j) = true → gi tab r = (gi code j).D → ((selvageref14_weightOf.m code (gi tab r)).bind fun w => selvageref03_Rank.m w) = some (rk (wt (spn code j))) := fun r hrr j hj hm e => by
    rw [e, rweight_eq hn (by omega) hg hm, Option.bind_some, rank_eq (spn_wt hn (by omega))]
  -- one row
  have hrow : ∀ (k : Nat), k < i → ∀ W : Int, (W = -1 ∨ ∃ w : Nat, W = (w : Int) ∧ (w : Int) < regs) →
      loop (selvageref14_Homes.l6 code regs (tab, f) (W, (k : Int))) ((W, 0) : Int × Int) = some (if mks (gi code k) = true ∧ spn code k ∈ act then (if W < 0 then reg out (spn code k) else if lessB (wt (spn code k)) ((selvageref14_weightOf.m code (gi tab W)).getD 0) = true then reg out (spn code k) else W) else W) := by
    intro k hk W hW
    -- who stands where
    have hself : ∀ r : Nat, (r : Int) < regs → mks (gi code k) = true → ((gi code k).D = gi tab r ↔ (spn code k ∈ act ∧ reg out (spn code k) = (r : Int))) := fun r hrr hm => by
      obtain ⟨j, hj, hmj, e, e1, e2⟩ := hent r hrr
      constructor
      · intro c
        have : k = j := h.inj hg (by omega) (by omega) hm hmj (c.trans e)
        subst this
        exact ⟨e1, e2⟩
      · rintro ⟨c1, c2⟩
        have := hT.h2 _ c1
        rw [c2, (spn_t code k).1] at this
        exact this.symm
    let New : Int := if W < 0 then reg out (spn code k) else if lessB (wt (spn code k)) ((selvageref14_weightOf.m code (gi tab W)).getD 0) = true then reg out (spn code k) else W
    have hstep : ∀ (r : Nat) (c : Prop) [Decidable c], (r : Int) < regs → (c → W = W) → selvageref14_Homes.l6 code regs (tab, f) (W, (k : Int)) (W, (r : Int)) = some (.inl (if mks (gi code k) = true ∧ spn code k ∈ act ∧ reg out (spn code k) = (r : Int) then New else W, ((r + 1 : Nat) : Int))) := by
      intro r c _ hrr _
      unfold selvageref14_Homes.l6
      dsimp only
      rw [if_pos hrr, if_pos (by omega)]
      simp only [letC]
      rw [has_d, Option.bind_some, ← mks_sh, wr64 (by omega)]
      by_cases hm : mks (gi code k) = true
      · rw [if_pos hm, if_pos (by omega), if_pos (by omega)]
        by_cases hD : (gi code k).D = gi tab r
        · have hs := (hself r hrr hm).1 hD
          have hR : (if mks (gi code k) = true ∧ spn code k ∈ act ∧ reg out (spn code k) = (r : Int) then New else W) = New := if_pos ⟨hm, hs.1, hs.2⟩
          rw [if_pos hD, hR]
          by_cases h0 : W < 0
          · rw [if_pos h0, Option.bind_some, if_pos rfl]
            have : New = (r : Int) := by show (if W < 0 then _ else _) = _; rw [if_pos h0, hs.2]
            rw [this]; rfl
          · rw [if_neg h0]
            obtain ⟨w, rfl, hw⟩ : ∃ w : Nat, W = (w : Int) ∧ (w : Int) < regs := by
              rcases hW with c | c
              · omega
              · exact c
            obtain ⟨j, hj, hmj, e, _⟩ := hent w hw
            have r1 := rweight_eq hn (by omega : k < code.length) hg hm
            have r2 := rweight_eq hn (by omega : j < code.length) hg hmj
            rw [hD] at r1
            rw [← e] at r2
            have p1 := spn_wt hn (by omega : k < code.length)
            have p2 := spn_wt hn (by omega : j < code.length)
            rw [r1, Option.bind_some, rank_eq p1, Option.bind_some, if_pos (by omega), if_pos (by omega), r2, Option.bind_some, rank_eq p2, Option.bind_some, Option.bind_some]
            have : New = if lessB (wt (spn code k)) (wt (spn code j)) = true then (r : Int) else (w : Int) := by
              show (if (w : Int) < 0 then _ else _) = _
              rw [if_neg h0, r2, hs.2]; rfl
            rw [this, less_rk p1 p2]
            by_cases c : rk (wt (spn code k)) < rk (wt (spn code j))
            · simp [c]
            · simp [c]
        · have hs : ¬ (mks (gi code k) = true ∧ spn code k ∈ act ∧ reg out (spn code k) = (r : Int)) := fun c => hD ((hself r hrr hm).2 ⟨c.2.1, c.2.2⟩)
          rw [if_neg hD, if_neg hs, Option.bind_some, if_neg (by simp)]; rfl
      · rw [if_neg hm, if_neg (fun c => hm c.1), Option.bind_some, if_neg (by simp)]; rfl
    -- once it has turned it stays
    have hstay : ∀ (r : Nat), (r : Int) < regs → ¬ reg out (spn code k) = (r : Int) → ∀ V : Int, selvageref14_Homes.l6 code regs (tab, f) (W, (k : Int)) (V, (r : Int)) = some (.inl (V, ((r + 1 : Nat) : Int))) := by
      intro r hrr hne V
      unfold selvageref14_Homes.l6
      dsimp only
      rw [if_pos hrr, if_pos (by omega)]
      simp only [letC]
      rw [has_d, Option.bind_some, ← mks_sh, wr64 (by omega)]
      by_cases hm : mks (gi code k) = true
      · rw [if_pos hm, if_pos (by omega), if_pos (by omega)]
        have hD : ¬ (gi code k).D = gi tab r := fun c => hne ((hself r hrr hm).1 c).2
        rw [if_neg hD, Option.bind_some, if_neg (by simp)]; rfl
      · rw [if_neg hm, Option.bind_some, if_neg (by simp)]; rfl
    let P : Prop := mks (gi code k) = true ∧ spn code k ∈ act
    have hend : ∀ V : Int, selvageref14_Homes.l6 code regs (tab, f) (W, (k : Int)) (V, (regs.toNat : Int)) = some (.inr V) := fun V => by
      unfold selvageref14_Homes.l6
      dsimp only
      rw [if_neg (by omega)]
    by_cases hP : P
    · obtain ⟨hm, ha⟩ := hP
      obtain ⟨_, _, _, _, g0, g1⟩ := hac _ ha
      rw [if_pos ⟨hm, ha⟩]
      have := loop_st (f := selvageref14_Homes.l6 code regs (tab, f) (W, (k : Int))) regs.toNat (fun r => (if reg out (spn code k) < (r : Int) then New else W, (r : Int))) New (fun r hrr => ?_) (by show selvageref14_Homes.l6 code regs (tab, f) (W, (k : Int)) (if reg out (spn code k) < (regs.toNat : Int) then New else W, (regs.toNat : Int)) = _; rw [if_pos (by omega)]; exact hend New)
      · rw [if_neg (by omega)] at this; exact this
      · by_cases c : reg out (spn code k) = (r : Int)
        · rw [if_neg (by omega), if_pos (by omega), hstep r True (by omega) (fun _ => rfl), if_pos ⟨hm, ha, c⟩]
        · rw [hstay r (by omega) c]
          by_cases c2 : reg out (spn code k) < (r : Int)
          · rw [if_pos c2, if_pos (by omega)]
          · rw [if_neg c2, if_neg (by omega)]
    · rw [if_neg hP]
      refine loop_st (f := selvageref14_Homes.l6 code regs (tab, f) (W, (k : Int))) regs.toNat (fun r => (W, (r : Int))) W (fun r hrr => ?_) (hend W)
      rw [hstep r True (by omega) (fun _ => rfl), if_neg (fun c => hP ⟨c.1, c.2.1⟩)]
  -- all rows
  have hfrom : ∀ q : Nat, q < act.length → ∃ j : Nat, j < i ∧ mks (gi code j) = true ∧ gi act q = spn code j ∧ (gi act q).from_ = (j : Int) := fun q hq => by
    obtain ⟨j, hj, hm, e, _⟩ := hac _ (gi_mem (l := act) (i := (q : Int)) (by omega) (by omega))
    exact ⟨j, hj, hm, e, by rw [e, (spn_t code j).2.1]⟩
  have hmono : ∀ p q : Nat, p < q → q < act.length → (gi act p).from_ < (gi act q).from_ := fun p q hpq hq => by
    rw [gi_in (by omega), gi_in hq]
    exact List.pairwise_iff_getElem.1 hO p q (by omega) hq hpq
  have hwso : ∀ m : Nat, m ≤ act.length → (wso act out m = -1 ∧ m = 0) ∨ (0 < m ∧ ∃ q : Nat, q < m ∧ lw (act.map wt) m = (q : Int) ∧ wso act out m = reg out (gi act q)) := fun m hm => by
    unfold wso
    rcases Nat.eq_zero_or_pos m with c | c
    · left; exact ⟨by rw [if_pos c], c⟩
    · right
      refine ⟨c, ?_⟩
      have hb := lw_b (act.map wt) m
      refine ⟨(lw (act.map wt) m).toNat, by omega, by omega, ?_⟩
      rw [if_neg (by omega), show (((lw (act.map wt) m).toNat : Nat) : Int) = lw (act.map wt) m by omega]
  have main : Tot (fun o => o = wso act out act.length) (loop (selvageref14_Homes.l5 code regs S (tab, f)) (((-1), 0) : Int × Int)) := by
    refine loop_T i (fun k z => z.2 = (k : Int) ∧ ∃ m : Nat, m ≤ act.length ∧ z.1 = wso act out m ∧ (∀ q : Nat, q < m → (gi act q).from_ < (k : Int)) ∧ (∀ q : Nat, m ≤ q → q < act.length → (k : Int) ≤ (gi act q).from_)) (fun k z hk hz => ?_) (fun z hz => ?_) ⟨rfl, 0, by omega, by simp [wso], fun q hq => by omega, fun q _ hq => by
        obtain ⟨j, _, _, _, e⟩ := hfrom q hq
        rw [e]; omega⟩
    · obtain ⟨W, k'⟩ := z
      obtain ⟨rfl, m, hm, rfl, hlo, hhi⟩ := hz
      unfold selvageref14_Homes.l5
      dsimp only
      refine .tt (by rw [hS]; omega) ?_
      have hwm := hwso m hm
      have hW : wso act out m = -1 ∨ ∃ w : Nat, wso act out m = (w : Int) ∧ (w : Int) < regs := by
        rcases hwm with ⟨c, _⟩ | ⟨_, q, hq, _, c⟩
        · exact .inl c
        · obtain ⟨_, _, _, _, g0, g1⟩ := hac _ (gi_mem (l := act) (i := (q : Int)) (by omega) (by omega))
          exact .inr ⟨(reg out (gi act q)).toNat, by rw [c]; omega, by omega⟩
      refine .bindE (hrow k hk _ hW) ?_
      refine Tot.let fun v hv => ?_
      rw [wr64 (by omega)] at hv
      refine .some ⟨by simp only []; omega, ?_⟩
      simp only []
      by_cases hP : mks (gi code k) = true ∧ spn code k ∈ act
      · rw [if_pos hP]
        obtain ⟨q, hq, eq⟩ := mem_gi hP.2
        have hqf : (gi act q).from_ = (k : Int) := by rw [eq, (spn_t code k).2.1]
        have hqm : q = m := by
          rcases Nat.lt_trichotomy q m with c | c | c
          · have := hlo q c; omega
          · exact c
          · have h1 := hmono m q c hq
            have h2 := hhi m (Nat.le_refl _) (by omega)
            omega
        subst hqm
        refine ⟨q + 1, by omega, ?_, fun p hp => ?_, fun p hp hp2 => ?_⟩
        · unfold wso
          rw [if_neg (by omega : ¬ q + 1 = 0)]
          simp only [lw]
          rcases hwm with ⟨c, c0⟩ | ⟨c0, p, hp, c1, c2⟩
          · subst c0
            have e0 : lw (act.map wt) 0 < 0 := by simp [lw]
            rw [if_pos rfl, if_pos (by omega), if_pos e0, eq]
          · rw [if_neg (by omega : ¬ q = 0)]
            have c2' : reg out (gi act (lw (act.map wt) q)) = reg out (gi act p) := by rw [c1]
            rw [c2', c1]
            obtain ⟨jp, hjp, hmp, ep, _, _⟩ := hac _ (gi_mem (l := act) (i := (p : Int)) (by omega) (by omega))
            obtain ⟨_, _, _, _, g0, g1⟩ := hac _ (gi_mem (l := act) (i := (p : Int)) (by omega) (by omega))
            have htp := hT.h2 _ (gi_mem (l := act) (i := (p : Int)) (by omega) (by omega))
            rw [if_neg (by omega : ¬ reg out (gi act (p : Int)) < 0), if_neg (by omega : ¬ (p : Int) < 0), htp]
            have hw : selvageref14_weightOf.m code (gi act p).temp = some (wt (gi act p)) := by
              rw [ep, (spn_t code jp).1, rweight_eq hn (by omega) hg hmp]
            rw [hw, gi_map (by omega), gi_map (by omega), eq]
            show (if lessB (wt (spn code k)) (wt (gi act p)) = true then _ else _) = _
            by_cases c3 : lessB (wt (spn code k)) (wt (gi act p)) = true
            · rw [if_pos c3, if_pos c3, eq]
            · rw [if_neg c3, if_neg c3]
        · by_cases e : p = q
          · subst e; omega
          · have := hlo p (by omega); omega
        · have := hmono q p (by omega) hp2
          omega
      · rw [if_neg hP]
        refine ⟨m, hm, rfl, fun p hp => by have := hlo p hp; omega, fun p hp hp2 => ?_⟩
        have := hhi p hp hp2
        obtain ⟨j, hj, hmj, ej, ef⟩ := hfrom p hp2
        have : j ≠ k := fun c => hP ⟨by rw [← c]; exact hmj, by rw [← c, ← ej]; exact gi_mem (by omega) (by omega)⟩
        omega
    · obtain ⟨W, k'⟩ := z
      obtain ⟨rfl, m, hm, rfl, hlo, hhi⟩ := hz
      unfold selvageref14_Homes.l5
      dsimp only
      refine .ff (by rw [hS]; omega) (.some ?_)
      have : m = act.length := by
        rcases Nat.lt_or_ge m act.length with c | c
        · have h1 := hhi m (Nat.le_refl _) c
          obtain ⟨j, hj, _, _, e⟩ := hfrom m c
          omega
        · omega
      rw [this]
  obtain ⟨o, e, rfl⟩ := main
  exact e
end
end Go.Proofs.Ytgjibbicplbgbaa.W
namespace Go.Proofs.Ytgjibbicplbgbaa.W
open Go Go.RowKit Go.Proofs.Ytgjibbicplbgbaa Go.Proofs.Ytgjibbicplbgbaa.X
open Go.Proofs.Ytgjibbicplbgbaa.B (wr aget aset loop loop_in loop_out loop_tot qf flt i2f feq fls isnan)

theorem rext_eq (x : api_Ins) (out : List api_Home) (hd : 0 ≤ x.D ∧ x.D < 400) : loop (selvageref14_Homes.l3 x) ((out, out.length) : (List api_Home) × Nat) = some (ext out x.D, (ext out x.D).length) := ext_eq x out hd
section
variable {code : List api_Ins} {regs : Int} {i : Nat} {out : List api_Home} {act : List alloc_span} {slots : Int} {tab : List Int}
theorem TB.ext {now d : Int} (h : TB code regs i now tab out act) (ho : OI code regs i out slots) (hg : Good code code.length) (hi : i ≤ code.length) (ha : ∀ a ∈ act, ∃ j : Nat, j < i ∧ mks (gi code j) = true ∧ a = spn code j) : TB code regs i now tab (ext out d) act := by
  have hr : ∀ j : Nat, j < i → mks (gi code j) = true → reg (W.ext out d) (spn code j) = reg out (spn code j) := fun j hj hm => by
    unfold reg
    rw [(spn_t code j).1, gi_ext (hg j (by omega) hm).1, if_pos (ho.o2 j hj hm)]
  refine ⟨h.l, h.h0, fun r hr8 => ?_, fun a haa => ?_⟩
  · rcases h.h1 r hr8 with c | ⟨j, hj, hm, e, c⟩
    · exact .inl c
    · exact .inr ⟨j, hj, hm, e, c.imp (fun c => ⟨c.1, by rw [hr j hj hm]; exact c.2⟩) id⟩
  · obtain ⟨j, hj, hm, e⟩ := ha a haa
    have := h.h2 a haa
    rw [e] at this ⊢
    rw [hr j hj hm]; exact this
/-- A free register is given. -/
theorem TB.stepA (h : Ahd code regs i out act slots) (hT : TB code regs i (-1) tab out act) (hg : Good code code.length) (hf : (act.length : Int) < regs) (hr8 : regs ≤ 8) :
    TB code regs (i + 1) ((i + 1 : Nat) : Int) (tab.set (least act out).toNat (gi code i).D) (out.set (spn code i).temp.toNat ⟨least act out, 0⟩) (act ++ [spn code i]) := by
  obtain ⟨r, er, rl, rh⟩ := least_ok act out
  obtain ⟨d0, d4⟩ := h.d hg
  have hdl := h.dl
  have hl := hT.l
  rw [er]
  have hreg : ∀ {j : Nat}, j < i → mks (gi code j) = true → reg (out.set (spn code i).temp.toNat ⟨(r : Int), 0⟩) (spn code j) = reg out (spn code j) := fun {j} hj hm => by
    unfold reg
    rw [(spn_t code j).1, (spn_t code i).1, gi_setD d0 hdl (hg j (by have := h.hi; omega) hm).1 (h.o.o2 j hj hm), if_neg (h.ne hg hj hm)]
  have hregi : reg (out.set (spn code i).temp.toNat ⟨(r : Int), 0⟩) (spn code i) = r := by
    unfold reg
    rw [show (gi (out.set (spn code i).temp.toNat ⟨(r : Int), 0⟩) (spn code i).temp) = gi (out.set (gi code i).D.toNat ⟨(r : Int), 0⟩) (gi code i).D by rw [(spn_t code i).1], gi_setD d0 hdl d0 hdl, if_pos rfl]
  have hset : ∀ q : Nat, q < 8 → gi (tab.set (r : Int).toNat (gi code i).D) q = if q = r then (gi code i).D else gi tab q := fun q hq => by
    rw [gi_set (by omega) (by omega) (by omega)]
    by_cases e : q = r
    · rw [if_pos e, if_pos (by omega)]
    · rw [if_neg e, if_neg (by omega)]
  refine ⟨by simp [hl], fun q hq hge => by rw [hset q hq, if_neg (by omega)]; exact hT.h0 q hq hge, fun q hq => ?_, fun a ha => ?_⟩
  · rw [hset q hq]
    by_cases e : q = r
    · rw [if_pos e]
      exact .inr ⟨i, by omega, h.mm, rfl, .inl ⟨by simp, by rw [hregi, e]⟩⟩
    · rw [if_neg e]
      rcases hT.h1 q hq with c | ⟨j, hj, hm, e', c⟩
      · exact .inl c
      · refine .inr ⟨j, by omega, hm, e', .inl ?_⟩
        rcases c with ⟨c1, c2⟩ | c
        · exact ⟨by simp [c1], by rw [hreg hj hm]; exact c2⟩
        · have := (spn_t code j).2.2; omega
  · rcases List.mem_append.1 ha with ha | ha
    · obtain ⟨j, hj, hm, e, h0⟩ := h.a.ac a ha
      have hy := h.o.ye j hj hm
      have hrr : reg out a = (gi out (gi code j).D).Reg := by unfold reg; rw [e, (spn_t code j).1]
      rw [← hrr] at hy
      have := hT.h2 a ha
      rw [e, hreg hj hm, ← e]
      obtain ⟨q, hq⟩ : ∃ q : Nat, reg out a = q := ⟨(reg out a).toNat, by omega⟩
      rw [hq] at this ⊢
      rw [hset q (by omega), if_neg ?_]
      · exact this
      · rintro rfl
        have : has act out q = true := List.any_eq_true.2 ⟨a, ha, by simp [hq]⟩
        rw [rh] at this; cases this
    · simp only [List.mem_singleton] at ha
      rw [ha, hregi, hset r (by omega), if_pos rfl, (spn_t code i).1]
/-- This one goes into a slot. -/
theorem TB.stepS (h : Ahd code regs i out act slots) (hT : TB code regs i (-1) tab out act) (hg : Good code code.length) : TB code regs (i + 1) ((i + 1 : Nat) : Int) tab (out.set (gi code i).D.toNat ⟨-1, slots⟩) act := by
  obtain ⟨d0, d4⟩ := h.d hg
  have hdl := h.dl
  have hreg : ∀ {j : Nat}, j < i → mks (gi code j) = true → reg (out.set (gi code i).D.toNat ⟨-1, slots⟩) (spn code j) = reg out (spn code j) := fun {j} hj hm => by
    unfold reg
    rw [(spn_t code j).1, gi_setD d0 hdl (hg j (by have := h.hi; omega) hm).1 (h.o.o2 j hj hm), if_neg (h.ne hg hj hm)]
  refine ⟨hT.l, hT.h0, fun q hq => ?_, fun a ha => ?_⟩
  · rcases hT.h1 q hq with c | ⟨j, hj, hm, e', c⟩
    · exact .inl c
    · refine .inr ⟨j, by omega, hm, e', .inl ?_⟩
      rcases c with ⟨c1, c2⟩ | c
      · exact ⟨c1, by rw [hreg hj hm]; exact c2⟩
      · have := (spn_t code j).2.2; omega
  · obtain ⟨j, hj, hm, e, h0⟩ := h.a.ac a ha
    rw [e, hreg hj hm, ← e]; exact hT.h2 a ha
/-- Another one does. -/
theorem TB.stepE (h : Ahd code regs i out act slots) (hT : TB code regs i (-1) tab out act) (hg : Good code code.length) (hr8 : regs ≤ 8) {k : Nat} (hk : k < act.length) {r : Int} (hr : reg out (gi act k) = r) :
    TB code regs (i + 1) ((i + 1 : Nat) : Int) (tab.set r.toNat (gi code i).D) ((out.set (gi act k).temp.toNat ⟨-1, slots⟩).set (gi code i).D.toNat ⟨r, 0⟩) ((act ++ [spn code i]).eraseIdx k) := by
  obtain ⟨d0, d4⟩ := h.d hg
  have hdl := h.dl
  have hl := hT.l
  have hmem : gi act (k : Int) ∈ act := gi_mem (by omega) (by omega)
  have hge : gi (act ++ [spn code i]) (k : Int) = gi act k := gi_app (by omega) (by omega)
  have her := fun a => er (h.nodup hg) (k := k) (by simp; omega) a
  rw [hge] at her
  obtain ⟨j0, hj0, hm0, e0, g0⟩ := h.a.ac _ hmem
  have hy0 := h.o.ye j0 hj0 hm0
  have hrr0 : reg out (gi act k) = (gi out (gi code j0).D).Reg := by unfold reg; rw [e0, (spn_t code j0).1]
  rw [← hrr0, hr] at hy0
  rw [hr] at g0
  have et : (gi act (k : Int)).temp = (gi code j0).D := by rw [e0, (spn_t code j0).1]
  have D0 := (hg j0 (by have := h.hi; omega) hm0).1
  have D1 := h.o.o2 j0 hj0 hm0
  rw [et]
  obtain ⟨r, rfl⟩ : ∃ n : Nat, r = n := ⟨r.toNat, by omega⟩
  have hgi : ∀ {t : Int}, 0 ≤ t → t < out.length → gi ((out.set (gi code j0).D.toNat ⟨-1, slots⟩).set (gi code i).D.toNat ⟨(r : Int), 0⟩) t = if t = (gi code i).D then ⟨(r : Int), 0⟩ else if t = (gi code j0).D then ⟨-1, slots⟩ else gi out t := fun t0 t1 => by
    rw [gi_setD d0 (by simpa using hdl) t0 (by simpa using t1), gi_setD D0 D1 t0 t1]
  have hreg : ∀ {j : Nat}, j < i → mks (gi code j) = true → j ≠ j0 → reg ((out.set (gi code j0).D.toNat ⟨-1, slots⟩).set (gi code i).D.toNat ⟨(r : Int), 0⟩) (spn code j) = reg out (spn code j) := fun {j} hj hm hne => by
    unfold reg
    rw [(spn_t code j).1, hgi (hg j (by have := h.hi; omega) hm).1 (h.o.o2 j hj hm), if_neg (h.ne hg hj hm), if_neg (fun e => hne (h.inj hg (by omega) (by omega) hm hm0 e))]
  have hregi : reg ((out.set (gi code j0).D.toNat ⟨-1, slots⟩).set (gi code i).D.toNat ⟨(r : Int), 0⟩) (spn code i) = r := by
    unfold reg
    rw [(spn_t code i).1, hgi d0 hdl, if_pos rfl]
  have hset : ∀ q : Nat, q < 8 → gi (tab.set (r : Int).toNat (gi code i).D) q = if q = r then (gi code i).D else gi tab q := fun q hq => by
    rw [gi_set (by omega) (by omega) (by omega)]
    by_cases e : q = r
    · rw [if_pos e, if_pos (by omega)]
    · rw [if_neg e, if_neg (by omega)]
  have hsi : spn code i ≠ gi act k := fun c => by
    rw [e0] at c
    have h1 := congrArg alloc_span.from_ c
    rw [(spn_t code i).2.1, (spn_t code j0).2.1] at h1
    omega
  have hsj : ∀ j : Nat, spn code j = gi act k → j = j0 := fun j c => by
    rw [e0] at c
    have h1 := congrArg alloc_span.from_ c
    rw [(spn_t code j).2.1, (spn_t code j0).2.1] at h1
    omega
  refine ⟨by simp [hl], fun q hq hge => by rw [hset q hq, if_neg (by omega)]; exact hT.h0 q hq hge, fun q hq => ?_, fun a ha => ?_⟩
  · rw [hset q hq]
    by_cases e : q = r
    · rw [if_pos e]
      exact .inr ⟨i, by omega, h.mm, rfl, .inl ⟨(her _).2 ⟨by simp, hsi⟩, by rw [hregi, e]⟩⟩
    · rw [if_neg e]
      rcases hT.h1 q hq with c | ⟨j, hj, hm, e', c⟩
      · exact .inl c
      · refine .inr ⟨j, by omega, hm, e', .inl ?_⟩
        rcases c with ⟨c1, c2⟩ | c
        · have hne : j ≠ j0 := fun c => by rw [c, ← e0, hr] at c2; omega
          exact ⟨(her _).2 ⟨by simp [c1], fun c => hne (hsj j c)⟩, by rw [hreg hj hm hne]; exact c2⟩
        · have := (spn_t code j).2.2; omega
  · obtain ⟨h1, h2⟩ := (her a).1 ha
    rcases List.mem_append.1 h1 with ha | ha
    · obtain ⟨j, hj, hm, e, h0⟩ := h.a.ac a ha
      have hy := h.o.ye j hj hm
      have hrr : reg out a = (gi out (gi code j).D).Reg := by unfold reg; rw [e, (spn_t code j).1]
      rw [← hrr] at hy
      have hne : j ≠ j0 := fun c => h2 (by rw [e, e0, c])
      have := hT.h2 a ha
      rw [e, hreg hj hm hne, ← e]
      obtain ⟨q, hq⟩ : ∃ q : Nat, reg out a = q := ⟨(reg out a).toNat, by omega⟩
      rw [hq] at this ⊢
      rw [hset q (by omega), if_neg ?_]
      · exact this
      · rintro rfl
        exact h2 (h.a.rg a ha _ hmem (by rw [hq, hr]))
    · simp only [List.mem_singleton] at ha
      rw [ha, hregi, hset r (by omega), if_pos rfl, (spn_t code i).1]
end
/-- The state of the document's loop. -/
def rT (code : List api_Ins) (regs : Int) (i : Nat) (tab : List Int) : (List Int) × (List api_Home) × Nat × Int × Int := (tab, (hs code regs i).out, (hs code regs i).out.length, (hs code regs i).slots, (i : Int))
theorem ref_step {code : List api_Ins} {regs : Int} (hn : code.length ≤ 400) (hg : Good code code.length) (hr : 1 ≤ regs ∧ regs ≤ 8) {i : Nat} (hi : i < code.length) {tab : List Int} (hT : TB code regs i (i : Int) tab (hs code regs i).out (hs code regs i).act) :
    ∃ tab', selvageref14_Homes.l2 code regs (rT code regs i tab) = some (.inl (rT code regs (i + 1) tab')) ∧ TB code regs (i + 1) ((i + 1 : Nat) : Int) tab' (hs code regs (i + 1)).out (hs code regs (i + 1)).act := by
  have h := hs_ok hn hg hr i (by omega)
  have hord := hs_ord hn hg hr i (by omega)
  have hst : hs code regs (i + 1) = hstep code regs i (hs code regs i) := rfl
  have hN := homes_step hn hg hr hi h
  unfold rT
  rw [hst] at hN ⊢
  generalize hs code regs i = st at *
  unfold selvageref14_Homes.l2
  dsimp only
  rw [if_pos (by omega), if_pos (by omega)]
  simp only [letC]
  rw [has_d, Option.bind_some, ← mks_sh]
  by_cases hm : mks (gi code i) = true
  · have hp := pre_of h hg hi hm
    have hd := hp.d hg
    have hact := h.a.al
    rw [if_pos hm, rext_eq _ _ hd, Option.bind_some]
    have hac0 : ∀ a ∈ st.act, ∃ j : Nat, j < i ∧ mks (gi code j) = true ∧ a = spn code j := fun a ha => by
      obtain ⟨j, hj, hmj, e, _⟩ := h.a.ac a ha
      exact ⟨j, hj, hmj, e⟩
    have hT1 := hT.ext (d := (gi code i).D) h.o hg (by omega) hac0
    have hA1 := h.a.ext (d := (gi code i).D) h.o hg (by omega)
    have hac1 : ∀ a ∈ st.act, ∃ j : Nat, j < i ∧ mks (gi code j) = true ∧ a = spn code j ∧ 0 ≤ reg (ext st.out (gi code i).D) a ∧ reg (ext st.out (gi code i).D) a < regs := fun a ha => by
      obtain ⟨j, hj, hmj, e, h0⟩ := hA1.ac a ha
      have hy := (h.o.ext hg (by omega) hd).ye j hj hmj
      have : reg (ext st.out (gi code i).D) a = (gi (ext st.out (gi code i).D) (gi code j).D).Reg := by unfold reg; rw [e, (spn_t code j).1]
      rw [← this] at hy
      exact ⟨j, hj, hmj, e, h0, by omega⟩
    have hfr : (spn code i).from_ = (i : Int) := (spn_t code i).2.1
    rw [hfr] at hp
    obtain ⟨tab1, e1, hT2⟩ := sweep (S := (tab, st.out, st.out.length, st.slots, (i : Int))) hn hr hp hg rfl hT1 hac1
    rw [e1, Option.bind_some]
    unfold hstep
    rw [if_pos hm, hfr]
    dsimp only
    have hord1 : Ord (st.act.filter (live (i : Int))) := hord.sublist List.filter_sublist
    have ht := (spn_t code i).1
    have hdl := hp.dl
    have hsl := h.o.s0
    have htl := hT2.l
    have hal := hp.a.al
    generalize ext st.out (gi code i).D = out at *
    generalize st.act.filter (live (i : Int)) = act at *
    by_cases hf : (act.length : Int) < regs
    · obtain ⟨r, er, rl, rh⟩ := least_ok act out
      rw [if_pos hf, if_pos hf, if_pos (by omega), if_pos (by omega), if_pos (by omega), if_pos (by omega), if_pos (by omega), wr64 (by omega)]
      refine ⟨_, ?_, TB.stepA hp hT2 hg hf hr.2⟩
      rw [ht]
      simp
    · rw [if_neg hf, if_neg hf, if_neg (by omega), worst_eq hn hr hp hg (by omega) rfl hT2 hord1, Option.bind_some]
      have hlen : 0 < act.length := by omega
      have hb := lw_b (act.map wt) act.length
      obtain ⟨q, hq⟩ : ∃ q : Nat, lw (act.map wt) act.length = q := ⟨(lw (act.map wt) act.length).toNat, by omega⟩
      have hq1 : q < act.length := by omega
      have hmemq : gi act (q : Int) ∈ act := gi_mem (by omega) (by omega)
      have hw : wso act out act.length = reg out (gi act q) := by unfold wso; rw [if_neg (by omega), hq]
      obtain ⟨jq, hjq, hmq, eq, g0⟩ := hp.a.ac _ hmemq
      have hyq := hp.o.ye jq hjq hmq
      have hrq : reg out (gi act q) = (gi out (gi code jq).D).Reg := by unfold reg; rw [eq, (spn_t code jq).1]
      rw [← hrq] at hyq
      have htq := hT2.h2 _ hmemq
      have etq : (gi act (q : Int)).temp = (gi code jq).D := by rw [eq, (spn_t code jq).1]
      have hDq := (hg jq (by omega) hmq).1
      have hDq1 := hp.o.o2 jq hjq hmq
      have p1 := spn_wt hn hi
      have p2 := spn_wt hn (by omega : jq < code.length)
      rw [rweight_eq hn hi hg hm, Option.bind_some, rank_eq p1, Option.bind_some, hw, if_pos (by omega), if_pos (by omega), htq, etq, rweight_eq hn (by omega) hg hmq, Option.bind_some, rank_eq p2, Option.bind_some, wr64 (by omega), wr64 (by omega)]
      -- which one it is
      have hall : (act ++ [spn code i]).length = act.length + 1 := by simp
      have hlw : lw ((act ++ [spn code i]).map wt) (act ++ [spn code i]).length = if rk (wt (spn code i)) < rk (wt (spn code jq)) then (act.length : Int) else (q : Int) := by
        rw [hall]
        simp only [lw]
        rw [List.map_append, lw_app _ _ _ (by simp), hq, if_neg (by omega)]
        have g1 : gi (act.map wt ++ [spn code i].map wt) (act.length : Int) = wt (spn code i) := by
          simp [gi]
        have g2 : gi (act.map wt ++ [spn code i].map wt) (q : Int) = wt (spn code jq) := by
          rw [gi_app (by omega) (by simp; omega), gi_map hq1, eq]
        rw [g1, g2, less_rk p1 p2]
        by_cases c : rk (wt (spn code i)) < rk (wt (spn code jq))
        · simp [c]
        · simp [c]
      rw [hlw]
      by_cases hc : rk (wt (spn code i)) < rk (wt (spn code jq))
      · rw [if_pos hc, if_pos hc, if_pos (by omega), if_pos (by omega)]
        have e2 : gi (act ++ [spn code i]) (act.length : Int) = spn code i := by simp [gi]
        have e3 : (act ++ [spn code i]).eraseIdx (act.length : Int).toNat = act := by
          rw [Int.toNat_natCast, List.eraseIdx_eq_take_drop_succ]; simp
        rw [e2, e3, ht, List.set_set]
        refine ⟨tab1, ?_, TB.stepS hp hT2 hg⟩
        simp
      · rw [if_neg hc, if_neg hc, if_pos (by omega), if_pos (by omega), if_pos (by omega), if_pos (by simp; omega)]
        have e2 : gi (act ++ [spn code i]) (q : Int) = gi act q := gi_app (by omega) (by omega)
        have hne : (gi code i).D.toNat ≠ (gi code jq).D.toNat := by have := hp.ne hg hjq hmq; omega
        have e3 : gi out (gi code jq).D = ⟨reg out (gi act q), 0⟩ := by
          rw [hrq] at hyq g0 ⊢
          have h1 : (gi out (gi code jq).D).Slot = 0 := by omega
          cases hx : gi out (gi code jq).D
          rw [hx] at h1
          simp only [] at h1
          rw [h1]
        rw [e2, ht, etq, e3, Int.toNat_natCast, List.set_comm _ _ hne]
        have := TB.stepE hp hT2 hg hr.2 hq1 (r := reg out (gi act q)) rfl
        rw [etq] at this
        refine ⟨_, ?_, this⟩
        simp
  · rw [if_neg hm]
    unfold hstep
    rw [if_neg hm, wr64 (by omega)]
    refine ⟨tab, rfl, hT.l, hT.h0, fun r hr8 => ?_, hT.h2⟩
    rcases hT.h1 r hr8 with c | ⟨j, hj, hmj, e, c⟩
    · exact .inl c
    · exact .inr ⟨j, by omega, hmj, e, c.imp id fun c => by omega⟩
theorem ref_init : loop selvageref14_Homes.l1 (((List.replicate 8 (0 : Int)), 0) : (List Int) × Int) = some (List.replicate 8 (-1)) := B.loop_of_F 20 (by kernel_rfl)
/-- What the document's answer is. -/
theorem rhomes (code : List api_Ins) (l : List api_Loc) (regs : Int) (hn : code.length ≤ 400) (hl : l.length ≤ 16) : selvageref14_Homes.m code l regs = alloc_Homes.m code l regs := by
  obtain ⟨b, e1, e2, hb⟩ := right_same code l hn hl
  unfold selvageref14_Homes.m alloc_Homes.m
  rw [e1, e2, Option.bind_some, Option.bind_some]
  cases b
  · rfl
  · rw [if_pos rfl, if_pos rfl]
    have hg := (hb rfl).good
    by_cases h1 : regs < 1
    · rw [if_pos h1]; rfl
    · rw [if_neg h1]
      by_cases h2 : regs > 8
      · simp [h2]
      · simp only [h2, decide_false, Option.bind_some, Bool.false_eq_true, if_false]
        have hr : 1 ≤ regs ∧ regs ≤ 8 := by omega
        have hA := loop_st (f := alloc_Homes.l1 code regs) code.length (stT code regs) ((hs code regs code.length).out, (hs code regs code.length).out.length) (fun i hi => (homes_step hn hg hr hi (hs_ok hn hg hr i (by omega))).1) (by
          unfold stT alloc_Homes.l1
          dsimp only
          rw [if_neg (by omega)])
        have hR : Tot (fun o => o = ((hs code regs code.length).out, (hs code regs code.length).out.length)) (loop (selvageref14_Homes.l2 code regs) (rT code regs 0 (List.replicate 8 (-1)))) := by
          refine loop_T code.length (fun i s => ∃ tab, s = rT code regs i tab ∧ TB code regs i (i : Int) tab (hs code regs i).out (hs code regs i).act) (fun i s hi hs' => ?_) (fun s hs' => ?_) ⟨_, rfl, by simp, fun r hr8 _ => gi_replicate (by omega) (by omega), fun r hr8 => .inl (gi_replicate (by omega) (by omega)), fun a ha => by simp [hs] at ha⟩
          · obtain ⟨tab, rfl, hT⟩ := hs'
            obtain ⟨tab', e, hT'⟩ := ref_step hn hg hr hi hT
            exact ⟨_, e, tab', rfl, hT'⟩
          · obtain ⟨tab, rfl, hT⟩ := hs'
            unfold selvageref14_Homes.l2 rT
            dsimp only
            exact .ff (by omega) (.some rfl)
        obtain ⟨o, e, rfl⟩ := hR
        rw [ref_init, Option.bind_some]
        have eR : loop (selvageref14_Homes.l2 code regs) ((List.replicate 8 (-1), ([] : List api_Home), ([] : List api_Home).length, 0, 0) : (List Int) × (List api_Home) × Nat × Int × Int) = some ((hs code regs code.length).out, (hs code regs code.length).out.length) := e
        have eA : loop (alloc_Homes.l1 code regs) ((([] : List api_Home), ([] : List api_Home).length, ([] : List alloc_span), 0, 0) : (List api_Home) × Nat × (List alloc_span) × Int × Int) = some ((hs code regs code.length).out, (hs code regs code.length).out.length) := hA
        rw [eR, eA]
end Go.Proofs.Ytgjibbicplbgbaa.W
