/- Chapter 16: which instructions the document lets in. -/
import Derived.Test.YtcnchjlomcafeaaPM
set_option linter.unusedVariables false
set_option linter.unusedSimpArgs false
namespace Go.Proofs.Ytcnchjlomcafeaa.W
open Go Go.RowKit Go.Proofs.Ytcnchjlomcafeaa.B
theorem formOf_le (n : Int) : 0 ≤ (isa_formOf.m n).1 ∧ (isa_formOf.m n).1 ≤ 10 := by
  by_cases h : 1 ≤ n ∧ n ≤ 23
  · rcases (by omega : n = 1 ∨ n = 2 ∨ n = 3 ∨ n = 4 ∨ n = 5 ∨ n = 6 ∨ n = 7 ∨ n = 8 ∨ n = 9 ∨ n = 10 ∨ n = 11 ∨ n = 12 ∨ n = 13 ∨ n = 14 ∨ n = 15 ∨ n = 16 ∨ n = 17 ∨ n = 18 ∨ n = 19 ∨ n = 20 ∨ n = 21 ∨ n = 22 ∨ n = 23) with
      rfl | rfl | rfl | rfl | rfl | rfl | rfl | rfl | rfl | rfl | rfl | rfl | rfl | rfl | rfl | rfl | rfl | rfl | rfl | rfl | rfl | rfl | rfl <;> decide
  · have h0 : (isa_formOf.m n).1 = 0 := by
      rcases Classical.em ((isa_formOf.m n).1 = 0) with h1 | h1
      · exact h1
      · exact absurd (formOf_in n h1) h
    omega
theorem sort_eq (op : Int) : selvageref15_sort.m op = some (isa_formOf.m op).1 := by
  by_cases h : 1 ≤ op ∧ op ≤ 23
  · rcases (by omega : op = 1 ∨ op = 2 ∨ op = 3 ∨ op = 4 ∨ op = 5 ∨ op = 6 ∨ op = 7 ∨ op = 8 ∨ op = 9 ∨ op = 10 ∨ op = 11 ∨ op = 12 ∨ op = 13 ∨ op = 14 ∨ op = 15 ∨ op = 16 ∨ op = 17 ∨ op = 18 ∨ op = 19 ∨ op = 20 ∨ op = 21 ∨ op = 22 ∨ op = 23) with
      rfl | rfl | rfl | rfl | rfl | rfl | rfl | rfl | rfl | rfl | rfl | rfl | rfl | rfl | rfl | rfl | rfl | rfl | rfl | rfl | rfl | rfl | rfl <;> rfl
  · have h0 : (isa_formOf.m op).1 = 0 := by
      rcases Classical.em ((isa_formOf.m op).1 = 0) with h1 | h1
      · exact h1
      · exact absurd (formOf_in op h1) h
    rw [h0]; unfold selvageref15_sort.m
    rw [if_pos (by simp; omega)]
def inrB (o : Unit ⊕ Bool) : Bool := match o with | .inl _ => false | .inr r => r
theorem has_of {u : ByteArray} {c : Int} {b : Bool} (h : (loopF (selvageref15_has.l0 u c) 6 0).map inrB = some b) : selvageref15_has.m u c = some b := by
  unfold selvageref15_has.m
  cases hl : loopF (selvageref15_has.l0 u c) 6 0 with
  | none => rw [hl] at h; cases h
  | some o =>
    rw [hl] at h
    rw [loop_of_F 6 hl, Option.bind_some]
    cases o <;> exact h
theorem tabl (k : Int) (h : 1 ≤ k ∧ k ≤ 10) : ∃ u, selvageref15_uses.m k = some u ∧ selvageref15_has.m u 116 = some (isa_used.m k).1 ∧ selvageref15_has.m u 97 = some (isa_used.m k).2.1 ∧ selvageref15_has.m u 98 = some (isa_used.m k).2.2.1 ∧
    selvageref15_has.m u 105 = some (!decide ((isa_used.m k).2.2.2.1 = (isa_used.m k).2.2.2.2.1)) ∧ selvageref15_bounds.m k = ((isa_used.m k).2.2.2.1, (isa_used.m k).2.2.2.2.1, (isa_used.m k).2.2.2.2.2) := by
  rcases (by omega : k = 1 ∨ k = 2 ∨ k = 3 ∨ k = 4 ∨ k = 5 ∨ k = 6 ∨ k = 7 ∨ k = 8 ∨ k = 9 ∨ k = 10) with rfl | rfl | rfl | rfl | rfl | rfl | rfl | rfl | rfl | rfl
  all_goals exact ⟨_, rfl, has_of rfl, has_of rfl, has_of rfl, has_of rfl, rfl⟩
/-! ### the words are made without a panic -/
def TotQ (o : Option (Int × Int ⊕ (Int × Int))) : Prop := ∃ q, o = some q ∧ (match q with | .inl _ => True | .inr r => r.2 = 0)
theorem bindQ {α : Type} {o : Option α} {f : α → Option (Int × Int ⊕ (Int × Int))} (h : ∃ r, o = some r) (hf : ∀ r, TotQ (f r)) : TotQ (o.bind f) := by
  obtain ⟨r, rfl⟩ := h; exact hf r
theorem iteQ {c : Prop} [Decidable c] {a b : Option (Int × Int ⊕ (Int × Int))} (h1 : c → TotQ a) (h2 : ¬ c → TotQ b) : TotQ (if c then a else b) := by
  split
  · exact h1 ‹_›
  · exact h2 ‹_›
theorem doneQ (a : Int × Int) : TotQ (some (.inl a)) := ⟨_, rfl, trivial⟩
theorem retQ (a : Int) : TotQ ((some (a, (0 : Int))).map Sum.inr) := ⟨_, rfl, rfl⟩
theorem put_tot (a : selvageref15_word) (n b : Int) (h : 0 ≤ b ∧ b ≤ 64) : ∃ r, selvageref15_word_put.m a n b = some r := by
  have hw : wrap64 (b - 1) = b - 1 := w64 (by omega)
  obtain ⟨o, ho, _⟩ := loop_tot (f := selvageref15_word_put.l0 n) (fun s : Int × Int => -1 ≤ s.2 ∧ s.2 < 64) (fun s => (s.2 + 1).toNat) (fun _ => True) (by
    rintro ⟨m, i⟩ ⟨h0, h1⟩
    simp only at h0 h1
    unfold selvageref15_word_put.l0
    simp only []
    by_cases hi : i ≥ 0
    · left
      rw [if_pos (by simpa using hi)]
      refine ⟨_, rfl, ⟨?_, ?_⟩, ?_⟩ <;> simp only [] <;> rw [w64 (show -9223372036854775808 ≤ i - 1 ∧ i - 1 < 9223372036854775808 by omega)] <;> omega
    · right
      rw [if_neg (by simpa using hi)]
      exact ⟨_, rfl, trivial⟩) (a.w, wrap64 (b - 1)) (by rw [hw]; exact ⟨by simp only []; omega, by simp only []; omega⟩)
  unfold selvageref15_word_put.m
  rw [ho]
  exact ⟨_, rfl⟩
theorem pick_tot (op : Int) (l m : List Int) (h : l.length ≤ m.length ∧ l.length ≤ 64) : ∃ r, selvageref15_pick.m op l m = some r := by
  obtain ⟨o, ho, _⟩ := loop_tot (f := selvageref15_pick.l0 op l m) (fun i : Int => 0 ≤ i ∧ i ≤ l.length) (fun i => (l.length - i).toNat) (fun _ => True) (by
    rintro i ⟨h0, h1⟩
    unfold selvageref15_pick.l0
    by_cases hi : i < l.length
    · rw [if_pos (by simpa using hi), if_pos ⟨h0, hi⟩]
      by_cases he : gi l i = op
      · right
        rw [if_pos (by simpa using he), if_pos ⟨h0, by omega⟩]
        exact ⟨_, rfl, trivial⟩
      · left
        rw [if_neg (by simpa using he), w64 (show _ ∧ _ by omega)]
        exact ⟨_, rfl, ⟨by omega, by omega⟩, by omega⟩
    · right
      rw [if_neg (by simpa using hi)]
      exact ⟨_, rfl, trivial⟩) 0 ⟨by omega, by omega⟩
  unfold selvageref15_pick.m
  rw [ho]
  cases o
  · exact ⟨_, rfl⟩
  · exact ⟨_, rfl⟩
theorem ite_some {c : Prop} [Decidable c] {α : Type} (a b : α) : ∃ r, (if c then some a else some b) = some r := by split <;> exact ⟨_, rfl⟩
set_option maxHeartbeats 1000000 in
theorem ref_enc (x : api_Inst) : ∃ w e, selvageref15_Encode.m x = some (w, e) ∧ (e = 0 ↔ isa_check.m (isa_formOf.m x.Op).1 x = some 0) := by
  have hk := formOf_le x.Op
  unfold selvageref15_Encode.m
  rw [sort_eq]
  generalize (isa_formOf.m x.Op).1 = k at hk
  simp only [Option.bind_some]
  by_cases h0 : k = 0
  · subst h0
    refine ⟨0, 3, rfl, ?_⟩
    have : isa_check.m 0 x = some 3 := by unfold isa_check.m; rw [if_pos (by simp)]
    rw [this]; decide
  obtain ⟨u, hu, ht, ha, hb, hi, hbo⟩ := tabl k (by omega)
  have hm : (isa_used.m k).2.2.2.2.2 ≠ 0 := by rcases used_mod k with h | h <;> rw [h] <;> decide
  simp only [hu, ht, ha, hb, hi, hbo, Option.bind_some]
  unfold isa_check.m
  generalize (isa_used.m k).1 = bt at *
  generalize (isa_used.m k).2.1 = ba at *
  generalize (isa_used.m k).2.2.1 = bb at *
  generalize (isa_used.m k).2.2.2.1 = lo at *
  generalize (isa_used.m k).2.2.2.2.1 = up at *
  generalize (isa_used.m k).2.2.2.2.2 = st at *
  -- unused fields
  have c1 : (if (decide (k = 0)) = true then (some true) else (if ((!bt) && (!decide (x.T = 0))) = true then (some true) else (if ((!ba) && (!decide (x.A = 0))) = true then (some true) else (if ((!bb) && (!decide (x.B = 0))) = true then (some true) else (some ((!(!decide (lo = up))) && (!decide (x.Imm = 0)))))) ) : Option Bool) =
      some (((((decide (k = 0)) || ((!bt) && (!decide (x.T = 0)))) || ((!ba) && (!decide (x.A = 0)))) || ((!bb) && (!decide (x.B = 0)))) || ((!(!decide (lo = up))) && (!decide (x.Imm = 0)))) := by
    cases decide (k = 0) <;> cases ((!bt) && (!decide (x.T = 0))) <;> cases ((!ba) && (!decide (x.A = 0))) <;> cases ((!bb) && (!decide (x.B = 0))) <;> rfl
  rw [c1, Option.bind_some]
  generalize (((((decide (k = 0)) || ((!bt) && (!decide (x.T = 0)))) || ((!ba) && (!decide (x.A = 0)))) || ((!bb) && (!decide (x.B = 0)))) || ((!(!decide (lo = up))) && (!decide (x.Imm = 0)))) = C1
  cases C1 with
  | true => exact ⟨0, 3, rfl, by simp⟩
  | false =>
  simp only [Bool.false_eq_true, if_false, hm, ne_eq, not_false_eq_true, if_true]
  -- bounds
  have most : (if (decide (k = 8)) = true then (some 3) else (some 31) : Option Int) = some (if k = 8 then 3 else 31) := by by_cases h : k = 8 <;> simp [h]
  rw [most, Option.bind_some]
  by_cases hB : (0 ≤ x.T ∧ x.T ≤ (if k = 8 then 3 else 31)) ∧ (0 ≤ x.A ∧ x.A ≤ 31) ∧ (0 ≤ x.B ∧ x.B ≤ 31) ∧ (lo ≤ x.Imm ∧ x.Imm ≤ up) ∧ Int.tmod x.Imm st = 0
  · obtain ⟨⟨t0, t1⟩, ⟨a0, a1⟩, ⟨b0, b1⟩, ⟨i0, i1⟩, hmod⟩ := hB
    have rA : isa_reg.m x.A = true := (reg_iff _).2 ⟨a0, by omega⟩
    have rB : isa_reg.m x.B = true := (reg_iff _).2 ⟨b0, by omega⟩
    have t2 : x.T ≤ 31 := by split at t1 <;> omega
    have rT : isa_reg.m x.T = true := (reg_iff _).2 ⟨t0, by omega⟩
    have t3 : k = 8 → x.T ≤ 3 := fun h => by rw [if_pos h] at t1; exact t1
    have key : isa_check.m k x = isa_check.m k x := rfl
    rw [if_neg (by simp; omega)]
    simp only [Option.bind_some, hmod, decide_true, Bool.not_true, Bool.false_eq_true, if_false]
    have e8 : (if ((decide (k = 8)) && ((decide (x.T < 0)) || (decide (x.T > 3)))) = true then (some true) else (if (decide (k = 8)) = true then (if (isa_reg.m x.A) = true then (if (((!(isa_reg.m x.B)) || (decide (x.Imm < lo))) || (decide (x.Imm > up))) = true then (some true) else some false) else (some true)) else (if (isa_reg.m x.T) = true then (if (isa_reg.m x.A) = true then (if (((!(isa_reg.m x.B)) || (decide (x.Imm < lo))) || (decide (x.Imm > up))) = true then (some true) else some false) else (some true)) else (some true))) : Option Bool) = some false := by
      have c2 : (((!(isa_reg.m x.B)) || (decide (x.Imm < lo))) || (decide (x.Imm > up))) = false := by simp [rB]; omega
      rw [rA, rT, c2]
      by_cases h8 : k = 8
      · have := t3 h8
        rw [if_neg (by simp; omega)]; simp
      · rw [if_neg (by simp [h8])]; simp
    rw [e8]
    have tot : ∀ o : Option (Int × Int ⊕ (Int × Int)), TotQ o → ∃ w e, (o.bind fun o_86 => match o_86 with | .inl s_88 => (some (s_88.1, (0 : Int))) | .inr r_1019 => some r_1019) = some (w, e) ∧ (e = 0 ↔ (some false).bind (fun o_12 : Bool => if o_12 = true then (some 2) else (some 0)) = some (0 : Int)) := by
      rintro _ ⟨q, rfl, hq⟩
      rcases q with q | q
      · exact ⟨_, _, rfl, by simp⟩
      · exact ⟨q.1, q.2, rfl, by simp only [] at hq; simp [hq]⟩
    refine tot _ ?_
    repeat' first
      | exact doneQ _
      | exact retQ _
      | refine bindQ (put_tot _ _ _ (by decide)) fun _ => ?_
      | refine bindQ (pick_tot _ _ _ (by decide)) fun _ => ?_
      | refine bindQ (ite_some _ _) fun _ => ?_
      | refine iteQ (fun h8 => ?_) (fun h8 => ?_)
    refine absurd ⟨t0, ?_⟩ h8
    have := t3 (by rename_i g; simpa using g)
    omega
  · have mT : x.T ≤ (if k = 8 then 3 else 31) ↔ ¬ x.T > (if k = 8 then 3 else 31) := by omega
    have o2 : (if ((((((((decide (x.T < 0)) || (decide (x.T > (if k = 8 then 3 else 31)))) || (decide (x.A < 0))) || (decide (x.A > 31))) || (decide (x.B < 0))) || (decide (x.B > 31))) || (decide (x.Imm < lo))) || (decide (x.Imm > up))) = true then (some true) else (some (!decide ((Int.tmod x.Imm st) = 0))) : Option Bool) = some true := by
      by_cases hc : (x.T < 0 ∨ x.T > (if k = 8 then 3 else 31)) ∨ (x.A < 0 ∨ x.A > 31) ∨ (x.B < 0 ∨ x.B > 31) ∨ (x.Imm < lo ∨ x.Imm > up)
      · rw [if_pos]; simp only [Bool.or_eq_true, decide_eq_true_eq]; omega
      · have : ¬ Int.tmod x.Imm st = 0 := fun e => hB ⟨by omega, by omega, by omega, by omega, e⟩
        split <;> simp [this]
    rw [o2, Option.bind_some, if_pos rfl]
    refine ⟨0, 2, rfl, ?_⟩
    have e8 : (if ((decide (k = 8)) && ((decide (x.T < 0)) || (decide (x.T > 3)))) = true then (some true) else (if (decide (k = 8)) = true then (if (isa_reg.m x.A) = true then (if (((!(isa_reg.m x.B)) || (decide (x.Imm < lo))) || (decide (x.Imm > up))) = true then (some true) else some (!decide ((Int.tmod x.Imm st) = 0))) else (some true)) else (if (isa_reg.m x.T) = true then (if (isa_reg.m x.A) = true then (if (((!(isa_reg.m x.B)) || (decide (x.Imm < lo))) || (decide (x.Imm > up))) = true then (some true) else some (!decide ((Int.tmod x.Imm st) = 0))) else (some true)) else (some true))) : Option Bool) = some true := by
      unfold isa_reg.m
      by_cases h8 : k = 8
      · rw [if_pos h8] at hB
        by_cases hT : x.T < 0 ∨ x.T > 3
        · rw [if_pos (by simp [h8]; omega)]
        rw [if_neg (by simp; omega), if_pos (by simpa using h8)]
        by_cases hA : 0 ≤ x.A ∧ x.A < 32
        · rw [if_pos (by simp; omega)]
          by_cases hi : ((x.B < 0 ∨ x.B > 31) ∨ x.Imm < lo) ∨ x.Imm > up
          · rw [if_pos (by simp; omega)]
          · have : ¬ Int.tmod x.Imm st = 0 := fun e => hB ⟨by omega, by omega, by omega, by omega, e⟩
            rw [if_neg (by simp; omega)]; simp [this]
        · rw [if_neg (by simp; omega)]
      · rw [if_neg h8] at hB
        rw [if_neg (by simp [h8]), if_neg (by simpa using h8)]
        by_cases hT : 0 ≤ x.T ∧ x.T < 32
        · rw [if_pos (by simp; omega)]
          by_cases hA : 0 ≤ x.A ∧ x.A < 32
          · rw [if_pos (by simp; omega)]
            by_cases hi : ((x.B < 0 ∨ x.B > 31) ∨ x.Imm < lo) ∨ x.Imm > up
            · rw [if_pos (by simp; omega)]
            · have : ¬ Int.tmod x.Imm st = 0 := fun e => hB ⟨by omega, by omega, by omega, by omega, e⟩
              rw [if_neg (by simp; omega)]; simp [this]
          · rw [if_neg (by simp; omega)]
        · rw [if_neg (by simp; omega)]
    rw [e8]; simp
end Go.Proofs.Ytcnchjlomcafeaa.W
