/- PA: several texts in one. -/
import Derived.Test.YtbdbmklkgjbehaaQA
import Derived.Test.YtbdbmklkgjbehaaLB
import Derived.Test.YtbdbmklkgjbehaaQB
set_option linter.unusedVariables false
set_option linter.unusedSimpArgs false
set_option linter.unusedSectionVars false
namespace Go.Proofs.Ytbdbmklkgjbehaa.W
open Go Go.RowKit Go.Proofs.Ytbdbmklkgjbehaa Go.Proofs.Ytbdbmklkgjbehaa.X
open Go.Proofs.Ytbdbmklkgjbehaa.B (wr aget aset loop loop_in loop_out loop_tot)

theorem wr64 {x : Int} (h : -9223372036854775808 ≤ x ∧ x < 9223372036854775808) : wr .i64 x = x := B.w64 h
theorem loop_cnt {S O : Type} {f : S → Option (S ⊕ O)} (n : Nat) (I : Nat → S → Prop) (Q : O → Prop)
    (h1 : ∀ i s, i < n → I i s → (∃ s', f s = some (.inl s') ∧ I (i + 1) s') ∨ ∃ o, f s = some (.inr o) ∧ Q o) (h2 : ∀ s, I n s → ∃ o, f s = some (.inr o) ∧ Q o) {s : S} (h : I 0 s) : ∃ o, loop f s = some o ∧ Q o := by
  have key : ∀ m i s, i + m = n → I i s → ∃ o, loop f s = some o ∧ Q o := by
    intro m
    induction m with
    | zero =>
      intro i s hi hs
      have : i = n := by omega
      subst this
      obtain ⟨o, ho, hq⟩ := h2 s hs
      exact ⟨o, loop_out ho, hq⟩
    | succ m ih =>
      intro i s hi hs
      rcases h1 i s (by omega) hs with ⟨s', e, hs'⟩ | ⟨o, ho, hq⟩
      · obtain ⟨o, k1, k2⟩ := ih (i + 1) s' (by omega) hs'
        exact ⟨o, (loop_in e).trans k1, k2⟩
      · exact ⟨o, loop_out ho, hq⟩
  exact key n 0 s (by omega) h
theorem loop_st {S O : Type} {f : S → Option (S ⊕ O)} (n : Nat) (st : Nat → S) (o : O) (h1 : ∀ i, i < n → f (st i) = some (.inl (st (i + 1)))) (h2 : f (st n) = some (.inr o)) : loop f (st 0) = some o := by
  obtain ⟨o', k1, rfl⟩ := loop_cnt (f := f) n (fun i s => s = st i) (fun o' => o' = o) (fun i s hi hs => .inl ⟨_, by rw [hs]; exact h1 i hi, rfl⟩) (fun s hs => ⟨o, by rw [hs]; exact h2, rfl⟩) rfl
  exact k1
theorem loop_find {α : Type} [Inhabited α] (l : List α) (p : α → Bool) {f : Int → Option (Int ⊕ (Int ⊕ Unit))} (h1 : ∀ i : Nat, i < l.length → f (i : Int) = if p (gi l i) = true then some (.inr (.inl (i : Int))) else some (.inl ((i + 1 : Nat) : Int)))
    (h2 : f (l.length : Int) = some (.inr (.inr ()))) :
    ∃ o, loop f 0 = some o ∧ ((∃ i : Nat, i < l.length ∧ o = .inl (i : Int) ∧ p (gi l i) = true ∧ ∀ j : Nat, j < i → p (gi l j) = false) ∨ (o = .inr () ∧ ∀ j : Nat, j < l.length → p (gi l j) = false)) := by
  refine loop_cnt (f := f) l.length (fun i s => s = (i : Int) ∧ ∀ j : Nat, j < i → p (gi l j) = false) _ (fun i s hi hs => ?_) (fun s hs => ?_) ⟨rfl, fun j hj => by omega⟩
  · obtain ⟨rfl, hs⟩ := hs
    rw [h1 i hi]
    by_cases hp : p (gi l i) = true
    · rw [if_pos hp]; exact .inr ⟨_, rfl, .inl ⟨i, hi, rfl, hp, hs⟩⟩
    · rw [if_neg hp]
      refine .inl ⟨_, rfl, rfl, fun j hj => ?_⟩
      by_cases e : j = i
      · subst e; simpa using hp
      · exact hs j (by omega)
  · obtain ⟨rfl, hs⟩ := hs
    exact ⟨_, h2, .inr ⟨rfl, hs⟩⟩

def mks (x : api_Ins) : Bool := (tree_shape.m x.Op).1.d

def Tot {X : Type} (Q : X → Prop) (E : Option X) : Prop := ∃ x, E = some x ∧ Q x
section
variable {X Y : Type} {Q : X → Prop} {R : Y → Prop} {E : Option Y} {k : Y → Option X} {c : Prop} [Decidable c] {a b : Option X} {x : X}
theorem Tot.some (h : Q x) : Tot Q (some x) := ⟨x, rfl, h⟩
theorem Tot.bind (h : Tot R E) (h2 : ∀ y, R y → Tot Q (k y)) : Tot Q (E.bind k) := by
  obtain ⟨y, rfl, hy⟩ := h
  exact h2 y hy
theorem Tot.bindE {y : Y} (h : E = .some y) (h2 : Tot Q (k y)) : Tot Q (E.bind k) := by
  subst h; exact h2
theorem Tot.gd (h : c) (h2 : Tot Q a) : Tot Q (if c then a else none) := by rw [if_pos h]; exact h2
theorem Tot.ite (h1 : c → Tot Q a) (h2 : ¬c → Tot Q b) : Tot Q (if c then a else b) := by
  by_cases h : c
  · rw [if_pos h]; exact h1 h
  · rw [if_neg h]; exact h2 h
theorem Tot.tt (h : c) (h1 : Tot Q a) : Tot Q (if c then a else b) := by rw [if_pos h]; exact h1
theorem Tot.ff (h : ¬ c) (h1 : Tot Q b) : Tot Q (if c then a else b) := by rw [if_neg h]; exact h1
theorem Tot.let {Z : Type} {z : Z} {f : Z → Option X} (h : ∀ v, v = z → Tot Q (f v)) : Tot Q (letC z f) := h z rfl
theorem Tot.mono {Q' : X → Prop} (h : Tot Q a) (k : ∀ x, Q x → Q' x) : Tot Q' a := by
  obtain ⟨x, e, hx⟩ := h
  exact ⟨x, e, k x hx⟩
end
section
variable {S O : Type} {f : S → Option (S ⊕ O)} {s : S} {Q : O → Prop}
theorem loop_T (n : Nat) (I : Nat → S → Prop) (h1 : ∀ i s, i < n → I i s → Tot (fun z => match z with | .inl s' => I (i + 1) s' | .inr o => Q o) (f s))
    (h2 : ∀ s, I n s → Tot (fun z => match z with | .inl _ => False | .inr o => Q o) (f s)) (h : I 0 s) : Tot Q (loop f s) := by
  refine loop_cnt n I Q (fun i s hi hs => ?_) (fun s hs => ?_) h
  · obtain ⟨z, e, hz⟩ := h1 i s hi hs
    cases z with
    | inl s' => exact .inl ⟨s', e, hz⟩
    | inr o => exact .inr ⟨o, e, hz⟩
  · obtain ⟨z, e, hz⟩ := h2 s hs
    cases z with
    | inl s' => exact hz.elim
    | inr o => exact ⟨o, e, hz⟩
theorem loop_M (I : S → Prop) (μ : S → Nat) (h1 : ∀ s, I s → Tot (fun z => match z with | .inl s' => I s' ∧ μ s' < μ s | .inr o => Q o) (f s)) (h : I s) : Tot Q (loop f s) := by
  refine loop_tot I μ Q (fun s hs => ?_) s h
  obtain ⟨z, e, hz⟩ := h1 s hs
  cases z with
  | inl s' => exact .inl ⟨s', e, hz⟩
  | inr o => exact .inr ⟨o, e, hz⟩
end
theorem gi_set {α : Type} [Inhabited α] {l : List α} {i : Nat} {j : Int} {x : α} (hi : i < l.length) (h0 : 0 ≤ j) (hj : j < l.length) : gi (l.set i x) j = if (i : Int) = j then x else gi l j := by
  have hj' : j.toNat < l.length := by omega
  unfold gi
  rw [List.getD_eq_getElem?_getD, List.getD_eq_getElem?_getD, List.getElem?_set]
  by_cases h : i = j.toNat
  · rw [if_pos h, if_pos hi, if_pos (by omega)]; rfl
  · rw [if_neg h, if_neg (by omega)]
theorem gi_replicate {α : Type} [Inhabited α] {n : Nat} {x : α} {j : Int} (h0 : 0 ≤ j) (h : j < n) : gi (List.replicate n x) j = x := by
  unfold gi
  rw [List.getD_eq_getElem?_getD, List.getElem?_replicate, if_pos (by omega)]; rfl

theorem ops_c (op : Int) : (op = 1 ∨ op = 2 ∨ op = 3 ∨ op = 4 ∨ op = 5 ∨ op = 6 ∨ op = 7 ∨ op = 8 ∨ op = 9 ∨ op = 10 ∨ op = 11 ∨ op = 12 ∨ op = 13 ∨ op = 14 ∨ op = 15 ∨ op = 16 ∨ op = 17 ∨ op = 18) ∨
    (op ≠ 1 ∧ op ≠ 2 ∧ op ≠ 3 ∧ op ≠ 4 ∧ op ≠ 5 ∧ op ≠ 6 ∧ op ≠ 7 ∧ op ≠ 8 ∧ op ≠ 9 ∧ op ≠ 10 ∧ op ≠ 11 ∧ op ≠ 12 ∧ op ≠ 13 ∧ op ≠ 14 ∧ op ≠ 15 ∧ op ≠ 16 ∧ op ≠ 17 ∧ op ≠ 18) := by omega
theorem mks_shape (x : api_Ins) : mks x = (tree_shape.m x.Op).1.d := rfl
theorem places_T (u : tree_uses) (x : api_Ins) (l : List api_Loc) (hl : l.length ≤ 16) : Tot (fun _ => True) (tree_places.m u x l) := by
  unfold tree_places.m
  refine .ite (fun _ => ?_) fun _ => .ite (fun _ => .some trivial) fun _ => .some trivial
  refine .bind (R := fun _ => True) (.ite (fun _ => .some trivial) fun _ => .ite (fun _ => .some trivial) fun _ => .some trivial) fun o _ => ?_
  cases o with
  | inr o => exact .some trivial
  | inl n =>
    refine .bind (R := fun b => b = false → 1 ≤ n ∧ n ≤ l.length ∧ 0 ≤ x.Loc ∧ x.Loc ≤ l.length - n) ?_ fun b hb => ?_
    · refine .ite (fun _ => .some fun e => by cases e) fun h1 => .ite (fun _ => .some fun e => by cases e) fun h2 => .ite (fun _ => .some fun e => by cases e) fun h3 => .let fun v hv => ?_
      rw [wr64 (by omega)] at hv
      refine .some fun e => ?_
      have := of_decide_eq_false e
      omega
    · refine .ite (fun _ => .some trivial) fun h => ?_
      have h := hb (by simpa using h)
      rw [wr64 (by omega)]
      refine Tot.gd (by omega) ?_
      refine Tot.let fun v hv => ?_
      refine .bind (R := fun _ => True) ?_ fun o _ => by cases o <;> exact .some trivial
      refine loop_T (f := tree_places.l1 u v) v.length (fun i s => s = (i : Int)) (fun i s hi hs => ?_) (fun s hs => ?_) rfl
      · have hvl : v.length ≤ 16 := by rw [hv]; simp; omega
        subst hs
        unfold tree_places.l1
        refine .tt (by omega) ?_
        refine Tot.gd (by omega) ?_
        refine Tot.let fun w hw => ?_
        refine .ite (fun _ => .some ?_) fun _ => .some trivial
        simp only []
        rw [wr64 (by omega)]; rfl
      · subst hs
        unfold tree_places.l1
        exact .ff (by omega) (.some trivial)
def Good (code : List api_Ins) (n : Nat) : Prop := ∀ i : Nat, i < n → mks (gi code i) = true → 0 ≤ (gi code i).D ∧ (gi code i).D < 400 ∧ ∀ j : Nat, j < i → mks (gi code j) = true → (gi code j).D ≠ (gi code i).D
structure RI (code : List api_Ins) (i : Nat) (s : (List Int) × (List Int) × (List (Int × Int))) : Prop where
  l1 : s.1.length = code.length
  l2 : s.2.1.length = code.length
  fr : ∀ j : Nat, 0 < j → j < code.length → 0 ≤ gi s.2.1 j ∧ gi s.2.1 j < j
  md : ∀ t v, aget s.2.2 t = some v → ∃ j : Nat, j < i ∧ v = (j : Int)
  al : ∀ j : Nat, j < i → mks (gi code j) = true → aget s.2.2 (gi code j).D ≠ none
  gd : Good code i
theorem temp_d {b : Bool} {n : Int} (h : tree_temp.m b n = true) : b = true → 0 ≤ n ∧ n < 400 := by
  unfold tree_temp.m at h
  intro e
  rw [if_pos e] at h
  split at h
  · split at h
    · omega
    · cases h
  · cases h
theorem right_l1 (code : List api_Ins) (l : List api_Loc) (hn : code.length ≤ 400) (hl : l.length ≤ 16) (h18 : (gi code (code.length - 1)).Op = 18) :
    Tot (fun o => match o with | .inl _ => True | .inr s => RI code code.length s) (loop (tree_Right.l1 code l) ((List.replicate code.length (0 : Int), List.replicate code.length (0 : Int), ([] : List (Int × Int)), 0) : (List Int) × (List Int) × (List (Int × Int)) × Int)) := by
  refine loop_T code.length (fun i s => RI code i (s.1, s.2.1, s.2.2.1) ∧ s.2.2.2 = (i : Int)) (fun i s hi hs => ?_) (fun s hs => ?_) ⟨⟨by simp, by simp, fun j h0 hj => ?_, fun t v h => (by cases h), fun j hj => by omega, fun j hj => by omega⟩, rfl⟩
  · obtain ⟨w, f, m, k⟩ := s
    obtain ⟨hI, rfl⟩ := hs
    obtain ⟨c1, c2, c3, c4, c5, c6⟩ := hI
    simp only [] at c1 c2 c3 c4 c5 c6
    unfold tree_Right.l1
    dsimp only
    refine .tt (by omega) ?_
    refine Tot.gd (by omega) ?_
    refine Tot.let fun x hx => ?_
    refine Tot.let fun r hr => ?_
    refine .bind (R := fun b => b = false → tree_temp.m r.1.d x.D = true) ?_ fun b1 hb1 => ?_
    · refine .ite (fun _ => ?_) fun _ => .some fun e => by cases e
      refine Tot.let fun v1 e1 => ?_
      refine .ite (fun h1 => ?_) fun _ => .some fun e => by cases e
      refine Tot.let fun v2 e2 => ?_
      refine .ite (fun _ => ?_) fun _ => .some fun e => by cases e
      refine Tot.let fun v3 e3 => ?_
      refine .ite (fun _ => ?_) fun _ => .some fun e => by cases e
      have hp := places_T r.1 x l hl
      exact .ite (fun _ => .bind hp fun y _ => .some fun _ => by rw [← e1]; exact h1) fun _ => .ite (fun _ => .bind hp fun y _ => .some fun _ => by rw [← e1]; exact h1) fun _ => .some fun e => by cases e
    refine .ite (fun _ => .some trivial) fun hb1' => ?_
    have ht := hb1 (by simpa using hb1')
    refine .bind (R := fun b => b = false → r.1.to_ = true → (i : Int) + 1 < x.To ∧ x.To < code.length) ?_ fun b2 hb2 => ?_
    · refine .ite (fun _ => ?_) fun h => .some fun _ e => absurd e h
      refine Tot.let fun v1 e1 => ?_
      rw [wr64 (by omega)] at e1
      exact .ite (fun _ => .some fun e => by cases e) fun h1 => .ite (fun _ => .some fun e => by cases e) fun h2 => .some fun _ _ => by omega
    refine .ite (fun _ => .some trivial) fun hb2' => ?_
    have hto := hb2 (by simpa using hb2')
    -- arrays
    let R : (List Int) × (List Int) → Prop := fun p => p.1.length = code.length ∧ p.2.length = code.length ∧ ∀ j : Nat, 0 < j → j < code.length → 0 ≤ gi p.2 j ∧ gi p.2 j < j
    have setf : ∀ (f : List Int) (t : Int), f.length = code.length → (i : Int) < t → t < code.length → (∀ j : Nat, 0 < j → j < code.length → 0 ≤ gi f j ∧ gi f j < j) → ∀ j : Nat, 0 < j → j < code.length → 0 ≤ gi (f.set t.toNat (i : Int)) j ∧ gi (f.set t.toNat (i : Int)) j < j := by
      intro f t hf h1 h2 h3 j h0 hj
      rw [gi_set (by omega) (by omega) (by omega)]
      by_cases e : (t.toNat : Int) = j
      · rw [if_pos e]; omega
      · rw [if_neg e]; exact h3 j h0 hj
    refine .bind (R := R) ?_ fun p hp => ?_
    · refine .ite (fun h => ?_) fun _ => .some ⟨c1, c2, c3⟩
      have := hto h
      refine Tot.gd (by omega) ?_
      refine Tot.gd (by omega) ?_
      refine Tot.let fun v1 e1 => ?_
      refine Tot.let fun v2 e2 => ?_
      refine Tot.gd (by omega) ?_
      refine Tot.let fun v3 e3 => ?_
      refine .some ⟨by rw [e2]; simp [c1], by rw [e3]; simp [c2], ?_⟩
      subst e3
      exact setf f x.To c2 (by omega) (by omega) c3
    obtain ⟨p1, p2, p3⟩ := hp
    have hlast : ¬ x.Op = 18 → (i : Int) + 1 < code.length := by
      intro hne
      rcases Nat.lt_or_ge (i + 1) code.length with c | c
      · omega
      · exfalso
        apply hne
        rw [hx]
        rw [show ((i : Nat) : Int) = code.length - 1 by omega]
        exact h18
    refine .bind (R := R) ?_ fun q hq => ?_
    · refine .ite (fun _ => .some ⟨p1, p2, p3⟩) fun h => ?_
      have := hlast h
      refine Tot.let fun v1 e1 => ?_
      rw [wr64 (by omega)] at e1
      refine Tot.gd (by omega) ?_
      refine Tot.gd (by omega) ?_
      refine Tot.let fun v2 e2 => ?_
      refine Tot.let fun v3 e3 => ?_
      refine Tot.let fun v4 e4 => ?_
      rw [wr64 (by omega)] at e4
      refine Tot.gd (by omega) ?_
      refine Tot.gd (by omega) ?_
      refine Tot.let fun v5 e5 => ?_
      refine .some ⟨by rw [e3]; simp [p1], by rw [e5]; simp [p2], ?_⟩
      subst e5
      simp only []
      exact setf p.2 v4 p2 (by omega) (by omega) p3
    obtain ⟨q1, q2, q3⟩ := hq
    have hmk : mks x = r.1.d := by rw [mks_shape, hr]
    refine .ite (fun hd => ?_) fun hd => ?_
    · have hrng := temp_d ht hd
      cases hm : aget m x.D with
      | some v => exact .some trivial
      | none =>
        simp only []
        refine Tot.let fun v1 e1 => ?_
        refine Tot.let fun v2 e2 => ?_
        rw [wr64 (by omega)] at e2
        subst e1
        refine .some ⟨⟨q1, q2, q3, fun t v h => ?_, fun j hj hmj => ?_, fun j hj hmj => ?_⟩, by simp only []; omega⟩
        · simp only [] at h
          rw [B.aget_aset] at h
          by_cases e : t = x.D
          · rw [if_pos e] at h; cases h; exact ⟨i, by omega, rfl⟩
          · rw [if_neg e] at h
            obtain ⟨j, hj, hv⟩ := c4 t v h
            exact ⟨j, by omega, hv⟩
        · simp only []
          rw [B.aget_aset]
          by_cases e : (gi code j).D = x.D
          · rw [if_pos e]; simp
          · rw [if_neg e]
            have hji : j ≠ i := by rintro rfl; exact e (by rw [hx])
            exact c5 j (by omega) hmj
        · by_cases e : j = i
          · subst e
            rw [← hx]
            refine ⟨hrng.1, hrng.2, fun k hk hmk e => ?_⟩
            have := c5 k hk hmk
            rw [e, hm] at this
            exact this rfl
          · exact c6 j (by omega) hmj
    · refine Tot.let fun v1 e1 => ?_
      rw [wr64 (by omega)] at e1
      have hno : mks (gi code i) = false := by rw [← hx, hmk]; simpa using hd
      refine .some ⟨⟨q1, q2, q3, fun t v h => ?_, fun j hj hmj => ?_, fun j hj hmj => ?_⟩, by simp only []; omega⟩
      · obtain ⟨j, hj, hv⟩ := c4 t v h
        exact ⟨j, by omega, hv⟩
      · have hji : j ≠ i := by rintro rfl; rw [hno] at hmj; cases hmj
        exact c5 j (by omega) hmj
      · have hji : j ≠ i := by rintro rfl; rw [hno] at hmj; cases hmj
        exact c6 j (by omega) hmj
  · obtain ⟨w, f, m, k⟩ := s
    obtain ⟨hI, rfl⟩ := hs
    unfold tree_Right.l1
    refine .ff (by simp only []; omega) (.some hI)
  · simp only []
    rw [gi_replicate (by omega) (by omega)]; omega
theorem above_T (t i : Int) (made : List (Int × Int)) (fr : List Int) (n : Nat) (hf : fr.length = n) (hi : 0 ≤ i ∧ i < n) (h1 : ∀ j : Nat, 0 < j → j < n → 0 ≤ gi fr j ∧ gi fr j < j) (h2 : ∀ v, aget made t = some v → 0 ≤ v) : Tot (fun _ => True) (tree_above.m t i made fr n) := by
  unfold tree_above.m
  cases hm : aget made t with
  | none => exact .some trivial
  | some v =>
    have hv := h2 v hm
    refine .bind (R := fun _ => True) ?_ fun o _ => by cases o <;> exact .some trivial
    refine loop_M (fun s => 0 ≤ s ∧ s < n) Int.toNat (fun s hs => ?_) hi
    unfold tree_above.l1
    refine .ite (fun h => ?_) fun h => .some trivial
    refine Tot.gd (by omega) ?_
    refine Tot.gd (by omega) ?_
    refine Tot.let fun w hw => ?_
    refine .ite (fun _ => .some trivial) fun _ => .some ?_
    have := h1 s.toNat (by omega) (by omega)
    rw [show ((s.toNat : Nat) : Int) = s by omega, ← hw] at this
    exact ⟨by omega, by omega⟩
theorem right_l2 (code : List api_Ins) (hn : code.length ≤ 400) (s : (List Int) × (List Int) × (List (Int × Int))) (h : RI code code.length s) :
    Tot (fun _ => True) (loop (tree_Right.l2 code s) ((code.length, 0) : Nat × Int)) := by
  refine loop_T code.length (fun i s => s.1 = code.length ∧ s.2 = (i : Int)) (fun i z hi hz => ?_) (fun z hz => ?_) ⟨rfl, rfl⟩
  · obtain ⟨n, k⟩ := z
    obtain ⟨h0, rfl⟩ := hz
    simp only [] at h0
    subst h0
    have hab : ∀ t, Tot (fun _ => True) (tree_above.m t (i : Int) s.2.2 s.2.1 code.length) := fun t => above_T t i s.2.2 s.2.1 code.length h.l2 ⟨by omega, by omega⟩ h.fr fun v hv => by
      obtain ⟨j, _, rfl⟩ := h.md t v hv; omega
    have hl1 := h.l1
    unfold tree_Right.l2
    dsimp only
    refine .tt (by omega) ?_
    refine Tot.gd (by omega) ?_
    refine Tot.let fun x hx => ?_
    refine .bind (R := fun _ => True) ?_ fun b _ => ?_
    · refine .ite (fun _ => ?_) fun _ => .some trivial
      refine Tot.gd (by omega) ?_
      refine Tot.gd (by omega) ?_
      refine Tot.let fun v hv => ?_
      exact .some trivial
    refine .ite (fun _ => .some trivial) fun _ => ?_
    refine Tot.let fun r hr => ?_
    refine .bind (R := fun _ => True) ?_ fun b _ => ?_
    · exact .ite (fun _ => .bind (hab _) fun y _ => .ite (fun _ => .ite (fun _ => .bind (hab _) fun y _ => .some trivial) fun _ => .some trivial) fun _ => .some trivial) fun _ => .ite (fun _ => .bind (hab _) fun y _ => .some trivial) fun _ => .some trivial
    refine .ite (fun _ => .some trivial) fun _ => ?_
    refine Tot.let fun v hv => ?_
    rw [wr64 (by omega)] at hv
    exact .some ⟨rfl, by simp only []; omega⟩
  · obtain ⟨n, k⟩ := z
    obtain ⟨h0, rfl⟩ := hz
    unfold tree_Right.l2
    exact .ff (by simp only []; omega) (.some trivial)
theorem right_T (code : List api_Ins) (l : List api_Loc) (hn : code.length ≤ 400) (hl : l.length ≤ 16) : Tot (fun b => b = true → Good code code.length) (tree_Right.m code l) := by
  unfold tree_Right.m
  refine .bind (R := fun b => b = false → 1 ≤ code.length ∧ (gi code (code.length - 1)).Op = 18) ?_ fun b hb => ?_
  · refine .ite (fun _ => .some fun e => by cases e) fun h1 => .ite (fun _ => .some fun e => by cases e) fun h2 => ?_
    refine Tot.let fun v hv => ?_
    rw [wr64 (by omega)] at hv
    refine Tot.gd (by omega) ?_
    refine Tot.let fun w hw => ?_
    refine .some fun e => ⟨by omega, ?_⟩
    subst hv hw
    simpa using e
  refine .ite (fun _ => .some fun e => by cases e) fun h => ?_
  obtain ⟨h1, h2⟩ := hb (by simpa using h)
  refine Tot.gd (by omega) ?_
  refine Tot.let fun v hv => ?_
  refine Tot.let fun w hw => ?_
  simp only [Int.toNat_natCast] at hv hw
  subst hv hw
  refine .bind (right_l1 code l hn hl h2) fun o ho => ?_
  cases o with
  | inl o => exact .some fun e => by cases e
  | inr s =>
    simp only [Int.toNat_natCast]
    refine .bind (right_l2 code hn s ho) fun o _ => ?_
    cases o with
    | inl o => exact .some fun e => by cases e
    | inr o => exact .some fun _ => ho.gd

def sh (op : Int) : tree_uses := (tree_shape.m op).1
def isOp (op : Int) : Bool := (tree_shape.m op).2
theorem sh_place (op : Int) : ((sh op).row = true → (sh op).place = true) ∧ ((sh op).atomic = true → (sh op).place = true) ∧ ((sh op).row = true → (sh op).atomic = false) := by
  unfold sh
  rcases ops_c op with h | h
  · rcases h with rfl | rfl | rfl | rfl | rfl | rfl | rfl | rfl | rfl | rfl | rfl | rfl | rfl | rfl | rfl | rfl | rfl | rfl <;> exact ⟨by decide, by decide, by decide⟩
  · have e2 : tree_shape.m op = (⟨false, false, false, false, false, false, false, false⟩, false) := by simp [tree_shape.m, letC, h]
    rw [e2]; exact ⟨by decide, by decide, by decide⟩
theorem mks_sh (x : api_Ins) : mks x = (sh x.Op).d := mks_shape x
def TempP (u : Bool) (n : Int) : Prop := (u = true → 0 ≤ n ∧ n < 400) ∧ (u = false → n = 0)
theorem temp_iff (u : Bool) (n : Int) : tree_temp.m u n = true ↔ TempP u n := by
  unfold tree_temp.m TempP
  cases u
  · simp
  · by_cases h1 : n ≥ 0 <;> by_cases h2 : n < 400 <;> simp [h1, h2] <;> omega
def wid (u : tree_uses) (x : api_Ins) : Int := if u.row = true then x.Len else 1
def PlP (u : tree_uses) (x : api_Ins) (l : List api_Loc) : Prop :=
  (u.place = true → (u.row = false → x.Len = 0) ∧ 1 ≤ wid u x ∧ 0 ≤ x.Loc ∧ x.Loc + wid u x ≤ l.length ∧ ∀ k : Int, x.Loc ≤ k → k < x.Loc + wid u x → (gi l k).Atomic = u.atomic) ∧ (u.place = false → x.Loc = 0 ∧ x.Len = 0)
theorem gi_part {α : Type} [Inhabited α] {l : List α} {o n : Nat} {i : Int} (h0 : 0 ≤ i) (h1 : i < n) : gi ((l.drop o).take n) i = gi l (o + i) := by
  unfold gi
  rw [List.getD_eq_getElem?_getD, List.getD_eq_getElem?_getD, List.getElem?_take, if_pos (by omega), List.getElem?_drop]
  congr 2; omega
theorem places_iff (u : tree_uses) (x : api_Ins) (l : List api_Loc) (hl : l.length ≤ 16) : Tot (fun b => b = true ↔ PlP u x l) (tree_places.m u x l) := by
  unfold tree_places.m PlP
  refine .ite (fun hp => ?_) fun hp => .ite (fun h => .some ?_) fun h => .some ?_
  · refine .bind (R := fun o => match o with | .inl n => n = wid u x ∧ (u.row = false → x.Len = 0) | .inr _ => u.row = false ∧ x.Len ≠ 0) ?_ fun o ho => ?_
    · unfold wid
      exact .ite (fun h => .some ⟨by rw [if_pos h], fun e => by rw [h] at e; cases e⟩) fun h => .ite (fun h2 => .some ⟨by rw [if_neg h], fun _ => h2⟩) fun h2 => .some ⟨by simpa using h, h2⟩
    cases o with
    | inr o => exact .some (by simp only [hp]; simp; intro h; exact absurd (h ho.1) ho.2)
    | inl n =>
      obtain ⟨hn, hlen⟩ := ho
      rw [← hn]
      refine .bind (R := fun b => (b = false ↔ 1 ≤ n ∧ n ≤ l.length ∧ 0 ≤ x.Loc ∧ x.Loc + n ≤ l.length)) ?_ fun b hb => ?_
      · refine .ite (fun h1 => .some (by simp; omega)) fun h1 => .ite (fun h2 => .some (by simp; omega)) fun h2 => .ite (fun h3 => .some (by simp; omega)) fun h3 => .let fun v hv => ?_
        rw [wr64 (by omega)] at hv
        refine .some ?_
        rw [decide_eq_false_iff_not]; omega
      · refine .ite (fun h => .some ?_) fun h => ?_
        · simp only [hp]
          have : ¬ (1 ≤ n ∧ n ≤ l.length ∧ 0 ≤ x.Loc ∧ x.Loc + n ≤ l.length) := fun c => by have := hb.2 c; rw [h] at this; cases this
          simp; intro _ h1 h2 h3
          exact absurd ⟨h1, by omega, h2, h3⟩ this
        · obtain ⟨b1, b2, b3, b4⟩ := hb.1 (by simpa using h)
          rw [wr64 (by omega)]
          refine Tot.gd (by omega) ?_
          refine Tot.let fun v hv => ?_
          have hvl : v.length = n.toNat := by rw [hv]; simp; omega
          have hvi : ∀ i : Nat, i < n.toNat → gi v i = gi l (x.Loc + i) := fun i hi => by
            rw [hv, gi_part (by omega) (by omega)]; congr 1; omega
          refine .bind (R := fun o => (o = .inr () ↔ ∀ k : Int, x.Loc ≤ k → k < x.Loc + n → (gi l k).Atomic = u.atomic)) ?_ fun o ho => ?_
          · refine loop_T (f := tree_places.l1 u v) v.length (fun i s => s = (i : Int) ∧ ∀ j : Nat, j < i → (gi l (x.Loc + j)).Atomic = u.atomic) (fun i s hi hs => ?_) (fun s hs => ?_) ⟨rfl, fun j hj => by omega⟩
            · obtain ⟨rfl, hs⟩ := hs
              unfold tree_places.l1
              refine .tt (by omega) ?_
              refine Tot.gd (by omega) ?_
              refine Tot.let fun w hw => ?_
              rw [hvi i (by omega)] at hw
              refine .ite (fun he => .some ⟨by rw [wr64 (by omega)]; rfl, fun j hj => ?_⟩) fun he => .some ?_
              · by_cases e : j = i
                · subst e; rw [← hw]; simpa using he
                · exact hs j (by omega)
              · simp only [reduceCtorEq, false_iff]
                intro c
                have := c (x.Loc + i) (by omega) (by omega)
                rw [← hw] at this
                exact he (by simpa using this)
            · obtain ⟨rfl, hs⟩ := hs
              unfold tree_places.l1
              refine .ff (by omega) (.some ?_)
              simp only [true_iff]
              intro k h1 h2
              have := hs (k - x.Loc).toNat (by omega)
              rw [← this]; congr 1; congr 1; omega
          · have key : ∀ c : Prop, (c ↔ ∀ k : Int, x.Loc ≤ k → k < x.Loc + n → (gi l k).Atomic = u.atomic) → (c ↔ (u.place = true → (u.row = false → x.Len = 0) ∧ 1 ≤ n ∧ 0 ≤ x.Loc ∧ x.Loc + n ≤ l.length ∧ ∀ k : Int, x.Loc ≤ k → k < x.Loc + n → (gi l k).Atomic = u.atomic) ∧ (u.place = false → x.Loc = 0 ∧ x.Len = 0)) := fun c hc => by
              rw [hc]
              constructor
              · exact fun h => ⟨fun _ => ⟨hlen, b1, b3, b4, h⟩, fun e => by rw [hp] at e; cases e⟩
              · exact fun h => (h.1 hp).2.2.2.2
            cases o with
            | inl o => exact .some (key _ (by rw [← ho]; simp))
            | inr o => exact .some (key _ (by rw [← ho]; simp))
  · have hp : u.place = false := by simpa using hp
    simp [hp, h]
  · have hp : u.place = false := by simpa using hp
    simp [hp, h]
structure PP (x : api_Ins) (i n : Int) (l : List api_Loc) : Prop where
  op : isOp x.Op = true
  d : TempP (sh x.Op).d x.D
  a : TempP (sh x.Op).a x.A
  b : TempP (sh x.Op).b x.B
  k : (sh x.Op).k = false → x.K = 0
  pl : PlP (sh x.Op) x l
  to1 : (sh x.Op).to_ = true → i + 1 < x.To ∧ x.To < n
  to0 : (sh x.Op).to_ = false → x.To = 0

def isP (code : List api_Ins) (k j : Nat) : Bool := decide (k + 1 = j ∧ (gi code k).Op ≠ 18) || ((sh (gi code k).Op).to_ && decide ((gi code k).To = (j : Int)))
def preds (code : List api_Ins) (i : Nat) : List Nat := (List.range i).filter fun k => isP code k i
inductive Anc (code : List api_Ins) : Nat → Nat → Prop
  | one {i k : Nat} (h : preds code i = [k]) : Anc code i k
  | step {i j k : Nat} (h : preds code i = [j]) (r : Anc code j k) : Anc code i k
theorem preds_lt {code : List api_Ins} {i k : Nat} {r : List Nat} (h : preds code i = k :: r) : k < i := by
  have : k ∈ preds code i := by rw [h]; simp
  exact List.mem_range.1 (List.mem_filter.1 this).1
theorem Anc.lt {code : List api_Ins} {i k : Nat} (h : Anc code i k) : k < i := by
  induction h with
  | one h => exact preds_lt h
  | step h _ ih => have := preds_lt h; omega
theorem Anc.iff {code : List api_Ins} {i p : Nat} (h : preds code i = [p]) (k : Nat) : Anc code i k ↔ p = k ∨ Anc code p k := by
  constructor
  · intro c
    cases c with
    | one h' => rw [h] at h'; exact .inl (by simpa using h')
    | @step _ j _ h' r =>
      rw [h] at h'
      have e : p = j := by simpa using h'
      subst e
      exact .inr r
  · rintro (rfl | c)
    · exact .one h
    · exact .step h c
def UA (code : List api_Ins) (i : Nat) (t : Int) : Prop := ∃ k, Anc code i k ∧ mks (gi code k) = true ∧ (gi code k).D = t
theorem UA.iff {code : List api_Ins} {i p : Nat} (h : preds code i = [p]) (t : Int) : UA code i t ↔ (mks (gi code p) = true ∧ (gi code p).D = t) ∨ UA code p t := by
  unfold UA
  constructor
  · rintro ⟨k, hk, h1, h2⟩
    rcases (Anc.iff h k).1 hk with rfl | c
    · exact .inl ⟨h1, h2⟩
    · exact .inr ⟨k, c, h1, h2⟩
  · rintro (⟨h1, h2⟩ | ⟨k, hk, h1, h2⟩)
    · exact ⟨p, .one h, h1, h2⟩
    · exact ⟨k, .step h hk, h1, h2⟩
theorem UA.zero (code : List api_Ins) (t : Int) : ¬ UA code 0 t := by
  rintro ⟨k, hk, _⟩
  have := hk.lt
  omega
def AP (code : List api_Ins) (l : List api_Loc) (i : Nat) : Prop := PP (gi code i) i code.length l ∧ (mks (gi code i) = true → ∀ j : Nat, j < i → mks (gi code j) = true → (gi code j).D ≠ (gi code i).D)
def AW (code : List api_Ins) (i : Nat) : Prop := (0 < i → (preds code i).length = 1) ∧ ((sh (gi code i).Op).a = true → UA code i (gi code i).A) ∧ ((sh (gi code i).Op).b = true → UA code i (gi code i).B)
structure RP (code : List api_Ins) (l : List api_Loc) : Prop where
  n : 1 ≤ code.length ∧ code.length ≤ 400
  z : (gi code (code.length - 1)).Op = 18
  p : ∀ i : Nat, i < code.length → AP code l i
  w : ∀ i : Nat, i < code.length → AW code i
theorem RP.good {code : List api_Ins} {l : List api_Loc} (h : RP code l) : Good code code.length := fun i hi hm => by
  have := (h.p i hi).1.d.1 (by rw [← mks_sh]; exact hm)
  exact ⟨this.1, this.2, (h.p i hi).2 hm⟩
theorem last_T (code : List api_Ins) (h : code.length ≤ 400) : Tot (fun b => b = false ↔ (1 ≤ code.length ∧ code.length ≤ 400 ∧ (gi code (code.length - 1)).Op = 18)) (if (code.length : Int) < (1 : Int) then (some (true : Bool)) else (if (code.length : Int) > (400 : Int) then (some (true : Bool)) else (letC (wr .i64 ((code.length : Int) - (1 : Int))) fun v_8 => if 0 ≤ v_8 ∧ v_8 < (code.length : Int) then (letC (gi code v_8) fun v_10 => some ((!(decide (v_10.Op = (18 : Int)))) : Bool)) else none)) : Option Bool) := by
  refine .ite (fun h1 => .some (by simp; omega)) fun h1 => .ite (fun h2 => .some (by simp; omega)) fun h2 => ?_
  refine Tot.let fun v hv => ?_
  rw [wr64 (by omega)] at hv
  refine Tot.gd (by omega) ?_
  refine Tot.let fun w hw => ?_
  refine .some ?_
  subst hv hw
  have : 1 ≤ code.length := by omega
  simp [this, h]

def proc (code : List api_Ins) (i j : Nat) : List Nat := (List.range i).filter fun k => isP code k j
theorem proc_succ (code : List api_Ins) (i j : Nat) : proc code (i + 1) j = proc code i j ++ if isP code i j = true then [i] else [] := by
  unfold proc
  rw [List.range_succ, List.filter_append]
  congr 1
  by_cases h : isP code i j = true
  · rw [if_pos h, List.filter_cons_of_pos (p := fun k => isP code k j) h]; rfl
  · rw [if_neg h, List.filter_cons_of_neg (p := fun k => isP code k j) h]; rfl
theorem proc_len (code : List api_Ins) (i j : Nat) : (proc code i j).length ≤ i := by
  have := List.length_filter_le (fun k => isP code k j) (List.range i)
  simpa [proc] using this
theorem proc_preds {code : List api_Ins} {i : Nat} : ∀ {n : Nat}, i ≤ n → (∀ k : Nat, i ≤ k → k < n → isP code k i = false) → proc code n i = preds code i
  | n, h, hk => by
    induction n with
    | zero =>
      have : i = 0 := by omega
      subst this; rfl
    | succ n ih =>
      by_cases e : i = n + 1
      · subst e; rfl
      · rw [proc_succ, hk n (by omega) (by omega), ih (by omega) fun k h1 h2 => hk k h1 (by omega)]; simp
structure RJ (code : List api_Ins) (l : List api_Loc) (i : Nat) (s : (List Int) × (List Int) × (List (Int × Int))) : Prop where
  l1 : s.1.length = code.length
  l2 : s.2.1.length = code.length
  ap : ∀ j : Nat, j < i → AP code l j
  wy : ∀ j : Nat, j < code.length → gi s.1 j = (proc code i j).length
  fr : ∀ j : Nat, j < code.length → ∀ k : Nat, (proc code i j).getLast? = some k → gi s.2.1 j = (k : Int)
  m1 : ∀ t v, aget s.2.2 t = some v → ∃ j : Nat, j < i ∧ mks (gi code j) = true ∧ (gi code j).D = t ∧ v = (j : Int)
  m2 : ∀ j : Nat, j < i → mks (gi code j) = true → aget s.2.2 (gi code j).D ≠ none
theorem tree_l1 (code : List api_Ins) (l : List api_Loc) (hn : code.length ≤ 400) (hl : l.length ≤ 16) (h18 : (gi code (code.length - 1)).Op = 18) :
    Tot (fun o => match o with | .inl _ => ¬ ∀ i : Nat, i < code.length → AP code l i | .inr s => RJ code l code.length s) (loop (tree_Right.l1 code l) ((List.replicate code.length (0 : Int), List.replicate code.length (0 : Int), ([] : List (Int × Int)), 0) : (List Int) × (List Int) × (List (Int × Int)) × Int)) := by
  refine loop_T code.length (fun i s => RJ code l i (s.1, s.2.1, s.2.2.1) ∧ s.2.2.2 = (i : Int)) (fun i s hi hs => ?_) (fun s hs => ?_) ⟨⟨by simp, by simp, fun j hj => by omega, fun j hj => ?_, fun j hj k hk => (by simp [proc] at hk), fun t v h => (by cases h), fun j hj => by omega⟩, rfl⟩
  · obtain ⟨w, f, m, k⟩ := s
    obtain ⟨hI, rfl⟩ := hs
    obtain ⟨c1, c2, c3, c4, c5, c6, c7⟩ := hI
    simp only [] at c1 c2 c3 c4 c5 c6 c7
    unfold tree_Right.l1
    dsimp only
    refine .tt (by omega) ?_
    refine Tot.gd (by omega) ?_
    refine Tot.let fun x hx => ?_
    refine Tot.let fun r hr => ?_
    have hsh : r.1 = sh x.Op := by rw [hr]; rfl
    have hop : r.2 = isOp x.Op := by rw [hr]; rfl
    refine .bind (R := fun b => b = false ↔ (isOp x.Op = true ∧ TempP (sh x.Op).d x.D ∧ TempP (sh x.Op).a x.A ∧ TempP (sh x.Op).b x.B ∧ ((sh x.Op).k = false → x.K = 0) ∧ PlP (sh x.Op) x l)) ?_ fun b1 hb1 => ?_
    · simp only [letC]
      rw [hsh, hop]
      have hp := places_iff (sh x.Op) x l hl
      refine .ite (fun h0 => .ite (fun h1 => .ite (fun h2 => .ite (fun h3 => ?_) fun h3 => .some ?_) fun h2 => .some ?_) fun h1 => .some ?_) fun h0 => .some ?_
      · rw [temp_iff] at h1 h2 h3
        refine .ite (fun h4 => .bind hp fun y hy => .some ?_) fun h4 => .ite (fun h5 => .bind hp fun y hy => .some ?_) fun h5 => .some ?_
        · simp only [h0, h1, h2, h3, h4, true_and, ← hy]; cases y <;> simp
        · simp only [h0, h1, h2, h3, h5, true_and, implies_true, ← hy]; cases y <;> simp
        · simp [h0, h4, h5]
      · rw [temp_iff] at h3; simp [h3]
      · rw [temp_iff] at h2; simp [h2]
      · rw [temp_iff] at h1; simp [h1]
      · simp [h0]
    refine .ite (fun h => .some ?_) fun h => ?_
    · simp only []
      intro c
      have p := (c i hi).1
      rw [← hx] at p
      have := hb1.2 ⟨p.op, p.d, p.a, p.b, p.k, p.pl⟩
      rw [h] at this; cases this
    obtain ⟨q1, q2, q3, q4, q5, q6⟩ := hb1.1 (by simpa using h)
    rw [hsh]
    refine .bind (R := fun b => b = false ↔ (((sh x.Op).to_ = true → (i : Int) + 1 < x.To ∧ x.To < code.length) ∧ ((sh x.Op).to_ = false → x.To = 0))) ?_ fun b2 hb2 => ?_
    · refine .ite (fun h => ?_) fun h => .some ?_
      · refine Tot.let fun v1 e1 => ?_
        rw [wr64 (by omega)] at e1
        refine .ite (fun h1 => .some ?_) fun h1 => .ite (fun h2 => .some ?_) fun h2 => .some ?_
        · simp [h]; omega
        · simp [h]; omega
        · simp [h]; omega
      · simp [h]
    refine .ite (fun h => .some ?_) fun h => ?_
    · simp only []
      intro c
      have p := (c i hi).1
      rw [← hx] at p
      have := hb2.2 ⟨p.to1, p.to0⟩
      rw [h] at this; cases this
    obtain ⟨q7, q8⟩ := hb2.1 (by simpa using h)
    have hPP : PP (gi code i) i code.length l := by rw [← hx]; exact ⟨q1, q2, q3, q4, q5, q6, q7, q8⟩
    -- arrays
    let T : Nat → Prop := fun j => (sh x.Op).to_ = true ∧ x.To = (j : Int)
    have hP : ∀ j : Nat, isP code i j = true ↔ ((i + 1 = j ∧ x.Op ≠ 18) ∨ T j) := fun j => by
      unfold isP
      rw [← hx]
      simp [T]
    refine .bind (R := fun p : (List Int) × (List Int) => p.1.length = code.length ∧ p.2.length = code.length ∧ ∀ j : Nat, j < code.length → (T j → gi p.1 j = (proc code i j).length + 1 ∧ gi p.2 j = i) ∧ (¬ T j → gi p.1 j = (proc code i j).length ∧ gi p.2 j = gi f j)) ?_ fun p hp => ?_
    · refine .ite (fun h => ?_) fun h => .some ⟨c1, c2, fun j hj => ⟨fun t => absurd t.1 h, fun _ => ⟨c4 j hj, rfl⟩⟩⟩
      have := q7 h
      refine Tot.gd (by omega) ?_
      refine Tot.gd (by omega) ?_
      refine Tot.let fun v1 e1 => ?_
      refine Tot.let fun v2 e2 => ?_
      refine Tot.gd (by omega) ?_
      refine Tot.let fun v3 e3 => ?_
      have hw := c4 x.To.toNat (by omega)
      rw [show ((x.To.toNat : Nat) : Int) = x.To by omega] at hw
      have hpl := proc_len code i x.To.toNat
      rw [hw] at e1
      rw [wr64 (by omega)] at e2
      refine .some ⟨by rw [e2]; simp [c1], by rw [e3]; simp [c2], fun j hj => ?_⟩
      rw [e2, e3]
      simp only []
      rw [gi_set (by omega) (by omega) (by omega), gi_set (by omega) (by omega) (by omega)]
      constructor
      · intro t
        have : ((x.To.toNat : Nat) : Int) = (j : Int) := by have := t.2; omega
        rw [if_pos this, if_pos this, e1]
        have e : x.To.toNat = j := by omega
        rw [e]; exact ⟨rfl, rfl⟩
      · intro t
        have : ¬ ((x.To.toNat : Nat) : Int) = (j : Int) := fun e => t ⟨h, by omega⟩
        rw [if_neg this, if_neg this]
        exact ⟨c4 j hj, rfl⟩
    obtain ⟨p1, p2, p3⟩ := hp
    have hlast : ¬ x.Op = 18 → (i : Int) + 1 < code.length := by
      intro hne
      rcases Nat.lt_or_ge (i + 1) code.length with c | c
      · omega
      · exfalso
        apply hne
        rw [hx, show ((i : Nat) : Int) = code.length - 1 by omega]
        exact h18
    refine .bind (R := fun p : (List Int) × (List Int) => p.1.length = code.length ∧ p.2.length = code.length ∧ ∀ j : Nat, j < code.length → (isP code i j = true → gi p.1 j = (proc code i j).length + 1 ∧ gi p.2 j = i) ∧ (¬ isP code i j = true → gi p.1 j = (proc code i j).length ∧ gi p.2 j = gi f j)) ?_ fun q hq => ?_
    · refine .ite (fun h => .some ⟨p1, p2, fun j hj => ?_⟩) fun h => ?_
      · have : isP code i j = true ↔ T j := by rw [hP]; simp [h]
        rw [this]; exact p3 j hj
      have := hlast h
      have hnT : ¬ T (i + 1) := fun t => by have := q7 t.1; have := t.2; omega
      refine Tot.let fun v1 e1 => ?_
      rw [wr64 (by omega)] at e1
      refine Tot.gd (by omega) ?_
      refine Tot.gd (by omega) ?_
      refine Tot.let fun v2 e2 => ?_
      refine Tot.let fun v3 e3 => ?_
      refine Tot.let fun v4 e4 => ?_
      rw [wr64 (by omega)] at e4
      refine Tot.gd (by omega) ?_
      refine Tot.gd (by omega) ?_
      refine Tot.let fun v5 e5 => ?_
      have hw := ((p3 (i + 1) (by omega)).2 hnT).1
      have hpl := proc_len code i (i + 1)
      rw [e1, show (i : Int) + 1 = ((i + 1 : Nat) : Int) by omega, hw] at e2
      rw [wr64 (by omega)] at e3
      refine .some ⟨by rw [e3]; simp [p1], by rw [e5]; simp [p2], fun j hj => ?_⟩
      rw [e3, e5, e1, e4]
      simp only []
      rw [gi_set (by omega) (by omega) (by omega), gi_set (by omega) (by omega) (by omega)]
      by_cases e : i + 1 = j
      · have c : ((((i : Int) + 1).toNat : Nat) : Int) = (j : Int) := by omega
        rw [if_pos c, if_pos c, e2]
        subst e
        exact ⟨fun _ => ⟨rfl, rfl⟩, fun n => absurd ((hP _).2 (.inl ⟨rfl, h⟩)) n⟩
      · have c : ¬ ((((i : Int) + 1).toNat : Nat) : Int) = (j : Int) := by omega
        rw [if_neg c, if_neg c]
        have : isP code i j = true ↔ T j := by rw [hP]; simp [e]
        rw [this]; exact p3 j hj
    obtain ⟨r1, r2, r3⟩ := hq
    have hmk : mks x = (sh x.Op).d := mks_sh x
    have wyN : ∀ j : Nat, j < code.length → gi q.1 j = (proc code (i + 1) j).length := fun j hj => by
      rw [proc_succ, List.length_append]
      by_cases h : isP code i j = true
      · rw [if_pos h, ((r3 j hj).1 h).1]; simp
      · rw [if_neg h, ((r3 j hj).2 h).1]; simp
    have frN : ∀ j : Nat, j < code.length → ∀ k : Nat, (proc code (i + 1) j).getLast? = some k → gi q.2 j = (k : Int) := fun j hj k hk => by
      rw [proc_succ] at hk
      by_cases h : isP code i j = true
      · rw [if_pos h] at hk
        simp at hk; subst hk
        exact ((r3 j hj).1 h).2
      · rw [if_neg h, List.append_nil] at hk
        rw [((r3 j hj).2 h).2]; exact c5 j hj k hk
    refine .ite (fun hd => ?_) fun hd => ?_
    · cases hm : aget m x.D with
      | some v =>
        refine .some ?_
        simp only []
        intro c
        obtain ⟨j, hj, hmj, hD, _⟩ := c6 _ _ hm
        exact (c i hi).2 (by rw [← hx, hmk]; exact hd) j hj hmj (by rw [hD, hx])
      | none =>
        simp only []
        refine Tot.let fun v1 e1 => ?_
        refine Tot.let fun v2 e2 => ?_
        rw [wr64 (by omega)] at e2
        subst e1
        refine .some ⟨⟨r1, r2, fun j hj => ?_, wyN, frN, fun t v h => ?_, fun j hj hmj => ?_⟩, by simp only []; omega⟩
        · by_cases e : j = i
          · subst e
            refine ⟨hPP, fun _ k hk hmk e => ?_⟩
            have := c7 k hk hmk
            rw [e, ← hx, hm] at this
            exact this rfl
          · exact c3 j (by omega)
        · simp only [] at h
          rw [B.aget_aset] at h
          by_cases e : t = x.D
          · rw [if_pos e] at h; cases h; exact ⟨i, by omega, by rw [← hx, hmk]; exact hd, by rw [← hx, e], rfl⟩
          · rw [if_neg e] at h
            obtain ⟨j, hj, hv⟩ := c6 t v h
            exact ⟨j, by omega, hv⟩
        · simp only []
          rw [B.aget_aset]
          by_cases e : (gi code j).D = x.D
          · rw [if_pos e]; simp
          · rw [if_neg e]
            have hji : j ≠ i := by rintro rfl; exact e (by rw [hx])
            exact c7 j (by omega) hmj
    · refine Tot.let fun v1 e1 => ?_
      rw [wr64 (by omega)] at e1
      have hno : mks (gi code i) = false := by rw [← hx, hmk]; simpa using hd
      refine .some ⟨⟨r1, r2, fun j hj => ?_, wyN, frN, fun t v h => ?_, fun j hj hmj => ?_⟩, by simp only []; omega⟩
      · by_cases e : j = i
        · subst e; exact ⟨hPP, fun c => by rw [hno] at c; cases c⟩
        · exact c3 j (by omega)
      · obtain ⟨j, hj, hv⟩ := c6 t v h
        exact ⟨j, by omega, hv⟩
      · have hji : j ≠ i := by rintro rfl; rw [hno] at hmj; cases hmj
        exact c7 j (by omega) hmj
  · obtain ⟨w, f, m, k⟩ := s
    obtain ⟨hI, rfl⟩ := hs
    unfold tree_Right.l1
    refine .ff (by simp only []; omega) (.some hI)
  · simp only []
    rw [gi_replicate (by omega) (by omega)]; rfl
theorem above_iff {code : List api_Ins} {l : List api_Loc} {s : (List Int) × (List Int) × (List (Int × Int))} (hn : code.length ≤ 400) (h : RJ code l code.length s) (hpr : ∀ i : Nat, i < code.length → proc code code.length i = preds code i) {i : Nat} (hi : i < code.length) (hw : ∀ j : Nat, 0 < j → j ≤ i → (preds code j).length = 1) (t : Int) :
    Tot (fun b => b = true ↔ UA code i t) (tree_above.m t (i : Int) s.2.2 s.2.1 code.length) := by
  unfold tree_above.m
  cases hm : aget s.2.2 t with
  | none =>
    refine .some ⟨fun e => (by cases e), fun ⟨k, hk, hmk, hD⟩ => ?_⟩
    have := hk.lt
    have := h.m2 k (by omega) hmk
    rw [hD, hm] at this
    exact absurd rfl this
  | some v =>
    obtain ⟨j, hj, hmj, hD, rfl⟩ := h.m1 t v hm
    have hua : UA code i t ↔ Anc code i j := by
      constructor
      · rintro ⟨k, hk, hmk, hD'⟩
        have := hk.lt
        have : k = j := by
          rcases Nat.lt_trichotomy k j with c | c | c
          · exact absurd (hD'.trans hD.symm) ((h.ap j hj).2 hmj k c hmk)
          · exact c
          · exact absurd (hD.trans hD'.symm) ((h.ap k (by omega)).2 hmk j c hmj)
        subst this; exact hk
      · exact fun c => ⟨j, c, hmj, hD⟩
    have hl2 := h.l2
    have key : ∀ q : Nat, q ≤ i → Tot (fun o => o = .inl () ↔ Anc code q j) (loop (tree_above.l1 s.2.1 code.length (j : Int)) (q : Int)) := by
      intro q
      induction q using Nat.strongRecOn with
      | ind q ih =>
        intro hq
        rcases Nat.lt_or_ge j q with hlt | hge
        · obtain ⟨p, hp⟩ : ∃ p, preds code q = [p] := by
            have := hw q (by omega) hq
            match preds code q, this with
            | [p], _ => exact ⟨p, rfl⟩
          have hpq := preds_lt hp
          have hfr := h.fr q (by omega) p (by rw [hpr q (by omega), hp]; rfl)
          have hf : tree_above.l1 s.2.1 code.length (j : Int) (q : Int) = if p = j then some (.inr (.inl ())) else some (.inl (p : Int)) := by
            unfold tree_above.l1
            rw [if_pos (by omega), if_pos (by omega), if_pos (by omega)]
            simp only [letC]
            rw [hfr]
            by_cases e : p = j
            · rw [if_pos e, if_pos (by omega)]
            · rw [if_neg e, if_neg (by omega)]
          by_cases e : p = j
          · rw [if_pos e] at hf
            rw [loop_out hf]
            exact .some ⟨fun _ => (Anc.iff hp j).2 (.inl e), fun _ => rfl⟩
          · rw [if_neg e] at hf
            rw [loop_in hf]
            refine (ih p hpq (by omega)).mono fun o ho => ?_
            rw [ho, Anc.iff hp]
            simp [e]
        · rw [loop_out (o := .inr ()) (by unfold tree_above.l1; rw [if_neg (by omega)])]
          exact .some ⟨fun e => (by cases e), fun c => by have := c.lt; omega⟩
    refine .bind (key i (Nat.le_refl _)) fun o ho => ?_
    rw [hua, ← ho]
    cases o with
    | inl o => exact .some (by simp)
    | inr o => exact .some (by simp)
theorem tree_right (code : List api_Ins) (l : List api_Loc) (hn : code.length ≤ 400) (hl : l.length ≤ 16) : Tot (fun b => b = true ↔ RP code l) (tree_Right.m code l) := by
  unfold tree_Right.m
  refine .bind (last_T code hn) fun b hb => .ite (fun h => .some ⟨fun e => (by cases e), fun p => ?_⟩) fun h => ?_
  · have := hb.2 ⟨p.n.1, p.n.2, p.z⟩; rw [h] at this; cases this
  obtain ⟨n1, n4, hz⟩ := hb.1 (by simpa using h)
  refine Tot.gd (by omega) ?_
  refine Tot.let fun v hv => ?_
  refine Tot.let fun w hw => ?_
  simp only [Int.toNat_natCast] at hv hw
  subst hv hw
  refine .bind (tree_l1 code l hn hl hz) fun o ho => ?_
  cases o with
  | inl o => exact .some ⟨fun e => (by cases e), fun p => absurd p.p ho⟩
  | inr s =>
    simp only [] at ho
    simp only [Int.toNat_natCast]
    have hpr : ∀ i : Nat, i < code.length → proc code code.length i = preds code i := fun i hi => proc_preds (by omega) fun k h1 h2 => by
      have p := (ho.ap k h2).1
      cases hp : isP code k i
      · rfl
      · unfold isP at hp
        simp only [Bool.or_eq_true, Bool.and_eq_true, decide_eq_true_eq] at hp
        rcases hp with c | c
        · omega
        · have := p.to1 c.1; omega
    have hl1 := ho.l1
    refine .bind (R := fun o => o = .inr () ↔ ∀ i : Nat, i < code.length → AW code i) ?_ fun o hoo => ?_
    · refine loop_T code.length (fun i z => z.1 = code.length ∧ z.2 = (i : Int) ∧ ∀ j : Nat, j < i → AW code j) (fun i z hi hz => ?_) (fun z hz => ?_) ⟨rfl, rfl, fun j hj => by omega⟩
      · obtain ⟨n, k⟩ := z
        obtain ⟨h0, rfl, hs⟩ := hz
        simp only [] at h0
        subst h0
        unfold tree_Right.l2
        dsimp only
        refine .tt (by omega) ?_
        refine Tot.gd (by omega) ?_
        refine Tot.let fun x hx => ?_
        refine .bind (R := fun b => b = false ↔ (0 < i → (preds code i).length = 1)) ?_ fun b hb => ?_
        · refine .ite (fun h => ?_) fun h => .some ⟨fun _ c => by omega, fun _ => rfl⟩
          refine Tot.gd (by omega) ?_
          refine Tot.gd (by omega) ?_
          refine Tot.let fun v hv => ?_
          rw [ho.wy i hi, hpr i hi] at hv
          refine .some ?_
          simp only [Bool.not_eq_false', decide_eq_true_eq]
          exact ⟨fun c _ => by omega, fun c => by have := c (by omega); omega⟩
        refine .ite (fun h => .some ?_) fun h => ?_
        · simp only [reduceCtorEq, false_iff]
          intro c
          have := hb.2 (c i hi).1
          rw [h] at this; cases this
        have h1 := hb.1 (by simpa using h)
        have hab := above_iff hn ho hpr hi (fun j j0 j1 => by
          by_cases e : j = i
          · subst e; exact h1 j0
          · exact (hs j (by omega)).1 j0)
        refine Tot.let fun r hr => ?_
        have hsh : r.1 = sh (gi code i).Op := by rw [hr, hx]; rfl
        rw [hsh, hx]
        refine .bind (R := fun b => b = false ↔ (((sh (gi code i).Op).a = true → UA code i (gi code i).A) ∧ ((sh (gi code i).Op).b = true → UA code i (gi code i).B))) ?_ fun b hb => ?_
        · refine .ite (fun ha => .bind (hab _) fun y hy => .ite (fun h2 => .ite (fun hbb => .bind (hab _) fun z hz => .some ?_) fun hbb => .some ?_) fun h2 => .some ?_) fun ha => .ite (fun hbb => .bind (hab _) fun z hz => .some ?_) fun hbb => .some ?_
          · have := hy.1 h2
            simp only [ha, hbb, this, true_and, forall_const, ← hz]; cases z <;> simp
          · have := hy.1 h2
            simp [ha, hbb, this]
          · have : ¬ UA code i (gi code i).A := fun c => h2 (hy.2 c)
            simp [ha, this]
          · simp only [ha, hbb, true_and, forall_const, ← hz]; cases z <;> simp
          · simp [ha, hbb]
        refine .ite (fun h => .some ?_) fun h => ?_
        · simp only [reduceCtorEq, false_iff]
          intro c
          have := hb.2 ⟨(c i hi).2.1, (c i hi).2.2⟩
          rw [h] at this; cases this
        have h2 := hb.1 (by simpa using h)
        refine Tot.let fun v hv => ?_
        rw [wr64 (by omega)] at hv
        refine .some ⟨rfl, by simp only []; omega, fun j hj => ?_⟩
        by_cases e : j = i
        · subst e; exact ⟨h1, h2.1, h2.2⟩
        · exact hs j (by omega)
      · obtain ⟨n, k⟩ := z
        obtain ⟨h0, rfl, hs⟩ := hz
        unfold tree_Right.l2
        exact .ff (by simp only []; omega) (.some (by simp only [true_iff]; exact hs))
    cases o with
    | inl o => exact .some ⟨fun e => (by cases e), fun p => by have := hoo.2 p.w; cases this⟩
    | inr o => exact .some ⟨fun _ => ⟨⟨n1, n4⟩, hz, ho.ap, hoo.1 rfl⟩, fun _ => rfl⟩

def isJ (x : api_Ins) : Bool := (sh x.Op).to_
theorem isOp_c {op : Int} (h : isOp op = true) : op = 1 ∨ op = 2 ∨ op = 3 ∨ op = 4 ∨ op = 5 ∨ op = 6 ∨ op = 7 ∨ op = 8 ∨ op = 9 ∨ op = 10 ∨ op = 11 ∨ op = 12 ∨ op = 13 ∨ op = 14 ∨ op = 15 ∨ op = 16 ∨ op = 17 ∨ op = 18 := by
  rcases ops_c op with c | c
  · exact c
  · unfold isOp tree_shape.m letC at h
    simp [c] at h
theorem isJ_of {x : api_Ins} (c : x.Op = 12 ∨ x.Op = 16 ∨ x.Op = 17) : isJ x = true := by
  unfold isJ
  rcases c with c | c | c <;> rw [c] <;> rfl
inductive TR
  | fin (st : Int) (acts : List api_Act)
  | nxt (j : Bool) (T : Arr Int 400) (ans : List Int) (acts : List api_Act)
def tred (ans : List Int) (acts : List api_Act) (k : Int → List Int → TR) : TR := match ans with
  | [] => .fin 4 acts
  | n :: r => k n r
def tstep (x : api_Ins) (T : Arr Int 400) (ans : List Int) (acts : List api_Act) : TR :=
  if x.Op = 1 then .nxt false (T.s x.D x.K) ans acts
  else if x.Op = 2 then .nxt false (T.s x.D (wr .i64 (T.g x.A + T.g x.B))) ans acts
  else if x.Op = 3 then .nxt false (T.s x.D (wr .i64 (T.g x.A - T.g x.B))) ans acts
  else if x.Op = 4 then .nxt false (T.s x.D (wr .i64 (T.g x.A * T.g x.B))) ans acts
  else if x.Op = 5 then (if T.g x.B = 0 then .fin 2 acts else .nxt false (T.s x.D (wr .i64 (Int.tdiv (T.g x.A) (T.g x.B)))) ans acts)
  else if x.Op = 6 then tred ans acts fun n r => .nxt false (T.s x.D n) r (acts ++ [⟨1, x.Loc, n, 0⟩])
  else if x.Op = 7 then .nxt false T ans (acts ++ [⟨2, x.Loc, 0, T.g x.A⟩])
  else if x.Op = 8 then tred ans acts fun n r => .nxt false (T.s x.D n) r (acts ++ [⟨3, x.Loc, n, 0⟩])
  else if x.Op = 9 then .nxt false T ans (acts ++ [⟨4, x.Loc, 0, T.g x.A⟩])
  else if x.Op = 10 then tred ans acts fun n r => .nxt false (T.s x.D n) r (acts ++ [⟨5, x.Loc, n, T.g x.A⟩])
  else if x.Op = 11 then tred ans acts fun n r => .nxt false (T.s x.D n) r (acts ++ [⟨5, x.Loc, n, wr .i64 (n + T.g x.A)⟩])
  else if x.Op = 12 then tred ans acts fun n r => if n = T.g x.A then .nxt false T r (acts ++ [⟨5, x.Loc, n, T.g x.B⟩]) else .nxt true T r (acts ++ [⟨3, x.Loc, n, 0⟩])
  else if x.Op = 13 then (if 0 ≤ T.g x.A ∧ T.g x.A < x.Len then tred ans acts fun n r => .nxt false (T.s x.D n) r (acts ++ [⟨1, x.Loc + T.g x.A, n, 0⟩]) else .fin 3 acts)
  else if x.Op = 14 then (if 0 ≤ T.g x.A ∧ T.g x.A < x.Len then .nxt false T ans (acts ++ [⟨2, x.Loc + T.g x.A, 0, T.g x.B⟩]) else .fin 3 acts)
  else if x.Op = 15 then .nxt false T ans (acts ++ [⟨6, 0, 0, T.g x.A⟩])
  else if x.Op = 16 then .nxt (!decide (T.g x.A < T.g x.B)) T ans acts
  else if x.Op = 17 then .nxt (!decide (T.g x.A = T.g x.B)) T ans acts
  else .fin 1 acts
section
variable {i : Int} {x : api_Ins} {T : Arr Int 400} {ans : List Int} {acts : List api_Act}
def TD (i : Int) (x : api_Ins) (z : TR) (r : (Arr Int 400) × (List Int) × (List api_Act) × Int × Int) : Prop := match z with
  | .fin st ac => r.2.2.1 = ac ∧ r.2.2.2.2 = st
  | .nxt j T' ans' ac => r = (T', ans', ac, (if j = true then x.To else i + 1), 0)
theorem answer_eq (ans : List Int) : tree_runner_answer_2.m T ans acts = some (match ans with | [] => ([], 0, false) | n :: r => (r, n, true)) := by
  unfold tree_runner_answer_2.m
  cases ans with
  | nil => rfl
  | cons n r =>
    rw [if_neg (show ¬ ((n :: r).length : Int) = 0 by rw [List.length_cons]; omega), if_pos (show 0 ≤ (0 : Int) ∧ (0 : Int) < ((n :: r).length : Int) by rw [List.length_cons]; omega)]
    simp only [letC]
    rw [if_pos (show 0 ≤ (1 : Int) ∧ (1 : Int) ≤ ((n :: r).length : Int) ∧ ((n :: r).length : Int) ≤ ((n :: r).length : Int) by rw [List.length_cons]; omega)]
    have e2 : ((n :: r).drop (1 : Int).toNat).take (((n :: r).length : Int).toNat - (1 : Int).toNat) = r := by simp
    rw [e2]; rfl
theorem push1 (h : acts.length ≤ 100000) (k p v : Int) : tree_runner_do_1_2.m k p v T ans acts = some (acts ++ [⟨k, p, 0, v⟩]) := by
  unfold tree_runner_do_1_2.m
  rw [if_pos (by simp; omega)]
@[reducible] def A4 (t : Int) : Prop := 0 ≤ t ∧ t < ((400 : Nat) : Int)
theorem ask_eq (hl : acts.length ≤ 100000) (hA : A4 x.A) (hD : A4 x.D) (k p : Int) : tree_runner_ask.m x k p T ans acts = some (match ans with
    | [] => (T, [], acts, false)
    | n :: r => (T.s x.D n, r, acts ++ [⟨k, p, n, if x.Op = 10 then T.g x.A else if x.Op = 11 then wr .i64 (n + T.g x.A) else 0⟩], true)) := by
  unfold tree_runner_ask.m
  rw [answer_eq, Option.bind_some]
  cases ans with
  | nil => rfl
  | cons n r =>
    dsimp only
    rw [if_pos rfl]
    by_cases c : x.Op = 10
    · have c2 : ¬ x.Op = 11 := by omega
      rw [if_pos c, if_pos c, if_pos hA, letC, Option.bind_some, if_neg c2, Option.bind_some, if_pos hD, letC, if_pos (by simp; omega), letC]
    · rw [if_neg c, if_neg c, Option.bind_some]
      by_cases c2 : x.Op = 11
      · rw [if_pos c2, if_pos c2, if_pos hA, letC, Option.bind_some, if_pos hD, letC, if_pos (by simp; omega), letC]
      · rw [if_neg c2, if_neg c2, Option.bind_some, if_pos hD, letC, if_pos (by simp; omega), letC]
theorem do_eq (hx : isOp x.Op = true) (hl : acts.length ≤ 100000) (hA : A4 x.A) (hB : A4 x.B) (hD : A4 x.D) (hi : 0 ≤ i ∧ i < 1000) (hlo : 0 ≤ x.Loc ∧ x.Loc < 16) (hle : 0 ≤ x.Len ∧ x.Len ≤ 16) : Tot (TD i x (tstep x T ans acts)) (tree_runner_do_2.m i x T ans acts) := by
  unfold tree_runner_do_2.m
  have wi : wr .i64 (i + 1) = i + 1 := wr64 (by omega)
  rw [if_pos hA, letC, if_pos hB, letC]
  rcases isOp_c hx with c | c | c | c | c | c | c | c | c | c | c | c | c | c | c | c | c | c
  all_goals
    simp only [c, tstep, Int.reduceEq, if_true, if_false, ↓reduceIte, Option.bind_some, decide_true, decide_false, Bool.false_eq_true]
  · rw [if_pos hD, letC, Option.bind_some]; simp only [↓reduceIte]; rw [wi]; exact .some rfl
  · rw [if_pos hD, letC, Option.bind_some]; simp only [↓reduceIte]; rw [wi]; exact .some rfl
  · rw [if_pos hD, letC, Option.bind_some]; simp only [↓reduceIte]; rw [wi]; exact .some rfl
  · rw [if_pos hD, letC, Option.bind_some]; simp only [↓reduceIte]; rw [wi]; exact .some rfl
  · by_cases z : T.g x.B = 0
    · rw [if_pos z, if_pos z]; exact .some ⟨rfl, rfl⟩
    · rw [if_neg z, if_neg z, if_pos z, if_pos hD, letC, Option.bind_some]; simp only [↓reduceIte]; rw [wi]; exact .some rfl
  · rw [ask_eq hl hA hD, Option.bind_some]
    cases ans with
    | nil => exact .some ⟨rfl, rfl⟩
    | cons n r => simp only [c, Int.reduceEq, ↓reduceIte]; rw [wi]; exact .some rfl
  · rw [push1 hl, Option.bind_some]; simp only [Option.bind_some, ↓reduceIte]; rw [wi]; exact .some rfl
  · rw [ask_eq hl hA hD, Option.bind_some]
    cases ans with
    | nil => exact .some ⟨rfl, rfl⟩
    | cons n r => simp only [c, Int.reduceEq, ↓reduceIte]; rw [wi]; exact .some rfl
  · rw [push1 hl, Option.bind_some]; simp only [Option.bind_some, ↓reduceIte]; rw [wi]; exact .some rfl
  · rw [ask_eq hl hA hD, Option.bind_some]
    cases ans with
    | nil => exact .some ⟨rfl, rfl⟩
    | cons n r => simp only [c, Int.reduceEq, ↓reduceIte]; rw [wi]; exact .some rfl
  · rw [ask_eq hl hA hD, Option.bind_some]
    cases ans with
    | nil => exact .some ⟨rfl, rfl⟩
    | cons n r => simp only [c, Int.reduceEq, ↓reduceIte]; rw [wi]; exact .some rfl
  · unfold tree_runner_cases_2.m
    rw [answer_eq, Option.bind_some]
    cases ans with
    | nil => exact .some ⟨rfl, rfl⟩
    | cons n r =>
      simp only [↓reduceIte, tred]
      by_cases e : n = T.g x.A
      · rw [if_pos e, if_pos e, if_pos (by simp; omega), letC, Option.bind_some, Option.bind_some, wi]; exact .some rfl
      · rw [if_neg e, if_neg e, if_pos (by simp; omega), letC, Option.bind_some, Option.bind_some]; exact .some rfl
  · by_cases a0 : T.g x.A < 0
    · rw [if_pos a0, Option.bind_some, if_pos rfl, if_neg (by omega), Option.bind_some]; exact .some ⟨rfl, rfl⟩
    · rw [if_neg a0, Option.bind_some]
      by_cases a1 : T.g x.A ≥ x.Len
      · rw [decide_eq_true a1, if_pos rfl, if_neg (by omega), Option.bind_some]; exact .some ⟨rfl, rfl⟩
      · have w : wr .i64 (x.Loc + T.g x.A) = x.Loc + T.g x.A := wr64 (by clear wi; omega)
        rw [if_pos (show 0 ≤ T.g x.A ∧ T.g x.A < x.Len by clear wi w; omega), decide_eq_false a1, if_neg (show ¬ (false = true) by decide), w, Option.bind_some]
        simp only [Int.reduceEq, ↓reduceIte]
        rw [ask_eq hl hA hD, Option.bind_some]
        cases ans with
        | nil => exact .some ⟨rfl, rfl⟩
        | cons n r => simp only [c, Int.reduceEq, ↓reduceIte]; rw [wi]; exact .some rfl
  · by_cases a0 : T.g x.A < 0
    · rw [if_pos a0, Option.bind_some, if_pos rfl, if_neg (by omega), Option.bind_some]; exact .some ⟨rfl, rfl⟩
    · rw [if_neg a0, Option.bind_some]
      by_cases a1 : T.g x.A ≥ x.Len
      · rw [decide_eq_true a1, if_pos rfl, if_neg (by omega), Option.bind_some]; exact .some ⟨rfl, rfl⟩
      · have w : wr .i64 (x.Loc + T.g x.A) = x.Loc + T.g x.A := wr64 (by clear wi; omega)
        rw [if_pos (show 0 ≤ T.g x.A ∧ T.g x.A < x.Len by clear wi w; omega), decide_eq_false a1, if_neg (show ¬ (false = true) by decide), w, push1 hl, Option.bind_some, Option.bind_some]
        simp only [↓reduceIte]
        rw [wi]; exact .some rfl
  · rw [push1 hl, Option.bind_some]; simp only [Option.bind_some, ↓reduceIte]; rw [wi]; exact .some rfl
  · by_cases e : T.g x.A < T.g x.B
    · rw [if_neg (by omega), Option.bind_some, decide_eq_true e]; simp only [↓reduceIte]; rw [wi]; exact .some rfl
    · rw [if_pos (by omega), Option.bind_some, decide_eq_false e]; exact .some rfl
  · by_cases e : T.g x.A = T.g x.B
    · rw [if_pos e, Option.bind_some, decide_eq_true e]; simp only [↓reduceIte]; rw [wi]; exact .some rfl
    · rw [if_neg e, Option.bind_some, decide_eq_false e]; exact .some rfl
  · exact .some ⟨rfl, rfl⟩
end
def TOk (x : api_Ins) (acts : List api_Act) : TR → Prop
  | .fin st ac => st ≠ 0 ∧ ac = acts
  | .nxt j T' ans' ac => (j = true → isJ x = true) ∧ x.Op ≠ 18 ∧ ∃ r, ac = acts ++ r ∧ r.length ≤ 1
theorem tok_fin {x : api_Ins} {acts : List api_Act} {st : Int} (h : st ≠ 0) : TOk x acts (.fin st acts) := ⟨h, rfl⟩
theorem tok_0 {x : api_Ins} {acts : List api_Act} {j : Bool} {T : Arr Int 400} {ans : List Int} (h : j = true → isJ x = true) (k : x.Op ≠ 18) : TOk x acts (.nxt j T ans acts) := ⟨h, k, [], by simp, by simp⟩
theorem tok_1 {x : api_Ins} {acts : List api_Act} {j : Bool} {T : Arr Int 400} {ans : List Int} {e : api_Act} (h : j = true → isJ x = true) (k : x.Op ≠ 18) : TOk x acts (.nxt j T ans (acts ++ [e])) := ⟨h, k, [e], rfl, by simp⟩
theorem tok_red {x : api_Ins} {acts : List api_Act} {ans : List Int} {g : Int → List Int → TR} (h : ∀ n r, TOk x acts (g n r)) : TOk x acts (tred ans acts g) := by
  unfold tred
  cases ans with
  | nil => exact tok_fin (by decide)
  | cons n r => exact h n r
theorem tstep_ok {x : api_Ins} (hx : isOp x.Op = true) (T : Arr Int 400) (ans : List Int) (acts : List api_Act) : TOk x acts (tstep x T ans acts) := by
  rcases isOp_c hx with c | c | c | c | c | c | c | c | c | c | c | c | c | c | c | c | c | c
  all_goals
    simp only [tstep, c, Int.reduceEq, ↓reduceIte]
    repeat' with_reducible first
      | exact tok_fin (by decide)
      | refine tok_red fun n r => ?_
      | exact tok_1 (fun h => absurd h (by decide)) (by omega)
      | exact tok_0 (fun h => absurd h (by decide)) (by omega)
      | exact tok_1 (fun _ => isJ_of (by omega)) (by omega)
      | exact tok_0 (fun _ => isJ_of (by omega)) (by omega)
      | split
section
variable {code : List api_Ins} {l : List api_Loc}
theorem a4_of {u : Bool} {n : Int} (h : TempP u n) : A4 n := by
  cases u
  · have := h.2 rfl; exact ⟨by omega, by omega⟩
  · have := h.1 rfl; exact ⟨by omega, by omega⟩
theorem pl_b {x : api_Ins} {i n : Int} (h : PP x i n l) (hl : l.length ≤ 16) : (0 ≤ x.Loc ∧ x.Loc < 16) ∧ (0 ≤ x.Len ∧ x.Len ≤ 16) := by
  have hpl := h.pl
  unfold PlP at hpl
  cases c : (sh x.Op).place
  · have := hpl.2 c; omega
  · have ⟨h1, h2, h3, h4, _⟩ := hpl.1 c
    unfold wid at h2 h4
    cases c2 : (sh x.Op).row
    · have := h1 c2
      rw [c2] at h2 h4
      simp at h2 h4
      omega
    · rw [c2] at h2 h4
      simp at h2 h4
      omega
theorem tree_rd (hR : RP code l) (hl : l.length ≤ 16) {i : Nat} (hi : i < code.length) {T : Arr Int 400} {ans : List Int} {acts : List api_Act} (ha : acts.length ≤ 100000) :
    match tstep (gi code i) T ans acts with
    | .fin st ac => tree_Run.l1 code (T, ans, acts, (i : Int)) = some (.inr (st, ac))
    | .nxt j T' ans' ac => tree_Run.l1 code (T, ans, acts, (i : Int)) = some (.inl (T', ans', ac, if j = true then (gi code i).To else (i : Int) + 1)) := by
  have hP := (hR.p i hi).1
  have hn := hR.n
  have hb := pl_b hP hl
  obtain ⟨r, hr, ht⟩ := do_eq (i := (i : Int)) (T := T) (ans := ans) hP.op ha (a4_of hP.a) (a4_of hP.b) (a4_of hP.d) (by omega) hb.1 hb.2
  have hok := tstep_ok hP.op T ans acts
  generalize tstep (gi code i) T ans acts = z at ht hok
  unfold tree_Run.l1
  dsimp only
  rw [if_pos (by omega), letC, hr, Option.bind_some]
  cases z with
  | fin st ac =>
    have ht : r.2.2.1 = ac ∧ r.2.2.2.2 = st := ht
    dsimp only
    rw [if_neg (by rw [ht.2]; exact hok.1), ht.1, ht.2]
  | nxt j T' ans' ac =>
    have ht : r = (T', ans', ac, (if j = true then (gi code i).To else (i : Int) + 1), 0) := ht
    subst ht
    rfl
theorem tree_end (hR : RP code l) (hl : l.length ≤ 16) : ∀ (m i : Nat), code.length ≤ i + m → i < code.length → ∀ (T : Arr Int 400) (ans : List Int) (acts : List api_Act), acts.length ≤ i → ∃ st r, loop (tree_Run.l1 code) (T, ans, acts, (i : Int)) = some (st, acts ++ r)
  | 0, i, hm, hi, T, ans, acts, ha => by omega
  | m + 1, i, hm, hi, T, ans, acts, ha => by
    have hn := hR.n
    have h1 := tree_rd hR hl hi (T := T) (ans := ans) (acts := acts) (by omega)
    have hok := tstep_ok (hR.p i hi).1.op T ans acts
    have hto := (hR.p i hi).1.to1
    generalize tstep (gi code i) T ans acts = z at h1 hok
    cases z with
    | fin st ac => exact ⟨st, [], by rw [loop_out h1, hok.2, List.append_nil]⟩
    | nxt j T' ans' ac =>
      obtain ⟨k1, k2, r, rfl, hr⟩ := hok
      have hlen : (acts ++ r).length ≤ i + 1 := by rw [List.length_append]; omega
      have hz := hR.z
      have h18 : i + 1 < code.length := by
        by_cases c : i + 1 < code.length
        · exact c
        · rw [show ((code.length : Int) - 1) = (i : Int) by omega] at hz
          exact absurd hz k2
      cases j with
      | true =>
        have ⟨t1, t2⟩ := hto (k1 rfl)
        obtain ⟨st, r', e⟩ := tree_end hR hl m (gi code i).To.toNat (by omega) (by omega) T' ans' (acts ++ r) (by omega)
        refine ⟨st, r ++ r', ?_⟩
        rw [loop_in h1, if_pos rfl, show (gi code i).To = (((gi code i).To.toNat : Nat) : Int) by omega, e, List.append_assoc]
      | false =>
        obtain ⟨st, r', e⟩ := tree_end hR hl m (i + 1) (by omega) h18 T' ans' (acts ++ r) hlen
        refine ⟨st, r ++ r', ?_⟩
        rw [loop_in h1, if_neg (by decide), show (i : Int) + 1 = ((i + 1 : Nat) : Int) by omega, e, List.append_assoc]
end

inductive Tr where
  | nil
  | node (x : api_Ins) (nx sd : Tr)
def Tr.size : Tr → Nat
  | .nil => 0
  | .node _ n s => n.size + s.size + 1
theorem Tr.size_pos {t : Tr} (h : t ≠ .nil) : 0 < t.size := by
  cases t with
  | nil => exact absurd rfl h
  | node x n s => simp [Tr.size]
def Tr.ps : Tr → List api_Ins
  | .nil => []
  | .node x n s => x :: (n.ps ++ s.ps)
theorem Tr.ps_len (t : Tr) : t.ps.length = t.size := by
  induction t with
  | nil => rfl
  | node x n s h1 h2 => simp only [Tr.ps, Tr.size, List.length_cons, List.length_append, h1, h2]
def trun : Tr → Arr Int 400 → List Int → List api_Act → Int × List api_Act
  | .nil, _, _, acts => (0, acts)
  | .node x nx sd, T, ans, acts => match tstep x T ans acts with
    | .fin st ac => (st, ac)
    | .nxt j T' ans' ac => match j with
      | true => trun sd T' ans' ac
      | false => trun nx T' ans' ac
def ctree (C : List api_Ins) : Nat → Nat → Tr
  | 0, _ => .nil
  | n + 1, i => if (gi C i).Op = 18 then .node (gi C i) .nil .nil else .node (gi C i) (ctree C n (i + 1)) (if isJ (gi C i) = true then ctree C n (gi C i).To.toNat else .nil)
theorem isJ_18 {x : api_Ins} (h : x.Op = 18) : isJ x = false := by unfold isJ; rw [h]; rfl
theorem tstep_18 {x : api_Ins} (h : x.Op = 18) (T : Arr Int 400) (ans : List Int) (acts : List api_Act) : tstep x T ans acts = .fin 1 acts := by
  unfold tstep; simp [h]
section
variable {code : List api_Ins} {l : List api_Loc}
theorem RP.nxt (hR : RP code l) {i : Nat} (hi : i < code.length) (h : (gi code i).Op ≠ 18) : i + 1 < code.length := by
  by_cases c : i + 1 < code.length
  · exact c
  · have hz := hR.z
    have hn := hR.n
    rw [show ((code.length : Int) - 1) = (i : Int) by omega] at hz
    exact absurd hz h
theorem RP.to_ (hR : RP code l) {i : Nat} (hi : i < code.length) (h : isJ (gi code i) = true) : i + 1 < (gi code i).To.toNat ∧ (gi code i).To.toNat < code.length ∧ (gi code i).To = (((gi code i).To.toNat : Nat) : Int) := by
  have := (hR.p i hi).1.to1 h
  omega
theorem run_ctree (hR : RP code l) (hl : l.length ≤ 16) : ∀ (n i : Nat), code.length ≤ i + n → i < code.length → ∀ (T : Arr Int 400) (ans : List Int) (acts : List api_Act), acts.length ≤ i →
    loop (tree_Run.l1 code) (T, ans, acts, (i : Int)) = some (trun (ctree code n i) T ans acts)
  | 0, i, hm, hi, T, ans, acts, ha => by omega
  | n + 1, i, hm, hi, T, ans, acts, ha => by
    have hn := hR.n
    have h1 := tree_rd hR hl hi (T := T) (ans := ans) (acts := acts) (by omega)
    have hok := tstep_ok (hR.p i hi).1.op T ans acts
    unfold ctree
    by_cases c : (gi code i).Op = 18
    · rw [tstep_18 c] at h1
      rw [if_pos c, loop_out h1]
      simp only [trun, tstep_18 c]
    · rw [if_neg c]
      simp only [trun]
      generalize tstep (gi code i) T ans acts = z at h1 hok
      cases z with
      | fin st ac => rw [loop_out h1]
      | nxt j T' ans' ac =>
        obtain ⟨k1, k2, r, rfl, hr⟩ := hok
        have hlen : (acts ++ r).length ≤ i + 1 := by rw [List.length_append]; omega
        cases j with
        | true =>
          have hJ := k1 rfl
          obtain ⟨t1, t2, t3⟩ := hR.to_ hi hJ
          rw [loop_in h1, if_pos rfl, t3, run_ctree hR hl n _ (by omega) t2 T' ans' (acts ++ r) (by omega)]
          simp only [hJ, if_true]
          congr 3
        | false =>
          rw [loop_in h1, if_neg (by decide), show (i : Int) + 1 = ((i + 1 : Nat) : Int) by omega, run_ctree hR hl n _ (by omega) (hR.nxt hi c) T' ans' (acts ++ r) hlen]
def tgt (x : api_Ins) (o : Nat) : Tr → api_Ins
  | .nil => x
  | _ => { x with To := (o : Int) }
def LayAt (C : List api_Ins) : Nat → Tr → Prop
  | _, .nil => True
  | o, .node x nx sd => o < C.length ∧ gi C o = tgt x (o + 1 + nx.size) sd ∧ LayAt C (o + 1) nx ∧ LayAt C (o + 1 + nx.size) sd
theorem tgt_nn {x : api_Ins} {o : Nat} {t : Tr} (h : t ≠ .nil) : tgt x o t = { x with To := (o : Int) } := by
  cases t with
  | nil => exact absurd rfl h
  | node y n s => rfl
theorem tstep_tgt (x : api_Ins) (o : Nat) (t : Tr) (T : Arr Int 400) (ans : List Int) (acts : List api_Act) : tstep (tgt x o t) T ans acts = tstep x T ans acts := by
  cases t <;> rfl
theorem tgt_op (x : api_Ins) (o : Nat) (t : Tr) : (tgt x o t).Op = x.Op ∧ (tgt x o t).D = x.D ∧ (tgt x o t).A = x.A ∧ (tgt x o t).B = x.B ∧ (tgt x o t).K = x.K ∧ (tgt x o t).Loc = x.Loc ∧ (tgt x o t).Len = x.Len := by
  cases t <;> exact ⟨rfl, rfl, rfl, rfl, rfl, rfl, rfl⟩
def Full : Tr → Prop
  | .nil => True
  | .node x nx sd => (x.Op = 18 ↔ nx = .nil) ∧ (isJ x = true ↔ sd ≠ .nil) ∧ Full nx ∧ Full sd
theorem run_lay (hR : RP code l) (hl : l.length ≤ 16) : ∀ (t : Tr) (o : Nat), t ≠ .nil → Full t → LayAt code o t → ∀ (T : Arr Int 400) (ans : List Int) (acts : List api_Act), acts.length ≤ o →
    loop (tree_Run.l1 code) (T, ans, acts, (o : Int)) = some (trun t T ans acts)
  | .nil, o, h, _, _, _, _, _, _ => absurd rfl h
  | .node x nx sd, o, _, hF, hL, T, ans, acts, ha => by
    have hn := hR.n
    obtain ⟨ho, e, l1, l2⟩ := hL
    obtain ⟨f1, f2, f3, f4⟩ := hF
    have h1 := tree_rd hR hl ho (T := T) (ans := ans) (acts := acts) (by omega)
    have hok := tstep_ok (hR.p o ho).1.op T ans acts
    rw [e, tstep_tgt] at h1
    rw [e, tstep_tgt] at hok
    simp only [trun]
    generalize tstep x T ans acts = z at h1 hok
    cases z with
    | fin st ac => rw [loop_out h1]
    | nxt j T' ans' ac =>
      obtain ⟨k1, k2, r, rfl, hr⟩ := hok
      have hlen : (acts ++ r).length ≤ o + 1 := by rw [List.length_append]; omega
      cases j with
      | true =>
        have hJ : isJ x = true := by have := k1 rfl; unfold isJ at this ⊢; rw [(tgt_op x _ sd).1] at this; exact this
        have hs := f2.1 hJ
        rw [loop_in h1, if_pos rfl, tgt_nn hs]
        exact run_lay hR hl sd _ hs f4 l2 T' ans' (acts ++ r) (by omega)
      | false =>
        have h18 : x.Op ≠ 18 := by rw [(tgt_op x _ sd).1] at k2; exact k2
        rw [loop_in h1, if_neg (by decide), show (o : Int) + 1 = ((o + 1 : Nat) : Int) by omega]
        exact run_lay hR hl nx _ (fun c => h18 (f1.2 c)) f3 l1 T' ans' (acts ++ r) hlen
end
end Go.Proofs.Ytbdbmklkgjbehaa.W
namespace Go.Proofs.Ytbdbmklkgjbehaa.W
open Go Go.RowKit Go.Proofs.Ytbdbmklkgjbehaa Go.Proofs.Ytbdbmklkgjbehaa.X
open Go.Proofs.Ytbdbmklkgjbehaa.B (wr aget aset loop loop_in loop_out loop_tot aget_aset)

theorem mks_tt {x : api_Ins} (c : x.Op = 1 ∨ x.Op = 2 ∨ x.Op = 3 ∨ x.Op = 4 ∨ x.Op = 5 ∨ x.Op = 6 ∨ x.Op = 8 ∨ x.Op = 10 ∨ x.Op = 11 ∨ x.Op = 13) : mks x = true := by
  unfold mks
  rcases c with c | c | c | c | c | c | c | c | c | c <;> rw [c] <;> rfl
theorem mks_ff {x : api_Ins} (c : x.Op = 7 ∨ x.Op = 9 ∨ x.Op = 12 ∨ x.Op = 14 ∨ x.Op = 15 ∨ x.Op = 16 ∨ x.Op = 17 ∨ x.Op = 18) : mks x = false := by
  unfold mks
  rcases c with c | c | c | c | c | c | c | c <;> rw [c] <;> rfl
theorem isJ_ff {x : api_Ins} (hx : isOp x.Op = true) (c : x.Op ≠ 12 ∧ x.Op ≠ 16 ∧ x.Op ≠ 17) : isJ x = false := by
  unfold isJ
  rcases isOp_c hx with d | d | d | d | d | d | d | d | d | d | d | d | d | d | d | d | d | d <;> first | (rw [d]; rfl) | (exfalso; omega)
def EF (x : api_Ins) (T : Arr Int 400) : TR → Prop
  | .fin _ _ => True
  | .nxt j T' ans' ac => (mks x = false → T' = T) ∧ (mks x = true → ∃ v, T' = T.s x.D v) ∧ (x.Op = 1 → T' = T.s x.D x.K) ∧ (j = true → isJ x = true)
theorem ef_fin {x : api_Ins} {T : Arr Int 400} {st : Int} {ac : List api_Act} : EF x T (.fin st ac) := trivial
theorem ef_same {x : api_Ins} {T : Arr Int 400} {j : Bool} {ans : List Int} {ac : List api_Act} (h : mks x = false) (k : x.Op ≠ 1) (hj : j = true → isJ x = true) : EF x T (.nxt j T ans ac) := ⟨fun _ => rfl, fun c => (by rw [h] at c; cases c), fun c => absurd c k, hj⟩
theorem ef_set {x : api_Ins} {T : Arr Int 400} {ans : List Int} {ac : List api_Act} {v : Int} (h : mks x = true) (k : x.Op ≠ 1) : EF x T (.nxt false (T.s x.D v) ans ac) := ⟨fun c => (by rw [h] at c; cases c), fun _ => ⟨v, rfl⟩, fun c => absurd c k, fun c => (by cases c)⟩
theorem ef_const {x : api_Ins} {T : Arr Int 400} {ans : List Int} {ac : List api_Act} (h : mks x = true) : EF x T (.nxt false (T.s x.D x.K) ans ac) := ⟨fun c => (by rw [h] at c; cases c), fun _ => ⟨_, rfl⟩, fun c => rfl, fun c => (by cases c)⟩
theorem ef_red {x : api_Ins} {T : Arr Int 400} {acts : List api_Act} {ans : List Int} {g : Int → List Int → TR} (h : ∀ n r, EF x T (g n r)) : EF x T (tred ans acts g) := by
  unfold tred
  cases ans with
  | nil => trivial
  | cons n r => exact h n r
theorem tstep_ef {x : api_Ins} (hx : isOp x.Op = true) (T : Arr Int 400) (ans : List Int) (acts : List api_Act) : EF x T (tstep x T ans acts) := by
  rcases isOp_c hx with c | c | c | c | c | c | c | c | c | c | c | c | c | c | c | c | c | c
  all_goals
    simp only [tstep, c, Int.reduceEq, ↓reduceIte]
    repeat' with_reducible first
      | exact ef_fin
      | exact ef_const (mks_tt (by omega))
      | exact ef_set (mks_tt (by omega)) (by omega)
      | exact ef_same (mks_ff (by omega)) (by omega) (fun h => absurd h (by decide))
      | exact ef_same (mks_ff (by omega)) (by omega) (fun _ => isJ_of (by omega))
      | refine ef_red fun n r => ?_
      | split
theorem ar_gs {T : Arr Int 400} {d a v : Int} (hd : 0 ≤ d ∧ d < 400) (ha : 0 ≤ a ∧ a < 400) : (T.s d v).g a = if a = d then v else T.g a := by
  unfold Arr.g Arr.s
  have hl := T.h
  show gi (T.l.set d.toNat v) a = _
  rw [gi_set (by omega) ha.1 (by omega)]
  by_cases c : a = d
  · rw [if_pos c, if_pos (by omega)]
  · rw [if_neg c, if_neg (by omega)]

structure PQ (x : api_Ins) (l : List api_Loc) : Prop where
  op : isOp x.Op = true
  d : TempP (sh x.Op).d x.D
  a : TempP (sh x.Op).a x.A
  b : TempP (sh x.Op).b x.B
  k : (sh x.Op).k = false → x.K = 0
  pl : PlP (sh x.Op) x l
  to0 : isJ x = false → x.To = 0
def mkd (x : api_Ins) (mk : List Int) : List Int := if mks x = true then x.D :: mk else mk
def mk1 (x : api_Ins) : List Int := if mks x = true then [x.D] else []
def mkT : Tr → List Int
  | .nil => []
  | .node x nx sd => mk1 x ++ (mkT nx ++ mkT sd)
def WT (l : List api_Loc) : List Int → Tr → Prop
  | _, .nil => True
  | mk, .node x nx sd => PQ x l ∧ ((sh x.Op).a = true → x.A ∈ mk) ∧ ((sh x.Op).b = true → x.B ∈ mk) ∧ WT l (mkd x mk) nx ∧ WT l (mkd x mk) sd
def DJ (mk : List Int) (t : Tr) : Prop := (∀ a ∈ mk, a ∉ mkT t) ∧ (mkT t).Nodup
theorem dj_next {mk : List Int} {x : api_Ins} {nx sd : Tr} (h : DJ mk (.node x nx sd)) : DJ (mkd x mk) nx ∧ DJ (mkd x mk) sd ∧ (mks x = true → x.D ∉ mk) := by
  obtain ⟨h1, h2⟩ := h
  simp only [mkT] at h1 h2
  rw [List.nodup_append] at h2
  obtain ⟨n1, n2, n3⟩ := h2
  rw [List.nodup_append] at n2
  obtain ⟨n4, n5, n6⟩ := n2
  have key : ∀ s : Tr, (∀ a, a ∈ mkT s → a ∈ mkT nx ++ mkT sd) → ∀ a ∈ mkd x mk, a ∉ mkT s := by
    intro s hs a ha hm
    unfold mkd at ha
    by_cases c : mks x = true
    · rw [if_pos c] at ha
      rcases List.mem_cons.1 ha with rfl | ha
      · exact n3 x.D (by simp [mk1, c]) _ (hs _ hm) rfl
      · exact h1 a ha (List.mem_append.2 (.inr (hs _ hm)))
    · rw [if_neg c] at ha
      exact h1 a ha (List.mem_append.2 (.inr (hs _ hm)))
  refine ⟨⟨key nx fun a h => List.mem_append.2 (.inl h), n4⟩, ⟨key sd fun a h => List.mem_append.2 (.inr h), n5⟩, fun c hm => ?_⟩
  exact h1 x.D hm (List.mem_append.2 (.inl (by simp [mk1, c])))

abbrev Kn := List (Int × Int)
def Inv (kn : Kn) (mk : List Int) (T : Arr Int 400) : Prop := ∀ a k, aget kn a = some k → a ∈ mk ∧ (0 ≤ a ∧ a < 400) ∧ T.g a = k
def both (x : api_Ins) (kn : Kn) : Prop := (aget kn x.A).isSome = true ∧ (aget kn x.B).isSome = true
instance (x : api_Ins) (kn : Kn) : Decidable (both x kn) := by unfold both; infer_instance
def va (x : api_Ins) (kn : Kn) : Int := (aget kn x.A).getD 0
def vb (x : api_Ins) (kn : Kn) : Int := (aget kn x.B).getD 0
def fins (x : api_Ins) (kn : Kn) : api_Ins :=
  if (x.Op = 2 ∨ x.Op = 3 ∨ x.Op = 4) ∧ both x kn then ⟨1, x.D, 0, 0, 0, 0, fold_reckon.m x.Op (va x kn) (vb x kn), 0⟩
  else if x.Op = 5 ∧ both x kn ∧ vb x kn ≠ 0 then ⟨1, x.D, 0, 0, 0, 0, wr .i64 (Int.tdiv (va x kn) (vb x kn)), 0⟩
  else x
def decd (x : api_Ins) (kn : Kn) : Option Bool :=
  if x.Op = 16 ∨ x.Op = 17 then
    (if (x.A = x.B ∧ x.Op = 16) ∨ (both x kn ∧ x.Op = 16 ∧ va x kn ≥ vb x kn) ∨ (both x kn ∧ x.Op = 17 ∧ va x kn ≠ vb x kn) then some true
    else if x.A = x.B ∨ both x kn then some false else none)
  else none
def kn1 (y : api_Ins) (kn : Kn) : Kn := if y.Op = 1 then aset kn y.D y.K else kn
def fold : Tr → Kn → Tr × Kn
  | .nil, kn => (.nil, kn)
  | .node x nx sd, kn =>
    if x.Op = 18 then (.node x .nil .nil, kn) else
    match decd x kn with
    | some true => fold sd kn
    | some false => fold nx kn
    | none => (.node (fins x kn) (fold nx (kn1 (fins x kn) kn)).1 (fold sd (kn1 (fins x kn) kn)).1, (fold nx (kn1 (fins x kn) kn)).2)
theorem fins_c (x : api_Ins) (kn : Kn) : fins x kn = x ∨ ((x.Op = 2 ∨ x.Op = 3 ∨ x.Op = 4 ∨ x.Op = 5) ∧ ∃ K, fins x kn = ⟨1, x.D, 0, 0, 0, 0, K, 0⟩) := by
  unfold fins
  split
  · rename_i h; exact .inr ⟨by omega, _, rfl⟩
  · split
    · rename_i h; exact .inr ⟨by omega, _, rfl⟩
    · exact .inl rfl
theorem inv_ab {kn : Kn} {mk : List Int} {T : Arr Int 400} (h : Inv kn mk T) {x : api_Ins} (k : both x kn) : T.g x.A = va x kn ∧ T.g x.B = vb x kn := by
  obtain ⟨k1, k2⟩ := k
  obtain ⟨a, ha⟩ := Option.isSome_iff_exists.1 k1
  obtain ⟨b, hb⟩ := Option.isSome_iff_exists.1 k2
  unfold va vb
  rw [ha, hb]
  exact ⟨(h _ _ ha).2.2, (h _ _ hb).2.2⟩
theorem fins_step {kn : Kn} {mk : List Int} {T : Arr Int 400} (h : Inv kn mk T) (x : api_Ins) (ans : List Int) (acts : List api_Act) : tstep (fins x kn) T ans acts = tstep x T ans acts := by
  unfold fins
  split
  · rename_i c
    obtain ⟨e1, e2⟩ := inv_ab h c.2
    rcases c.1 with c | c | c <;> simp [tstep, fold_reckon.m, c, e1, e2]
  · split
    · rename_i c
      obtain ⟨e1, e2⟩ := inv_ab h c.2.1
      simp [tstep, c.1, e1, e2, c.2.2]
    · rfl
theorem decd_step {kn : Kn} {mk : List Int} {T : Arr Int 400} (h : Inv kn mk T) {x : api_Ins} {b : Bool} (hd : decd x kn = some b) (ans : List Int) (acts : List api_Act) : tstep x T ans acts = .nxt b T ans acts ∧ (x.Op = 16 ∨ x.Op = 17) := by
  unfold decd at hd
  split at hd
  · rename_i hop
    refine ⟨?_, hop⟩
    split at hd
    · rename_i c
      cases hd
      rcases c with ⟨c, d⟩ | ⟨c, d, e⟩ | ⟨c, d, e⟩
      · simp [tstep, d, c]
      · obtain ⟨e1, e2⟩ := inv_ab h c
        simp [tstep, d, e1, e2, e]
      · obtain ⟨e1, e2⟩ := inv_ab h c
        simp [tstep, d, e1, e2, e]
    · rename_i c
      split at hd
      · rename_i f
        cases hd
        rcases hop with d | d
        · rcases f with f | f
          · exact absurd (.inl ⟨f, d⟩) c
          · obtain ⟨e1, e2⟩ := inv_ab h f
            have : ¬ va x kn ≥ vb x kn := fun e => c (.inr (.inl ⟨f, d, e⟩))
            simp only [tstep, d, e1, e2, Int.reduceEq, ↓reduceIte]
            rw [decide_eq_true (show va x kn < vb x kn by omega)]; rfl
        · rcases f with f | f
          · simp [tstep, d, f]
          · obtain ⟨e1, e2⟩ := inv_ab h f
            have : va x kn = vb x kn := Classical.byContradiction fun e => c (.inr (.inr ⟨f, d, e⟩))
            simp only [tstep, d, e1, e2, Int.reduceEq, ↓reduceIte]
            rw [decide_eq_true this]; rfl
      · cases hd
  · cases hd
theorem fins_k {x : api_Ins} {l : List api_Loc} (h : PQ x l) (kn : Kn) : PQ (fins x kn) l ∧ (fins x kn).D = x.D ∧ mks (fins x kn) = mks x ∧ isJ (fins x kn) = isJ x ∧ ((fins x kn).Op = 18 ↔ x.Op = 18) ∧ ((sh (fins x kn).Op).a = true → fins x kn = x) ∧ ((sh (fins x kn).Op).b = true → fins x kn = x) := by
  rcases fins_c x kn with e | ⟨c, K, e⟩
  · rw [e]; exact ⟨h, rfl, rfl, rfl, Iff.rfl, fun _ => rfl, fun _ => rfl⟩
  · rw [e]
    have hm : mks x = true := mks_tt (by omega)
    have hJ : isJ x = false := isJ_ff h.op (by omega)
    have hd := h.d
    rw [← mks_sh, hm] at hd
    refine ⟨⟨rfl, hd, ⟨fun c => (by cases c), fun _ => rfl⟩, ⟨fun c => (by cases c), fun _ => rfl⟩, fun c => (by cases c), ⟨fun c => (by cases c), fun _ => ⟨rfl, rfl⟩⟩, fun _ => rfl⟩, rfl, hm.symm, hJ.symm, ⟨fun c => (by cases c), fun c => by omega⟩, fun c => (by cases c), fun c => (by cases c)⟩
theorem inv_next {kn : Kn} {mk : List Int} {T T' : Arr Int 400} {l : List api_Loc} {y : api_Ins} {j : Bool} {ans : List Int} {ac : List api_Act} (h : Inv kn mk T) (hp : PQ y l) (hd : mks y = true → y.D ∉ mk) (he : EF y T (.nxt j T' ans ac)) : Inv (kn1 y kn) (mkd y mk) T' := by
  obtain ⟨e1, e2, e3, _⟩ := he
  have old : ∀ a k, aget kn a = some k → a ∈ mkd y mk ∧ (0 ≤ a ∧ a < 400) ∧ T'.g a = k := by
    intro a k hk
    obtain ⟨k1, k2, k3⟩ := h a k hk
    cases hm : mks y
    · rw [e1 hm]; exact ⟨by unfold mkd; rw [hm]; simpa using k1, k2, k3⟩
    · obtain ⟨v, rfl⟩ := e2 hm
      have hne : a ≠ y.D := fun c => hd hm (c ▸ k1)
      have hD := hp.d.1 (by rw [← mks_sh]; exact hm)
      rw [ar_gs hD k2, if_neg hne]
      exact ⟨by unfold mkd; rw [if_pos hm]; exact List.mem_cons_of_mem _ k1, k2, k3⟩
  intro a k hk
  unfold kn1 at hk
  by_cases c : y.Op = 1
  · rw [if_pos c, aget_aset] at hk
    by_cases ea : a = y.D
    · rw [if_pos ea] at hk; cases hk; subst ea
      have hm : mks y = true := mks_tt (.inl c)
      have hD := hp.d.1 (by rw [← mks_sh]; exact hm)
      rw [e3 c, ar_gs hD hD, if_pos rfl]
      exact ⟨by unfold mkd; rw [if_pos hm]; exact List.mem_cons_self .., hD, rfl⟩
    · rw [if_neg ea] at hk; exact old a k hk
  · rw [if_neg c] at hk; exact old a k hk
theorem mkd_fins {x : api_Ins} {l : List api_Loc} (h : PQ x l) (kn : Kn) (mk : List Int) : mkd (fins x kn) mk = mkd x mk := by
  obtain ⟨_, k2, k3, _⟩ := fins_k h kn
  unfold mkd; rw [k2, k3]
theorem mk1_fins {x : api_Ins} {l : List api_Loc} (h : PQ x l) (kn : Kn) : mk1 (fins x kn) = mk1 x := by
  obtain ⟨_, k2, k3, _⟩ := fins_k h kn
  unfold mk1; rw [k2, k3]
theorem fold_run {l : List api_Loc} : ∀ (t : Tr) (mk : List Int) (kn : Kn) (T : Arr Int 400) (ans : List Int) (acts : List api_Act), WT l mk t → DJ mk t → Inv kn mk T → trun (fold t kn).1 T ans acts = trun t T ans acts
  | .nil, mk, kn, T, ans, acts, hW, hD, hI => rfl
  | .node x nx sd, mk, kn, T, ans, acts, hW, hD, hI => by
    obtain ⟨w1, w2, w3, w4, w5⟩ := hW
    obtain ⟨d1, d2, d3⟩ := dj_next hD
    simp only [fold]
    by_cases c : x.Op = 18
    · rw [if_pos c]; simp only [trun, tstep_18 c]
    · rw [if_neg c]
      split
      · rename_i hd
        obtain ⟨e, c2⟩ := decd_step hI hd ans acts
        have hm : mks x = false := mks_ff (by omega)
        have hk : mkd x mk = mk := by unfold mkd; rw [hm]; rfl
        rw [hk] at w5 d2
        rw [fold_run sd mk kn T ans acts w5 d2 hI]
        simp only [trun, e]
      · rename_i hd
        obtain ⟨e, c2⟩ := decd_step hI hd ans acts
        have hm : mks x = false := mks_ff (by omega)
        have hk : mkd x mk = mk := by unfold mkd; rw [hm]; rfl
        rw [hk] at w4 d1
        rw [fold_run nx mk kn T ans acts w4 d1 hI]
        simp only [trun, e]
      · obtain ⟨q1, q2, q3, q4, q5, q6, q7⟩ := fins_k w1 kn
        simp only [trun]
        have hef := tstep_ef q1.op T ans acts
        rw [fins_step hI] at hef ⊢
        generalize tstep x T ans acts = z at hef
        cases z with
        | fin st ac => rfl
        | nxt j T' ans' ac =>
          have hI' := inv_next hI q1 (fun h => by rw [q2]; exact d3 (q3 ▸ h)) hef
          rw [mkd_fins w1] at hI'
          cases j with
          | true => exact fold_run sd _ _ T' ans' ac w5 d2 hI'
          | false => exact fold_run nx _ _ T' ans' ac w4 d1 hI'
theorem fold_nn : ∀ (t : Tr) (kn : Kn), Full t → t ≠ .nil → (fold t kn).1 ≠ .nil
  | .nil, kn, _, h => absurd rfl h
  | .node x nx sd, kn, hF, _ => by
    obtain ⟨f1, f2, f3, f4⟩ := hF
    simp only [fold]
    by_cases c : x.Op = 18
    · rw [if_pos c]; exact fun h => by cases h
    · rw [if_neg c]
      split
      · rename_i hd
        have c2 : x.Op = 16 ∨ x.Op = 17 := by unfold decd at hd; split at hd <;> first | assumption | cases hd
        exact fold_nn sd kn f4 (f2.1 (isJ_of (by omega)))
      · exact fold_nn nx kn f3 (fun h => c (f1.2 h))
      · exact fun h => by cases h
theorem decd_op {x : api_Ins} {kn : Kn} {b : Bool} (hd : decd x kn = some b) : x.Op = 16 ∨ x.Op = 17 := by unfold decd at hd; split at hd <;> first | assumption | cases hd
theorem fold_ok {l : List api_Loc} : ∀ (t : Tr) (mk : List Int) (kn : Kn), WT l mk t → Full t → WT l mk (fold t kn).1 ∧ Full (fold t kn).1 ∧ List.Sublist (mkT (fold t kn).1) (mkT t) ∧ (fold t kn).1.size ≤ t.size
  | .nil, mk, kn, hW, hF => ⟨trivial, trivial, List.Sublist.refl _, Nat.le_refl _⟩
  | .node x nx sd, mk, kn, hW, hF => by
    obtain ⟨w1, w2, w3, w4, w5⟩ := hW
    obtain ⟨f1, f2, f3, f4⟩ := hF
    simp only [fold]
    by_cases c : x.Op = 18
    · rw [if_pos c]
      refine ⟨⟨w1, w2, w3, trivial, trivial⟩, ⟨⟨fun _ => rfl, fun _ => c⟩, ⟨fun h => (by rw [isJ_18 c] at h; cases h), fun h => absurd rfl h⟩, trivial, trivial⟩, ?_, ?_⟩
      · simp only [mkT, List.append_nil]; exact List.sublist_append_left _ _
      · simp only [Tr.size]; omega
    · rw [if_neg c]
      split
      · rename_i hd
        have c2 := decd_op hd
        have hm : mks x = false := mks_ff (by omega)
        have hk : mkd x mk = mk := by unfold mkd; rw [hm]; rfl
        rw [hk] at w5
        obtain ⟨k1, k2, k3, k4⟩ := fold_ok sd mk kn w5 f4
        refine ⟨k1, k2, k3.trans ?_, by simp only [Tr.size]; omega⟩
        simp only [mkT]
        exact (List.sublist_append_right (mkT nx) _).trans (List.sublist_append_right _ _)
      · rename_i hd
        have c2 := decd_op hd
        have hm : mks x = false := mks_ff (by omega)
        have hk : mkd x mk = mk := by unfold mkd; rw [hm]; rfl
        rw [hk] at w4
        obtain ⟨k1, k2, k3, k4⟩ := fold_ok nx mk kn w4 f3
        refine ⟨k1, k2, k3.trans ?_, by simp only [Tr.size]; omega⟩
        simp only [mkT]
        exact (List.sublist_append_left _ _).trans (List.sublist_append_right _ _)
      · obtain ⟨q1, q2, q3, q4, q5, q6, q7⟩ := fins_k w1 kn
        obtain ⟨n1, n2, n3, n4⟩ := fold_ok nx (mkd x mk) (kn1 (fins x kn) kn) w4 f3
        obtain ⟨s1, s2, s3, s4⟩ := fold_ok sd (mkd x mk) (kn1 (fins x kn) kn) w5 f4
        refine ⟨⟨q1, fun h => ?_, fun h => ?_, by rw [mkd_fins w1]; exact n1, by rw [mkd_fins w1]; exact s1⟩, ⟨?_, ?_, n2, s2⟩, ?_, ?_⟩
        · have e := q6 h; rw [e] at h ⊢; exact w2 h
        · have e := q7 h; rw [e] at h ⊢; exact w3 h
        · refine ⟨fun h => absurd (q5.1 h) c, fun h => ?_⟩
          exact absurd h (fold_nn nx _ f3 (fun h => c (f1.2 h)))
        · rw [q4]
          refine ⟨fun h => fold_nn sd _ f4 (f2.1 h), fun h => f2.2 fun e => h ?_⟩
          rw [e]; rfl
        · simp only [mkT]
          rw [mk1_fins w1]
          exact (List.Sublist.refl _).append (n3.append s3)
        · simp only [Tr.size]; omega
def CN (y : api_Ins) (kn : Kn) : Prop := ((y.Op = 2 ∨ y.Op = 3 ∨ y.Op = 4) → ¬ both y kn) ∧ (y.Op = 5 → both y kn → vb y kn = 0) ∧ ((y.Op = 16 ∨ y.Op = 17) → y.A ≠ y.B ∧ ¬ both y kn)
def NR : Kn → Tr → Prop
  | _, .nil => True
  | kn, .node y nx sd => CN y kn ∧ NR (kn1 y kn) nx ∧ NR (kn1 y kn) sd
theorem fold_nr : ∀ (t : Tr) (kn : Kn), NR kn (fold t kn).1
  | .nil, kn => trivial
  | .node x nx sd, kn => by
    simp only [fold]
    by_cases c : x.Op = 18
    · rw [if_pos c]
      exact ⟨⟨fun h => by omega, fun h => by omega, fun h => by omega⟩, trivial, trivial⟩
    · rw [if_neg c]
      split
      · exact fold_nr sd kn
      · exact fold_nr nx kn
      · rename_i hd
        refine ⟨?_, fold_nr nx _, fold_nr sd _⟩
        unfold fins
        split
        · exact ⟨fun h => by simp at h, fun h => by simp at h, fun h => by simp at h⟩
        · rename_i h1
          split
          · exact ⟨fun h => by simp at h, fun h => by simp at h, fun h => by simp at h⟩
          · rename_i h2
            refine ⟨fun h hb => h1 ⟨h, hb⟩, fun h hb => Classical.byContradiction fun hz => h2 ⟨h, hb, hz⟩, fun h => ?_⟩
            unfold decd at hd
            rw [if_pos h] at hd
            split at hd
            · cases hd
            · split at hd
              · cases hd
              · rename_i h4
                exact ⟨fun e => h4 (.inl e), fun e => h4 (.inr e)⟩

def ust (x : api_Ins) : List Int := (if (sh x.Op).a = true then [x.A] else []) ++ (if (sh x.Op).b = true then [x.B] else [])
def ocT : Tr → List Int
  | .nil => []
  | .node x nx sd => ust x ++ (ocT nx ++ ocT sd)
def gz (m : Kn) (a : Int) : Int := (aget m a).getD 0
def idl (us kn : Kn) (x : api_Ins) : Bool :=
  if x.Op = 1 ∨ x.Op = 2 ∨ x.Op = 3 ∨ x.Op = 4 then decide (gz us x.D = 0)
  else if x.Op = 5 then (if gz us x.D = 0 then !(decide (gz kn x.B = 0)) else false)
  else false
def trim (us kn : Kn) : Tr → Tr × Nat
  | .nil => (.nil, 0)
  | .node x nx sd => if idl us kn x = true then ((trim us kn nx).1, (trim us kn nx).2 + 1) else (.node x (trim us kn nx).1 (trim us kn sd).1, (trim us kn nx).2 + (trim us kn sd).2)
theorem idl_c {us kn : Kn} {x : api_Ins} (h : idl us kn x = true) : (x.Op = 1 ∨ x.Op = 2 ∨ x.Op = 3 ∨ x.Op = 4 ∨ x.Op = 5) ∧ gz us x.D = 0 ∧ (x.Op = 5 → gz kn x.B ≠ 0) := by
  unfold idl at h
  split at h
  · rename_i c; exact ⟨by omega, by simpa using h, fun e => by omega⟩
  · split at h
    · rename_i c
      split at h
      · rename_i d; exact ⟨by omega, d, fun _ => by simpa using h⟩
      · cases h
    · cases h
theorem trim_nn {us kn : Kn} : ∀ (t : Tr), Full t → t ≠ .nil → (trim us kn t).1 ≠ .nil
  | .nil, _, h => absurd rfl h
  | .node x nx sd, hF, _ => by
    obtain ⟨f1, f2, f3, f4⟩ := hF
    simp only [trim]
    by_cases c : idl us kn x = true
    · rw [if_pos c]
      have := (idl_c c).1
      exact trim_nn nx f3 (fun h => by have := f1.2 h; omega)
    · rw [if_neg c]; exact fun h => by cases h
theorem mkT_mem : ∀ {t : Tr} {y : api_Ins}, y ∈ t.ps → mks y = true → y.D ∈ mkT t
  | .nil, y, h, _ => by simp [Tr.ps] at h
  | .node x nx sd, y, h, hm => by
    simp only [Tr.ps, List.mem_cons, List.mem_append] at h
    simp only [mkT, List.mem_append]
    rcases h with rfl | h | h
    · exact .inl (by simp [mk1, hm])
    · exact .inr (.inl (mkT_mem h hm))
    · exact .inr (.inr (mkT_mem h hm))
def UQ (t : Tr) : Prop := ∀ x ∈ t.ps, ∀ y ∈ t.ps, mks x = true → mks y = true → x.D = y.D → x = y
theorem uq_of : ∀ {t : Tr}, (mkT t).Nodup → UQ t
  | .nil, _ => fun x hx => by simp [Tr.ps] at hx
  | .node x nx sd, hn => by
    simp only [mkT] at hn
    rw [List.nodup_append] at hn
    obtain ⟨n1, n2, n3⟩ := hn
    rw [List.nodup_append] at n2
    obtain ⟨n4, n5, n6⟩ := n2
    have root : ∀ z, mks x = true → mks z = true → x.D = z.D → z ∈ nx.ps ++ sd.ps → False := by
      intro z hx hz e hm
      refine n3 x.D (by simp [mk1, hx]) z.D ?_ e
      rcases List.mem_append.1 hm with h | h
      · exact List.mem_append.2 (.inl (mkT_mem h hz))
      · exact List.mem_append.2 (.inr (mkT_mem h hz))
    intro a ha b hb h1 h2 e
    simp only [Tr.ps, List.mem_cons] at ha hb
    rcases ha with rfl | ha <;> rcases hb with rfl | hb
    · rfl
    · exact (root b h1 h2 e hb).elim
    · exact (root a h2 h1 e.symm ha).elim
    · rcases List.mem_append.1 ha with ha | ha <;> rcases List.mem_append.1 hb with hb | hb
      · exact uq_of n4 a ha b hb h1 h2 e
      · exact (n6 _ (mkT_mem ha h1) _ (mkT_mem hb h2) e).elim
      · exact (n6 _ (mkT_mem hb h2) _ (mkT_mem ha h1) e.symm).elim
      · exact uq_of n5 a ha b hb h1 h2 e
theorem trim_ok {us kn : Kn} {l : List api_Loc} {O : List Int} : ∀ (t : Tr) (mk mk' : List Int), WT l mk t → Full t → (∀ a ∈ mk, a ∈ O → a ∈ mk') → (∀ a ∈ ocT t, a ∈ O) → (∀ x ∈ t.ps, idl us kn x = true → x.D ∉ O) →
    WT l mk' (trim us kn t).1 ∧ Full (trim us kn t).1 ∧ List.Sublist (mkT (trim us kn t).1) (mkT t) ∧ (trim us kn t).1.size + (trim us kn t).2 ≤ t.size ∧ List.Sublist (trim us kn t).1.ps t.ps
  | .nil, mk, mk', hW, hF, h1, h2, h3 => ⟨trivial, trivial, List.Sublist.refl _, Nat.le_refl _, List.Sublist.refl _⟩
  | .node x nx sd, mk, mk', hW, hF, h1, h2, h3 => by
    obtain ⟨w1, w2, w3, w4, w5⟩ := hW
    obtain ⟨f1, f2, f3, f4⟩ := hF
    simp only [ocT, List.mem_append] at h2
    simp only [Tr.ps, List.mem_cons, List.mem_append] at h3
    simp only [trim]
    by_cases c : idl us kn x = true
    · rw [if_pos c]
      have hD := h3 x (.inl rfl) c
      obtain ⟨n1, n2, n3, n4, n5⟩ := trim_ok nx (mkd x mk) mk' w4 f3 (fun a ha hO => by
        unfold mkd at ha
        split at ha
        · rcases List.mem_cons.1 ha with rfl | ha
          · exact absurd hO hD
          · exact h1 a ha hO
        · exact h1 a ha hO) (fun a ha => h2 a (.inr (.inl ha))) (fun y hy => h3 y (.inr (.inl hy)))
      refine ⟨n1, n2, n3.trans ?_, by simp only [Tr.size]; omega, ?_⟩
      · simp only [mkT]; exact (List.sublist_append_left _ _).trans (List.sublist_append_right _ _)
      · simp only [Tr.ps]; exact (n5.trans (List.sublist_append_left _ _)).cons _
    · rw [if_neg c]
      have hk : ∀ a ∈ mkd x mk, a ∈ O → a ∈ mkd x mk' := by
        intro a ha hO
        unfold mkd at ha ⊢
        by_cases hm : mks x = true
        · rw [if_pos hm] at ha ⊢
          rcases List.mem_cons.1 ha with rfl | ha
          · exact List.mem_cons_self ..
          · exact List.mem_cons_of_mem _ (h1 a ha hO)
        · rw [if_neg hm] at ha ⊢; exact h1 a ha hO
      obtain ⟨n1, n2, n3, n4, n5⟩ := trim_ok nx (mkd x mk) (mkd x mk') w4 f3 hk (fun a ha => h2 a (.inr (.inl ha))) (fun y hy => h3 y (.inr (.inl hy)))
      obtain ⟨s1, s2, s3, s4, s5⟩ := trim_ok sd (mkd x mk) (mkd x mk') w5 f4 hk (fun a ha => h2 a (.inr (.inr ha))) (fun y hy => h3 y (.inr (.inr hy)))
      refine ⟨⟨w1, fun h => h1 _ (w2 h) (h2 _ (.inl ?_)), fun h => h1 _ (w3 h) (h2 _ (.inl ?_)), n1, s1⟩, ⟨⟨fun h => ?_, fun h => ?_⟩, ⟨fun h => trim_nn sd f4 (f2.1 h), fun h => f2.2 fun e => h ?_⟩, n2, s2⟩, ?_, by simp only [Tr.size]; omega, ?_⟩
      · unfold ust; rw [if_pos h]; simp
      · unfold ust; rw [if_pos h]; simp
      · rw [f1.1 h]; rfl
      · exact Classical.byContradiction fun e => trim_nn nx f3 (fun k => e (f1.2 k)) h
      · rw [e]; rfl
      · simp only [mkT]; exact (List.Sublist.refl _).append (n3.append s3)
      · simp only [Tr.ps]; exact (n5.append s5).cons_cons _
theorem trim_0 {us kn : Kn} : ∀ (t : Tr), (trim us kn t).2 = 0 → (trim us kn t).1 = t ∧ ∀ x ∈ t.ps, idl us kn x = false
  | .nil, _ => ⟨rfl, fun x h => by simp [Tr.ps] at h⟩
  | .node x nx sd, h => by
    simp only [trim] at h ⊢
    by_cases c : idl us kn x = true
    · rw [if_pos c] at h; simp at h
    · rw [if_neg c] at h ⊢
      simp only at h
      obtain ⟨n1, n2⟩ := trim_0 (us := us) (kn := kn) nx (by omega)
      obtain ⟨s1, s2⟩ := trim_0 (us := us) (kn := kn) sd (by omega)
      refine ⟨by rw [n1, s1], fun y hy => ?_⟩
      simp only [Tr.ps, List.mem_cons, List.mem_append] at hy
      rcases hy with rfl | hy | hy
      · simpa using c
      · exact n2 y hy
      · exact s2 y hy
def RT (x : api_Ins) (T T' : Arr Int 400) : TR → TR → Prop
  | .fin a b, z => z = .fin a b
  | .nxt j T1 an ac, z => ∃ T1', z = .nxt j T1' an ac ∧ ((mks x = false ∧ T1 = T ∧ T1' = T') ∨ (mks x = true ∧ ∃ v, T1 = T.s x.D v ∧ T1' = T'.s x.D v))
section
variable {x : api_Ins} {T T' : Arr Int 400} {ans : List Int} {ac : List api_Act}
theorem rt_fin {st : Int} : RT x T T' (.fin st ac) (.fin st ac) := rfl
theorem rt_same {j : Bool} (h : mks x = false) : RT x T T' (.nxt j T ans ac) (.nxt j T' ans ac) := ⟨T', rfl, .inl ⟨h, rfl, rfl⟩⟩
theorem rt_set {j : Bool} {v : Int} (h : mks x = true) : RT x T T' (.nxt j (T.s x.D v) ans ac) (.nxt j (T'.s x.D v) ans ac) := ⟨_, rfl, .inr ⟨h, v, rfl, rfl⟩⟩
theorem rt_red {g g' : Int → List Int → TR} (h : ∀ n r, RT x T T' (g n r) (g' n r)) : RT x T T' (tred ans ac g) (tred ans ac g') := by
  unfold tred
  cases ans with
  | nil => rfl
  | cons n r => exact h n r
theorem rt_ite {c : Prop} [Decidable c] {a b a' b' : TR} (h : RT x T T' a a') (k : RT x T T' b b') : RT x T T' (if c then a else b) (if c then a' else b') := by
  by_cases d : c
  · rw [if_pos d, if_pos d]; exact h
  · rw [if_neg d, if_neg d]; exact k
theorem tstep_rt (hx : isOp x.Op = true) (ha : (sh x.Op).a = true → T'.g x.A = T.g x.A) (hb : (sh x.Op).b = true → T'.g x.B = T.g x.B) : RT x T T' (tstep x T ans ac) (tstep x T' ans ac) := by
  rcases isOp_c hx with c | c | c | c | c | c | c | c | c | c | c | c | c | c | c | c | c | c
  all_goals
    rw [c] at ha hb
    try rw [show (sh _).a = true from rfl] at ha
    simp only [tstep, c, Int.reduceEq, ↓reduceIte]
    try rw [ha rfl]
    try rw [hb rfl]
    repeat' with_reducible first
      | exact rt_fin
      | exact rt_set (mks_tt (by omega))
      | exact rt_same (mks_ff (by omega))
      | refine rt_red fun n r => ?_
      | refine rt_ite ?_ ?_
end
def IC (t0 : Tr) (mk : List Int) (T : Arr Int 400) : Prop := ∀ y ∈ t0.ps, y.Op = 1 → y.D ∈ mk → T.g y.D = y.K
theorem ic_next {t0 : Tr} {mk : List Int} {T T1 : Arr Int 400} {x : api_Ins} {l : List api_Loc} (hu : UQ t0) (hx : x ∈ t0.ps) (hp : PQ x l) (hps : ∀ y ∈ t0.ps, PQ y l) (hd : mks x = true → x.D ∉ mk) (h : IC t0 mk T)
    (e : (mks x = false ∧ T1 = T) ∨ (mks x = true ∧ ∃ v, T1 = T.s x.D v ∧ (x.Op = 1 → v = x.K))) : IC t0 (mkd x mk) T1 := by
  intro y hy h1 hm
  have hmy : mks y = true := mks_tt (.inl h1)
  have hyD := (hps y hy).d.1 (by rw [← mks_sh]; exact hmy)
  rcases e with ⟨e1, rfl⟩ | ⟨e1, v, rfl, e2⟩
  · unfold mkd at hm; rw [e1] at hm; exact h y hy h1 (by simpa using hm)
  · have hxD := hp.d.1 (by rw [← mks_sh]; exact e1)
    unfold mkd at hm
    rw [if_pos e1] at hm
    rw [ar_gs hxD hyD]
    by_cases c : y.D = x.D
    · have := hu y hy x hx hmy e1 c
      subst this
      rw [if_pos rfl]; exact e2 h1
    · rw [if_neg c]
      rcases List.mem_cons.1 hm with hm | hm
      · exact absurd hm c
      · exact h y hy h1 hm
theorem trim_run {us kn : Kn} {l : List api_Loc} {O : List Int} {t0 : Tr} (hO : ∀ x ∈ t0.ps, idl us kn x = true → x.D ∉ O) (hK : ∀ x ∈ t0.ps, idl us kn x = true → x.Op = 5 → ∃ y ∈ t0.ps, y.Op = 1 ∧ y.D = x.B ∧ y.K ≠ 0) (hu : UQ t0) (hps : ∀ y ∈ t0.ps, PQ y l) :
    ∀ (t : Tr) (mk : List Int) (T T' : Arr Int 400) (ans : List Int) (acts : List api_Act), (∀ x ∈ t.ps, x ∈ t0.ps) → (∀ a ∈ ocT t, a ∈ O) → WT l mk t → DJ mk t → (∀ a ∈ O, 0 ≤ a ∧ a < 400 → T'.g a = T.g a) → IC t0 mk T →
    trun (trim us kn t).1 T' ans acts = trun t T ans acts
  | .nil, mk, T, T', ans, acts, _, _, _, _, _, _ => rfl
  | .node x nx sd, mk, T, T', ans, acts, hs, ho, hW, hD, hT, hI => by
    obtain ⟨w1, w2, w3, w4, w5⟩ := hW
    obtain ⟨d1, d2, d3⟩ := dj_next hD
    simp only [ocT, List.mem_append] at ho
    simp only [Tr.ps, List.mem_cons, List.mem_append] at hs
    have hx := hs x (.inl rfl)
    simp only [trim]
    by_cases c : idl us kn x = true
    · rw [if_pos c]
      obtain ⟨c1, c2, c3⟩ := idl_c c
      have hm : mks x = true := mks_tt (by omega)
      have hxD := w1.d.1 (by rw [← mks_sh]; exact hm)
      have hDO := hO x hx c
      have key : ∃ v, tstep x T ans acts = .nxt false (T.s x.D v) ans acts ∧ (x.Op = 1 → v = x.K) := by
        rcases c1 with d | d | d | d | d
        · exact ⟨x.K, by simp [tstep, d], fun _ => rfl⟩
        · exact ⟨wr .i64 (T.g x.A + T.g x.B), by simp only [tstep, d, Int.reduceEq, ↓reduceIte], fun e => (by omega)⟩
        · exact ⟨wr .i64 (T.g x.A - T.g x.B), by simp only [tstep, d, Int.reduceEq, ↓reduceIte], fun e => (by omega)⟩
        · exact ⟨wr .i64 (T.g x.A * T.g x.B), by simp only [tstep, d, Int.reduceEq, ↓reduceIte], fun e => (by omega)⟩
        · obtain ⟨y, hy, y1, y2, y3⟩ := hK x hx c d
          have hB : x.B ∈ mk := w3 (by rw [d]; rfl)
          have hz := hI y hy y1 (by rw [y2]; exact hB)
          rw [y2] at hz
          exact ⟨wr .i64 (Int.tdiv (T.g x.A) (T.g x.B)), by simp only [tstep, d, Int.reduceEq, ↓reduceIte]; rw [if_neg (by rw [hz]; exact y3)], fun e => (by omega)⟩
      obtain ⟨v, e1, e2⟩ := key
      simp only [trun, e1]
      exact trim_run hO hK hu hps nx _ (T.s x.D v) T' ans acts (fun y hy => hs y (.inr (.inl hy))) (fun a ha => ho a (.inr (.inl ha))) w4 d1 (fun a ha hr => by
        have hne : a ≠ x.D := fun e => hDO (e ▸ ha)
        rw [ar_gs hxD hr, if_neg hne]; exact hT a ha hr) (ic_next hu hx w1 hps d3 hI (.inr ⟨hm, v, rfl, e2⟩))
    · rw [if_neg c]
      simp only [trun]
      have ha : (sh x.Op).a = true → T'.g x.A = T.g x.A := fun h => hT _ (ho _ (.inl (by unfold ust; rw [if_pos h]; simp))) (w1.a.1 h)
      have hb : (sh x.Op).b = true → T'.g x.B = T.g x.B := fun h => hT _ (ho _ (.inl (by unfold ust; rw [if_pos h]; simp))) (w1.b.1 h)
      have hrt := tstep_rt (T := T) (T' := T') (ans := ans) (ac := acts) w1.op ha hb
      have hef := tstep_ef w1.op T ans acts
      generalize tstep x T ans acts = z at hrt hef
      cases z with
      | fin st ac => rw [show tstep x T' ans acts = .fin st ac from hrt]
      | nxt j T1 an ac =>
        obtain ⟨T1', e, hc⟩ := hrt
        rw [e]
        have hT1 : ∀ a ∈ O, 0 ≤ a ∧ a < 400 → T1'.g a = T1.g a := by
          intro q hq hr
          rcases hc with ⟨_, rfl, rfl⟩ | ⟨hm, v, rfl, rfl⟩
          · exact hT q hq hr
          · have hxD := w1.d.1 (by rw [← mks_sh]; exact hm)
            rw [ar_gs hxD hr, ar_gs hxD hr, hT q hq hr]
        have hI1 : IC t0 (mkd x mk) T1 := ic_next hu hx w1 hps d3 hI (by
          rcases hc with ⟨hm, rfl, rfl⟩ | ⟨hm, v, rfl, rfl⟩
          · exact .inl ⟨hm, rfl⟩
          · refine .inr ⟨hm, (T.s x.D v).g x.D, ?_, fun h1 => ?_⟩
            · have hxD := w1.d.1 (by rw [← mks_sh]; exact hm)
              rw [ar_gs hxD hxD, if_pos rfl]
            · have hxD := w1.d.1 (by rw [← mks_sh]; exact hm)
              rw [hef.2.2.1 h1, ar_gs hxD hxD, if_pos rfl])
        cases j with
        | true => exact trim_run hO hK hu hps sd _ T1 T1' an ac (fun y hy => hs y (.inr (.inr hy))) (fun a ha => ho a (.inr (.inr ha))) w5 d2 hT1 hI1
        | false => exact trim_run hO hK hu hps nx _ T1 T1' an ac (fun y hy => hs y (.inr (.inl hy))) (fun a ha => ho a (.inr (.inl ha))) w4 d1 hT1 hI1
def cons (t0 : Tr) (a : Int) : Prop := ∃ y ∈ t0.ps, y.Op = 1 ∧ y.D = a
def GN (t0 : Tr) (x : api_Ins) : Prop := ((x.Op = 2 ∨ x.Op = 3 ∨ x.Op = 4) → ¬ (cons t0 x.A ∧ cons t0 x.B)) ∧ (x.Op = 5 → cons t0 x.A → ∀ y ∈ t0.ps, y.Op = 1 → y.D = x.B → y.K = 0) ∧ ((x.Op = 16 ∨ x.Op = 17) → x.A ≠ x.B ∧ ¬ (cons t0 x.A ∧ cons t0 x.B))
theorem GN.sub {t0 t1 : Tr} {x : api_Ins} (h : ∀ y ∈ t1.ps, y ∈ t0.ps) (k : GN t0 x) : GN t1 x := by
  have hc : ∀ a, cons t1 a → cons t0 a := fun a ⟨y, h1, h2⟩ => ⟨y, h y h1, h2⟩
  exact ⟨fun c hh => k.1 c ⟨hc _ hh.1, hc _ hh.2⟩, fun c ha y hy => k.2.1 c (hc _ ha) y (h y hy), fun c => ⟨(k.2.2 c).1, fun hh => (k.2.2 c).2 ⟨hc _ hh.1, hc _ hh.2⟩⟩⟩
def IK (t0 : Tr) (mk : List Int) (kn : Kn) : Prop := ∀ y ∈ t0.ps, y.Op = 1 → y.D ∈ mk → aget kn y.D = some y.K
theorem nr_glob {l : List api_Loc} {t0 : Tr} (hu : UQ t0) : ∀ (t : Tr) (mk : List Int) (kn : Kn), (∀ x ∈ t.ps, x ∈ t0.ps) → WT l mk t → DJ mk t → NR kn t → IK t0 mk kn → ∀ x ∈ t.ps, GN t0 x
  | .nil, mk, kn, _, _, _, _, _, x, hx => by simp [Tr.ps] at hx
  | .node y nx sd, mk, kn, hs, hW, hD, hN, hI, x, hx => by
    obtain ⟨w1, w2, w3, w4, w5⟩ := hW
    obtain ⟨d1, d2, d3⟩ := dj_next hD
    obtain ⟨n1, n2, n3⟩ := hN
    simp only [Tr.ps, List.mem_cons, List.mem_append] at hs hx
    have hy := hs y (.inl rfl)
    have hI' : IK t0 (mkd y mk) (kn1 y kn) := by
      intro z hz h1 hm
      have hmz : mks z = true := mks_tt (.inl h1)
      unfold mkd at hm
      unfold kn1
      by_cases hmy : mks y = true
      · rw [if_pos hmy] at hm
        by_cases e : z.D = y.D
        · have := hu z hz y hy hmz hmy e
          subst this
          rw [if_pos h1, aget_aset, if_pos rfl]
        · have hm : z.D ∈ mk := (List.mem_cons.1 hm).resolve_left e
          have := hI z hz h1 hm
          split
          · rw [aget_aset, if_neg e]; exact this
          · exact this
      · rw [if_neg hmy] at hm
        rw [if_neg (fun c => hmy (mks_tt (.inl c)))]
        exact hI z hz h1 hm
    rcases hx with rfl | hx | hx
    · have hcA : (sh x.Op).a = true → cons t0 x.A → ∃ z ∈ t0.ps, z.Op = 1 ∧ z.D = x.A ∧ aget kn x.A = some z.K := fun h ⟨z, z1, z2, z3⟩ => ⟨z, z1, z2, z3, by rw [← z3]; exact hI z z1 z2 (by rw [z3]; exact w2 h)⟩
      have hcB : (sh x.Op).b = true → ∀ z ∈ t0.ps, z.Op = 1 → z.D = x.B → aget kn x.B = some z.K := fun h z z1 z2 z3 => by rw [← z3]; exact hI z z1 z2 (by rw [z3]; exact w3 h)
      have hbo : (sh x.Op).a = true → (sh x.Op).b = true → cons t0 x.A → cons t0 x.B → both x kn := fun h1 h2 k1 ⟨z, z1, z2, z3⟩ => by
        obtain ⟨y, _, _, _, e⟩ := hcA h1 k1
        exact ⟨by rw [e]; rfl, by rw [hcB h2 z z1 z2 z3]; rfl⟩
      refine ⟨fun c hh => ?_, fun c hA z z1 z2 z3 => ?_, fun c => ⟨(n1.2.2 c).1, fun hh => ?_⟩⟩
      · have hab : (sh x.Op).a = true ∧ (sh x.Op).b = true := by rcases c with c | c | c <;> rw [c] <;> exact ⟨rfl, rfl⟩
        exact n1.1 c (hbo hab.1 hab.2 hh.1 hh.2)
      · have hab : (sh x.Op).a = true ∧ (sh x.Op).b = true := by rw [c]; exact ⟨rfl, rfl⟩
        have := n1.2.1 c (hbo hab.1 hab.2 hA ⟨z, z1, z2, z3⟩)
        unfold vb at this
        rw [hcB hab.2 z z1 z2 z3] at this
        exact this
      · have hab : (sh x.Op).a = true ∧ (sh x.Op).b = true := by rcases c with c | c <;> rw [c] <;> exact ⟨rfl, rfl⟩
        exact (n1.2.2 c).2 (hbo hab.1 hab.2 hh.1 hh.2)
    · exact nr_glob hu nx _ _ (fun z hz => hs z (.inr (.inl hz))) w4 d1 n2 hI' x hx
    · exact nr_glob hu sd _ _ (fun z hz => hs z (.inr (.inr hz))) w5 d2 n3 hI' x hx

def layT : Nat → Tr → List api_Ins
  | _, .nil => []
  | o, .node x nx sd => tgt x (o + 1 + nx.size) sd :: (layT (o + 1) nx ++ layT (o + 1 + nx.size) sd)
theorem layT_len : ∀ (t : Tr) (o : Nat), (layT o t).length = t.size
  | .nil, o => rfl
  | .node x nx sd, o => by simp only [layT, List.length_cons, List.length_append, layT_len, Tr.size]
theorem gi_get {α : Type} [Inhabited α] {l : List α} {i : Nat} {x : α} (h : l[i]? = some x) : gi l (i : Int) = x := by
  unfold gi
  rw [List.getD_eq_getElem?_getD, Int.toNat_natCast, h]; rfl
theorem lay_at : ∀ (t : Tr) (o : Nat) (pre post : List api_Ins), pre.length = o → LayAt (pre ++ (layT o t ++ post)) o t
  | .nil, o, pre, post, h => trivial
  | .node x nx sd, o, pre, post, h => by
    simp only [layT]
    refine ⟨by simp; omega, ?_, ?_, ?_⟩
    · refine gi_get ?_
      rw [List.getElem?_append_right (by omega), h, Nat.sub_self]; rfl
    · have := lay_at nx (o + 1) (pre ++ [tgt x (o + 1 + nx.size) sd]) (layT (o + 1 + nx.size) sd ++ post) (by simp; omega)
      simpa [List.append_assoc] using this
    · have := lay_at sd (o + 1 + nx.size) (pre ++ (tgt x (o + 1 + nx.size) sd :: layT (o + 1) nx)) post (by simp [layT_len]; omega)
      simpa [List.append_assoc] using this
section
variable {C : List api_Ins} {l : List api_Loc}
theorem lay_ind {P : Nat → Prop} : ∀ (t : Tr) (o : Nat) (mk : List Int), LayAt C o t → WT l mk t → Full t →
    (∀ (i : Nat) (x : api_Ins) (nx sd : Tr) (mk' : List Int), LayAt C i (.node x nx sd) → o ≤ i → i + (Tr.node x nx sd).size ≤ o + t.size → WT l mk' (.node x nx sd) → Full (.node x nx sd) → P i) → ∀ i, o ≤ i → i < o + t.size → P i
  | .nil, o, mk, _, _, _, _, i, h1, h2 => by simp [Tr.size] at h2; omega
  | .node x nx sd, o, mk, hL, hW, hF, k, i, h1, h2 => by
    have hk := k o x nx sd mk hL (Nat.le_refl _) (Nat.le_refl _) hW hF
    obtain ⟨ho, e, l1, l2⟩ := hL
    obtain ⟨w1, w2, w3, w4, w5⟩ := hW
    obtain ⟨f1, f2, f3, f4⟩ := hF
    simp only [Tr.size] at h2
    rcases Nat.lt_or_ge o i with c | c
    · rcases Nat.lt_or_ge i (o + 1 + nx.size) with d | d
      · refine lay_ind nx (o + 1) _ l1 w4 f3 (fun i' x' n' s' mk' a1 a2 a3 a4 a5 => k i' x' n' s' mk' a1 (by omega) ?_ a4 a5) i (by omega) (by omega)
        simp only [Tr.size] at a3 ⊢; omega
      · refine lay_ind sd (o + 1 + nx.size) _ l2 w5 f4 (fun i' x' n' s' mk' a1 a2 a3 a4 a5 => k i' x' n' s' mk' a1 (by omega) ?_ a4 a5) i (by omega) (by omega)
        simp only [Tr.size] at a3 ⊢; omega
    · rw [show i = o by omega]; exact hk
theorem lay_last : ∀ (t : Tr) (o : Nat), LayAt C o t → Full t → t ≠ .nil → (gi C ((o + t.size - 1 : Nat) : Int)).Op = 18
  | .nil, o, _, _, h => absurd rfl h
  | .node x nx sd, o, hL, hF, _ => by
    obtain ⟨ho, e, l1, l2⟩ := hL
    obtain ⟨f1, f2, f3, f4⟩ := hF
    simp only [Tr.size]
    by_cases c : sd = .nil
    · by_cases d : nx = .nil
      · rw [c, d, show o + (Tr.nil.size + Tr.nil.size + 1) - 1 = o by simp [Tr.size], e, (tgt_op x _ sd).1]; exact f1.2 d
      · have := lay_last nx (o + 1) l1 f3 d
        have hp := Tr.size_pos d
        rw [c, show o + (nx.size + Tr.nil.size + 1) - 1 = o + 1 + nx.size - 1 by simp [Tr.size]]; exact this
    · have := lay_last sd (o + 1 + nx.size) l2 f4 c
      rw [show o + (nx.size + sd.size + 1) - 1 = o + 1 + nx.size + sd.size - 1 by omega]; exact this
theorem lay_pp {t : Tr} {mk : List Int} (hL : LayAt C 0 t) (hW : WT l mk t) (hF : Full t) (hn : C.length = t.size) (i : Nat) (hi : i < C.length) : PP (gi C i) i C.length l := by
  refine lay_ind (P := fun i => PP (gi C i) i C.length l) t 0 mk hL hW hF ?_ i (Nat.zero_le _) (by omega)
  intro i x nx sd mk' a1 a2 a3 a4 a5
  obtain ⟨ho, e, l1, l2⟩ := a1
  obtain ⟨w1, w2, w3, w4, w5⟩ := a4
  obtain ⟨f1, f2, f3, f4⟩ := a5
  obtain ⟨t1, t2, t3, t4, t5, t6, t7⟩ := tgt_op x (i + 1 + nx.size) sd
  simp only [Tr.size] at a3
  rw [e]
  refine ⟨by rw [t1]; exact w1.op, by rw [t1, t2]; exact w1.d, by rw [t1, t3]; exact w1.a, by rw [t1, t4]; exact w1.b, by rw [t1, t5]; exact w1.k, ?_, ?_, ?_⟩
  · have := w1.pl
    unfold PlP wid at this ⊢
    rw [t1, t6, t7]; exact this
  · rw [t1]
    intro hj
    have hj : isJ x = true := hj
    have hs := f2.1 hj
    have h18 : nx ≠ .nil := fun c => by have := isJ_18 (f1.2 c); rw [hj] at this; cases this
    have p1 := Tr.size_pos hs
    have p2 := Tr.size_pos h18
    rw [tgt_nn hs]
    exact ⟨by show (i : Int) + 1 < ((i + 1 + nx.size : Nat) : Int); omega, by show ((i + 1 + nx.size : Nat) : Int) < _; omega⟩
  · rw [t1]
    intro hj
    have hj : isJ x = false := hj
    have hs : sd = .nil := Classical.byContradiction fun c => by have := f2.2 c; rw [hj] at this; cases this
    rw [hs]; exact w1.to0 hj
theorem lay_mk : ∀ (t : Tr) (o i : Nat), LayAt C o t → o ≤ i → i < o + t.size → mks (gi C i) = true → (gi C i).D ∈ mkT t
  | .nil, o, i, _, h1, h2, _ => by simp [Tr.size] at h2; omega
  | .node x nx sd, o, i, hL, h1, h2, hm => by
    obtain ⟨ho, e, l1, l2⟩ := hL
    simp only [Tr.size] at h2
    simp only [mkT, List.mem_append]
    rcases Nat.lt_or_ge o i with c | c
    · rcases Nat.lt_or_ge i (o + 1 + nx.size) with d | d
      · exact .inr (.inl (lay_mk nx (o + 1) i l1 (by omega) (by omega) hm))
      · exact .inr (.inr (lay_mk sd (o + 1 + nx.size) i l2 (by omega) (by omega) hm))
    · have : i = o := by omega
      subst this
      rw [e] at hm ⊢
      have hm : mks x = true := by unfold mks at hm ⊢; rw [(tgt_op x _ sd).1] at hm; exact hm
      rw [(tgt_op x _ sd).2.1]
      exact .inl (by simp [mk1, hm])
theorem lay_dist : ∀ (t : Tr) (o i j : Nat), LayAt C o t → (mkT t).Nodup → o ≤ i → i < j → j < o + t.size → mks (gi C i) = true → mks (gi C j) = true → (gi C i).D ≠ (gi C j).D
  | .nil, o, i, j, _, _, h1, h2, h3, _, _ => by simp [Tr.size] at h3; omega
  | .node x nx sd, o, i, j, hL, hn, h1, h2, h3, hi, hj => by
    obtain ⟨ho, e, l1, l2⟩ := hL
    simp only [Tr.size] at h3
    simp only [mkT] at hn
    rw [List.nodup_append] at hn
    obtain ⟨n1, n2, n3⟩ := hn
    have n2' := n2
    rw [List.nodup_append] at n2'
    obtain ⟨n4, n5, n6⟩ := n2'
    have hjm : (gi C j).D ∈ mkT nx ++ mkT sd := by
      rw [List.mem_append]
      rcases Nat.lt_or_ge j (o + 1 + nx.size) with d | d
      · exact .inl (lay_mk nx (o + 1) j l1 (by omega) (by omega) hj)
      · exact .inr (lay_mk sd (o + 1 + nx.size) j l2 (by omega) (by omega) hj)
    rcases Nat.lt_or_ge o i with c | c
    · rcases Nat.lt_or_ge j (o + 1 + nx.size) with d | d
      · exact lay_dist nx (o + 1) i j l1 n4 (by omega) h2 (by omega) hi hj
      · rcases Nat.lt_or_ge i (o + 1 + nx.size) with d2 | d2
        · exact n6 _ (lay_mk nx (o + 1) i l1 (by omega) (by omega) hi) _ (lay_mk sd (o + 1 + nx.size) j l2 (by omega) (by omega) hj)
        · exact lay_dist sd (o + 1 + nx.size) i j l2 n5 (by omega) h2 (by omega) hi hj
    · have : i = o := by omega
      subst this
      rw [e] at hi ⊢
      have hm : mks x = true := by unfold mks at hi ⊢; rw [(tgt_op x _ sd).1] at hi; exact hi
      rw [(tgt_op x _ sd).2.1]
      exact n3 x.D (by simp [mk1, hm]) _ hjm
theorem isP_iff {k j : Nat} : isP C k j = true ↔ (k + 1 = j ∧ (gi C k).Op ≠ 18) ∨ (isJ (gi C k) = true ∧ (gi C k).To = (j : Int)) := by
  unfold isP isJ
  rw [Bool.or_eq_true, decide_eq_true_eq, Bool.and_eq_true, decide_eq_true_eq]
theorem root_e {x : api_Ins} {nx sd : Tr} {o j : Nat} (e : gi C o = tgt x (o + 1 + nx.size) sd) (hF : Full (.node x nx sd)) : isP C o j = true ↔ (j = o + 1 ∧ nx ≠ .nil) ∨ (j = o + 1 + nx.size ∧ sd ≠ .nil) := by
  obtain ⟨f1, f2, f3, f4⟩ := hF
  rw [isP_iff, e, (tgt_op x _ sd).1]
  have hJ : isJ (tgt x (o + 1 + nx.size) sd) = isJ x := by unfold isJ; rw [(tgt_op x _ sd).1]
  rw [hJ]
  constructor
  · rintro (⟨a, b⟩ | ⟨a, b⟩)
    · exact .inl ⟨a.symm, fun c => b (f1.2 c)⟩
    · have hs := f2.1 a
      rw [tgt_nn hs] at b
      exact .inr ⟨by have b : ((o + 1 + nx.size : Nat) : Int) = (j : Int) := b; omega, hs⟩
  · rintro (⟨a, b⟩ | ⟨a, b⟩)
    · exact .inl ⟨a.symm, fun c => b (f1.1 c)⟩
    · rw [tgt_nn b]
      exact .inr ⟨f2.2 b, by show ((o + 1 + nx.size : Nat) : Int) = (j : Int); omega⟩
theorem lay_in : ∀ (t : Tr) (o k j : Nat), LayAt C o t → Full t → o ≤ k → k < o + t.size → isP C k j = true → o < j ∧ j < o + t.size
  | .nil, o, k, j, _, _, h1, h2, _ => by simp [Tr.size] at h2; omega
  | .node x nx sd, o, k, j, hL, hF, h1, h2, hp => by
    obtain ⟨ho, e, l1, l2⟩ := hL
    have hF' := hF
    obtain ⟨f1, f2, f3, f4⟩ := hF
    simp only [Tr.size] at h2 ⊢
    rcases Nat.lt_or_ge o k with c | c
    · rcases Nat.lt_or_ge k (o + 1 + nx.size) with d | d
      · have := lay_in nx (o + 1) k j l1 f3 (by omega) (by omega) hp; omega
      · have := lay_in sd (o + 1 + nx.size) k j l2 f4 (by omega) (by omega) hp; omega
    · have : k = o := by omega
      subst this
      rcases (root_e e hF').1 hp with ⟨a, b⟩ | ⟨a, b⟩
      · have := Tr.size_pos b; omega
      · have := Tr.size_pos b; omega
theorem lay_one : ∀ (t : Tr) (o j : Nat), LayAt C o t → Full t → o < j → j < o + t.size → ∃ k, o ≤ k ∧ k < o + t.size ∧ isP C k j = true ∧ ∀ k', o ≤ k' → k' < o + t.size → isP C k' j = true → k' = k
  | .nil, o, j, _, _, h1, h2 => by simp [Tr.size] at h2; omega
  | .node x nx sd, o, j, hL, hF, h1, h2 => by
    obtain ⟨ho, e, l1, l2⟩ := hL
    have hF' := hF
    obtain ⟨f1, f2, f3, f4⟩ := hF
    simp only [Tr.size] at h2 ⊢
    have inN : ∀ k', o < k' → k' < o + 1 + nx.size → isP C k' j = true → o + 1 < j ∧ j < o + 1 + nx.size := fun k' a b c => lay_in nx (o + 1) k' j l1 f3 (by omega) b c
    have inS : ∀ k', o + 1 + nx.size ≤ k' → k' < o + (nx.size + sd.size + 1) → isP C k' j = true → o + 1 + nx.size < j := fun k' a b c => (lay_in sd (o + 1 + nx.size) k' j l2 f4 a (by omega) c).1
    rcases Nat.lt_or_ge j (o + 1 + nx.size) with d | d
    · rcases Nat.lt_or_ge (o + 1) j with d2 | d2
      · obtain ⟨k, k1, k2, k3, k4⟩ := lay_one nx (o + 1) j l1 f3 d2 (by omega)
        refine ⟨k, by omega, by omega, k3, fun k' a b c => ?_⟩
        rcases Nat.lt_or_ge o k' with q | q
        · rcases Nat.lt_or_ge k' (o + 1 + nx.size) with q2 | q2
          · exact k4 k' (by omega) (by omega) c
          · have := inS k' q2 b c; omega
        · rw [show k' = o by omega] at c
          rcases (root_e e hF').1 c with ⟨a, _⟩ | ⟨a, _⟩ <;> omega
      · have hj : j = o + 1 := by omega
        have hnx : nx ≠ .nil := fun c => by rw [c] at d; simp [Tr.size] at d; omega
        refine ⟨o, Nat.le_refl _, by omega, (root_e e hF').2 (.inl ⟨hj, hnx⟩), fun k' a b c => ?_⟩
        rcases Nat.lt_or_ge o k' with q | q
        · rcases Nat.lt_or_ge k' (o + 1 + nx.size) with q2 | q2
          · have := inN k' q q2 c; omega
          · have := inS k' q2 b c; omega
        · omega
    · rcases Nat.lt_or_ge (o + 1 + nx.size) j with d2 | d2
      · obtain ⟨k, k1, k2, k3, k4⟩ := lay_one sd (o + 1 + nx.size) j l2 f4 d2 (by omega)
        refine ⟨k, by omega, by omega, k3, fun k' a b c => ?_⟩
        rcases Nat.lt_or_ge o k' with q | q
        · rcases Nat.lt_or_ge k' (o + 1 + nx.size) with q2 | q2
          · have := inN k' q q2 c; omega
          · exact k4 k' q2 (by omega) c
        · rw [show k' = o by omega] at c
          rcases (root_e e hF').1 c with ⟨a, _⟩ | ⟨a, _⟩ <;> omega
      · have hj : j = o + 1 + nx.size := by omega
        have hsd : sd ≠ .nil := fun c => by rw [c] at h2; simp [Tr.size] at h2; omega
        refine ⟨o, Nat.le_refl _, by omega, (root_e e hF').2 (.inr ⟨hj, hsd⟩), fun k' a b c => ?_⟩
        rcases Nat.lt_or_ge o k' with q | q
        · rcases Nat.lt_or_ge k' (o + 1 + nx.size) with q2 | q2
          · have := inN k' q q2 c; omega
          · have := inS k' q2 b c; omega
        · omega
theorem filter_one {p : Nat → Bool} {k : Nat} : ∀ {n : Nat}, k < n → p k = true → (∀ i, i < n → p i = true → i = k) → (List.range n).filter p = [k]
  | 0, h, _, _ => by omega
  | n + 1, h, hp, hu => by
    rw [List.range_succ, List.filter_append]
    rcases Nat.lt_or_ge k n with c | c
    · rw [filter_one c hp (fun i hi h => hu i (by omega) h)]
      have : p n = false := by
        cases e : p n
        · rfl
        · have := hu n (by omega) e; omega
      rw [List.filter_cons_of_neg (by rw [this]; decide)]; rfl
    · have hk : k = n := by omega
      subst hk
      have : (List.range k).filter p = [] := by
        rw [List.filter_eq_nil_iff]
        intro i hi hpi
        have hi := List.mem_range.1 hi
        have := hu i (by omega) hpi; omega
      rw [this, List.filter_cons_of_pos hp]; rfl
theorem lay_preds {t : Tr} (hL : LayAt C 0 t) (hF : Full t) (hn : C.length = t.size) {k j : Nat} (hk : k < C.length) (hp : isP C k j = true) (hpp : ∀ i, i < C.length → isJ (gi C i) = true → (i : Int) + 1 < (gi C i).To) : preds C j = [k] := by
  obtain ⟨a, b⟩ := lay_in t 0 k j hL hF (Nat.zero_le _) (by omega) hp
  obtain ⟨k0, k1, k2, k3, k4⟩ := lay_one t 0 j hL hF a b
  have hlt : k < j := by
    rcases isP_iff.1 hp with ⟨h, _⟩ | ⟨h, h2⟩
    · omega
    · have := hpp k hk h; omega
  refine filter_one hlt hp fun i hi h => ?_
  rw [k4 i (Nat.zero_le _) (by omega) h, k4 k (Nat.zero_le _) (by omega) hp]
theorem lay_ua {T : Tr} (hL0 : LayAt C 0 T) (hF0 : Full T) (hn : C.length = T.size) (hpp : ∀ i, i < C.length → isJ (gi C i) = true → (i : Int) + 1 < (gi C i).To) : ∀ (t : Tr) (o : Nat) (mk : List Int), LayAt C o t → WT l mk t → Full t → o + t.size ≤ C.length → (∀ a ∈ mk, UA C o a) →
    ∀ i, o ≤ i → i < o + t.size → ((sh (gi C i).Op).a = true → UA C i (gi C i).A) ∧ ((sh (gi C i).Op).b = true → UA C i (gi C i).B)
  | .nil, o, mk, _, _, _, _, _, i, h1, h2 => by simp [Tr.size] at h2; omega
  | .node x nx sd, o, mk, hL, hW, hF, hs, hu, i, h1, h2 => by
    obtain ⟨ho, e, l1, l2⟩ := hL
    have hF' := hF
    obtain ⟨f1, f2, f3, f4⟩ := hF
    obtain ⟨w1, w2, w3, w4, w5⟩ := hW
    simp only [Tr.size] at h2 hs
    have hch : ∀ c, isP C o c = true → ∀ a ∈ mkd x mk, UA C c a := by
      intro c hc a ha
      rw [UA.iff (lay_preds hL0 hF0 hn ho hc hpp), e, (tgt_op x _ sd).2.1]
      have hm : mks (tgt x (o + 1 + nx.size) sd) = mks x := by unfold mks; rw [(tgt_op x _ sd).1]
      rw [hm]
      unfold mkd at ha
      split at ha
      · rename_i h
        rcases List.mem_cons.1 ha with ha | ha
        · exact .inl ⟨h, ha.symm⟩
        · exact .inr (hu a ha)
      · exact .inr (hu a ha)
    rcases Nat.lt_or_ge o i with c | c
    · rcases Nat.lt_or_ge i (o + 1 + nx.size) with d | d
      · have hnx : nx ≠ .nil := fun q => by rw [q] at d; simp [Tr.size] at d; omega
        exact lay_ua hL0 hF0 hn hpp nx (o + 1) _ l1 w4 f3 (by omega) (hch _ ((root_e e hF').2 (.inl ⟨rfl, hnx⟩))) i (by omega) (by omega)
      · have hsd : sd ≠ .nil := fun q => by rw [q] at h2; simp [Tr.size] at h2; omega
        exact lay_ua hL0 hF0 hn hpp sd (o + 1 + nx.size) _ l2 w5 f4 (by omega) (hch _ ((root_e e hF').2 (.inr ⟨rfl, hsd⟩))) i (by omega) (by omega)
    · have : i = o := by omega
      subst this
      rw [e, (tgt_op x _ sd).1, (tgt_op x _ sd).2.2.1, (tgt_op x _ sd).2.2.2.1]
      exact ⟨fun h => hu _ (w2 h), fun h => hu _ (w3 h)⟩
theorem lay_rp {t : Tr} (hW : WT l [] t) (hF : Full t) (hnd : (mkT t).Nodup) (ht : t ≠ .nil) (hs : t.size ≤ 400) : RP (layT 0 t) l ∧ LayAt (layT 0 t) 0 t ∧ (layT 0 t).length = t.size := by
  have hn := layT_len t 0
  have hL : LayAt (layT 0 t) 0 t := by simpa using lay_at t 0 [] [] rfl
  have hp := fun i hi => lay_pp hL hW hF hn i hi
  have hpos := Tr.size_pos ht
  have hpp : ∀ i, i < (layT 0 t).length → isJ (gi (layT 0 t) i) = true → (i : Int) + 1 < (gi (layT 0 t) i).To := fun i hi h => ((hp i hi).to1 h).1
  refine ⟨⟨⟨by omega, by omega⟩, ?_, fun i hi => ⟨hp i hi, fun hm j hj hmj => ?_⟩, fun i hi => ⟨fun h0 => ?_, ?_⟩⟩, hL, hn⟩
  · have := lay_last t 0 hL hF ht
    rw [hn, show ((t.size : Int) - 1) = ((0 + t.size - 1 : Nat) : Int) by omega]; exact this
  · exact lay_dist t 0 j i hL hnd (Nat.zero_le _) hj (by omega) hmj hm
  · obtain ⟨k, k1, k2, k3, k4⟩ := lay_one t 0 i hL hF h0 (by omega)
    rw [lay_preds hL hF hn (by omega) k3 hpp]; rfl
  · exact lay_ua hL hF hn hpp t 0 [] hL hW hF (by omega) (fun a ha => by simp at ha) i (Nat.zero_le _) (by omega)
end

theorem nd_len : ∀ (n : Nat) (l : List Nat), l.Nodup → (∀ x ∈ l, x < n) → l.length ≤ n
  | 0, l, _, h => by
    cases l with
    | nil => simp
    | cons a r => have := h a (by simp); omega
  | n + 1, l, hn, h => by
    by_cases c : n ∈ l
    · have h1 := nd_len n (l.erase n) (hn.erase n) (fun x hx => by
        have := (hn.mem_erase_iff).1 hx
        have := h x this.2
        omega)
      rw [List.length_erase_of_mem c] at h1
      omega
    · have := nd_len n l hn (fun x hx => by
        have := h x hx
        have : x ≠ n := fun e => c (e ▸ hx)
        omega)
      omega
theorem ctree_nn {C : List api_Ins} {n i : Nat} (h : 0 < n) : ctree C n i ≠ .nil := by
  cases n with
  | zero => omega
  | succ n =>
    unfold ctree
    split <;> exact fun h => by cases h
section
variable {C : List api_Ins} {l : List api_Loc}
theorem RP.pred (hR : RP C l) {i j : Nat} (hj : j < C.length) (h : isP C i j = true) (hij : i < j) : preds C j = [i] := by
  have h1 := (hR.w j hj).1 (by omega)
  have h2 : i ∈ preds C j := List.mem_filter.2 ⟨List.mem_range.2 hij, h⟩
  generalize preds C j = p at h1 h2
  match p, h1, h2 with
  | [a], _, h2 => rw [List.mem_singleton.1 h2]
theorem RP.pred_n (hR : RP C l) {i : Nat} (hi : i < C.length) (h : (gi C i).Op ≠ 18) : preds C (i + 1) = [i] := hR.pred (hR.nxt hi h) (isP_iff.2 (.inl ⟨rfl, h⟩)) (by omega)
theorem RP.pred_t (hR : RP C l) {i : Nat} (hi : i < C.length) (h : isJ (gi C i) = true) : preds C (gi C i).To.toNat = [i] := by
  obtain ⟨t1, t2, t3⟩ := hR.to_ hi h
  exact hR.pred t2 (isP_iff.2 (.inr ⟨h, t3⟩)) (by omega)
theorem pq_of (hR : RP C l) {i : Nat} (hi : i < C.length) : PQ (gi C i) l := by
  have h := (hR.p i hi).1
  exact ⟨h.op, h.d, h.a, h.b, h.k, h.pl, h.to0⟩
theorem j18 {x : api_Ins} (h : isJ x = true) : x.Op ≠ 18 := fun c => by rw [isJ_18 c] at h; cases h
theorem ctree_ok (hR : RP C l) : ∀ (n i : Nat) (mk : List Int), C.length ≤ i + n → i < C.length → (∀ a, UA C i a → a ∈ mk) → WT l mk (ctree C n i) ∧ Full (ctree C n i)
  | 0, i, mk, h, hi, _ => by omega
  | n + 1, i, mk, h, hi, hu => by
    have hw := hR.w i hi
    have hq := pq_of hR hi
    have ha := fun h => hu _ (hw.2.1 h)
    have hb := fun h => hu _ (hw.2.2 h)
    have hch : ∀ j, preds C j = [i] → ∀ a, UA C j a → a ∈ mkd (gi C i) mk := by
      intro j hj a hua
      unfold mkd
      rcases (UA.iff hj a).1 hua with ⟨h1, h2⟩ | h1
      · rw [if_pos h1, ← h2]; exact List.mem_cons_self ..
      · split
        · exact List.mem_cons_of_mem _ (hu a h1)
        · exact hu a h1
    unfold ctree
    by_cases c : (gi C i).Op = 18
    · rw [if_pos c]
      exact ⟨⟨hq, ha, hb, trivial, trivial⟩, ⟨⟨fun _ => rfl, fun _ => c⟩, ⟨fun k => absurd c (j18 k), fun k => absurd rfl k⟩, trivial, trivial⟩⟩
    · rw [if_neg c]
      have hn1 := hR.nxt hi c
      obtain ⟨n1, n2⟩ := ctree_ok hR n (i + 1) (mkd (gi C i) mk) (by omega) hn1 (hch _ (hR.pred_n hi c))
      have hnn : ctree C n (i + 1) ≠ .nil := ctree_nn (by omega)
      by_cases k : isJ (gi C i) = true
      · rw [if_pos k]
        obtain ⟨t1, t2, t3⟩ := hR.to_ hi k
        obtain ⟨s1, s2⟩ := ctree_ok hR n (gi C i).To.toNat (mkd (gi C i) mk) (by omega) t2 (hch _ (hR.pred_t hi k))
        exact ⟨⟨hq, ha, hb, n1, s1⟩, ⟨⟨fun q => absurd q c, fun q => absurd q hnn⟩, ⟨fun _ => ctree_nn (by omega), fun _ => k⟩, n2, s2⟩⟩
      · rw [if_neg k]
        exact ⟨⟨hq, ha, hb, n1, trivial⟩, ⟨⟨fun q => absurd q c, fun q => absurd q hnn⟩, ⟨fun q => absurd q k, fun q => absurd rfl q⟩, n2, trivial⟩⟩
def ixs (C : List api_Ins) : Nat → Nat → List Nat
  | 0, _ => []
  | n + 1, i => if (gi C i).Op = 18 then [i] else i :: (ixs C n (i + 1) ++ (if isJ (gi C i) = true then ixs C n (gi C i).To.toNat else []))
theorem ixs_mk : ∀ (n i : Nat), mkT (ctree C n i) = (ixs C n i).flatMap fun k : Nat => mk1 (gi C k)
  | 0, i => rfl
  | n + 1, i => by
    unfold ctree ixs
    by_cases c : (gi C i).Op = 18
    · rw [if_pos c, if_pos c]; simp [mkT]
    · rw [if_neg c, if_neg c]
      by_cases k : isJ (gi C i) = true
      · rw [if_pos k, if_pos k]; simp only [mkT, List.flatMap_cons, List.flatMap_append, ixs_mk n]
      · rw [if_neg k, if_neg k]; simp only [mkT, List.flatMap_cons, List.flatMap_append, ixs_mk n, List.flatMap_nil]
theorem ixs_len : ∀ (n i : Nat), (ctree C n i).size = (ixs C n i).length
  | 0, i => rfl
  | n + 1, i => by
    unfold ctree ixs
    by_cases c : (gi C i).Op = 18
    · rw [if_pos c, if_pos c]; rfl
    · rw [if_neg c, if_neg c]
      by_cases k : isJ (gi C i) = true
      · rw [if_pos k, if_pos k]; simp only [Tr.size, List.length_cons, List.length_append, ixs_len n]
      · rw [if_neg k, if_neg k]; simp only [Tr.size, List.length_cons, List.length_append, ixs_len n, List.length_nil]
theorem Anc.snoc {i j k : Nat} (h : Anc C k j) (hp : preds C j = [i]) : Anc C k i := by
  induction h with
  | one h => exact .step h (.one hp)
  | step h r ih => exact .step h (ih hp)
theorem Anc.lin {k a b : Nat} (h : Anc C k a) : Anc C k b → a = b ∨ Anc C a b ∨ Anc C b a := by
  induction h with
  | one h =>
    intro hb
    rcases (Anc.iff h b).1 hb with e | e
    · exact .inl e
    · exact .inr (.inl e)
  | step h r ih =>
    intro hb
    rcases (Anc.iff h b).1 hb with e | e
    · subst e; exact .inr (.inr r)
    · exact ih e
theorem ixs_ok (hR : RP C l) : ∀ (n i : Nat), C.length ≤ i + n → i < C.length → (ixs C n i).Nodup ∧ (∀ k ∈ ixs C n i, k < C.length ∧ (k = i ∨ Anc C k i))
  | 0, i, h, hi => by omega
  | n + 1, i, h, hi => by
    unfold ixs
    by_cases c : (gi C i).Op = 18
    · rw [if_pos c]
      exact ⟨(by simp), fun k hk => by rw [List.mem_singleton.1 hk]; exact ⟨hi, .inl rfl⟩⟩
    · rw [if_neg c]
      have hn1 := hR.nxt hi c
      have p1 := hR.pred_n hi c
      obtain ⟨n1, n2⟩ := ixs_ok hR n (i + 1) (by omega) hn1
      have a1 : ∀ k ∈ ixs C n (i + 1), k < C.length ∧ Anc C k i := fun k hk => ⟨(n2 k hk).1, by
        rcases (n2 k hk).2 with rfl | h
        · exact .one p1
        · exact h.snoc p1⟩
      by_cases q : isJ (gi C i) = true
      · rw [if_pos q]
        obtain ⟨t1, t2, t3⟩ := hR.to_ hi q
        have p2 := hR.pred_t hi q
        obtain ⟨s1, s2⟩ := ixs_ok hR n (gi C i).To.toNat (by omega) t2
        have a2 : ∀ k ∈ ixs C n (gi C i).To.toNat, k < C.length ∧ Anc C k i := fun k hk => ⟨(s2 k hk).1, by
          rcases (s2 k hk).2 with rfl | h
          · exact .one p2
          · exact h.snoc p2⟩
        have far : ∀ a b, preds C a = [i] → Anc C a b → b ≤ i := fun a b hp hb => by
          rcases (Anc.iff hp b).1 hb with e | e
          · omega
          · have := e.lt; omega
        refine ⟨List.nodup_cons.2 ⟨fun hm => ?_, List.nodup_append.2 ⟨n1, s1, fun a ha b hb e => ?_⟩⟩, fun k hk => ?_⟩
        · rcases List.mem_append.1 hm with hm | hm
          · have := (a1 i hm).2.lt; omega
          · have := (a2 i hm).2.lt; omega
        · subst e
          rcases (n2 a ha).2 with e1 | e1 <;> rcases (s2 a hb).2 with e2 | e2
          · omega
          · rw [e1] at e2; have := far _ _ p1 e2; omega
          · rw [e2] at e1; have := far _ _ p2 e1; omega
          · rcases e1.lin e2 with e | e | e
            · omega
            · have := far _ _ p1 e; omega
            · have := far _ _ p2 e; omega
        · rcases List.mem_cons.1 hk with rfl | hk
          · exact ⟨hi, .inl rfl⟩
          · rcases List.mem_append.1 hk with hk | hk
            · exact ⟨(a1 k hk).1, .inr (a1 k hk).2⟩
            · exact ⟨(a2 k hk).1, .inr (a2 k hk).2⟩
      · rw [if_neg q, List.append_nil]
        refine ⟨List.nodup_cons.2 ⟨fun hm => ?_, n1⟩, fun k hk => ?_⟩
        · have := (a1 i hm).2.lt; omega
        · rcases List.mem_cons.1 hk with rfl | hk
          · exact ⟨hi, .inl rfl⟩
          · exact ⟨(a1 k hk).1, .inr (a1 k hk).2⟩
theorem nd_flat : ∀ (is : List Nat), is.Nodup → (∀ i ∈ is, ∀ j ∈ is, i ≠ j → mks (gi C i) = true → mks (gi C j) = true → (gi C i).D ≠ (gi C j).D) → (is.flatMap fun k : Nat => mk1 (gi C k)).Nodup
  | [], _, _ => List.nodup_nil
  | i :: r, hn, h => by
    rw [List.nodup_cons] at hn
    rw [List.flatMap_cons, List.nodup_append]
    refine ⟨?_, nd_flat r hn.2 (fun a ha b hb => h a (by simp [ha]) b (by simp [hb])), fun a ha b hb e => ?_⟩
    · unfold mk1; split
      · exact (by simp)
      · exact List.nodup_nil
    · subst e
      obtain ⟨j, hj, hm⟩ := List.mem_flatMap.1 hb
      unfold mk1 at ha hm
      split at ha
      · rename_i h1
        split at hm
        · rename_i h2
          exact h i (by simp) j (by simp [hj]) (fun e => hn.1 (e ▸ hj)) h1 h2 ((List.mem_singleton.1 ha).symm.trans (List.mem_singleton.1 hm))
        · simp at hm
      · simp at ha
theorem ctree_all (hR : RP C l) {n : Nat} (hm : C.length ≤ n) : WT l [] (ctree C n 0) ∧ Full (ctree C n 0) ∧ (mkT (ctree C n 0)).Nodup ∧ (ctree C n 0).size ≤ C.length ∧ ctree C n 0 ≠ .nil := by
  have hn := hR.n
  obtain ⟨h1, h2⟩ := ctree_ok hR n 0 [] (by omega) (by omega) (fun a h => absurd h (UA.zero C a))
  obtain ⟨h3, h4⟩ := ixs_ok hR n 0 (by omega) (by omega)
  refine ⟨h1, h2, ?_, ?_, ctree_nn (by omega)⟩
  · rw [ixs_mk]
    refine nd_flat _ h3 fun i hi j hj hne m1 m2 e => ?_
    rcases Nat.lt_or_ge i j with c | c
    · exact (hR.p j (h4 j hj).1).2 m2 i c m1 e
    · exact (hR.p i (h4 i hi).1).2 m1 j (by omega) m2 e.symm
  · rw [ixs_len]; exact nd_len _ _ h3 fun x hx => (h4 x hx).1
end

def At (ar : List fold_node) : Nat → Nat → Option Nat → Tr → Prop
  | lo, hi, o, .nil => o = none
  | lo, hi, o, .node x nx sd => ∃ i pn ps m, o = some i ∧ lo ≤ i ∧ i < m ∧ m ≤ hi ∧ ar[i]? = some ⟨x, pn, ps⟩ ∧ At ar (i + 1) m ps sd ∧ At ar m hi pn nx
theorem At.le {ar : List fold_node} {x : api_Ins} {nx sd : Tr} {lo hi : Nat} {o : Option Nat} (h : At ar lo hi o (.node x nx sd)) : lo < hi := by
  obtain ⟨i, pn, ps, m, _, h1, h2, h3, _⟩ := h; omega
theorem At.frame {ar ar' : List fold_node} : ∀ {t : Tr} {lo hi : Nat} {o : Option Nat}, At ar lo hi o t → (∀ k, lo ≤ k → k < hi → ar'[k]? = ar[k]?) → At ar' lo hi o t
  | .nil, lo, hi, o, h, _ => h
  | .node x nx sd, lo, hi, o, h, k => by
    obtain ⟨i, pn, ps, m, h0, h1, h2, h3, h4, h5, h6⟩ := h
    exact ⟨i, pn, ps, m, h0, h1, h2, h3, (k i h1 (by omega)).trans h4, h5.frame fun q a b => k q (by omega) (by omega), h6.frame fun q a b => k q (by omega) (by omega)⟩
theorem At.wide {ar : List fold_node} : ∀ {t : Tr} {lo hi lo' hi' : Nat} {o : Option Nat}, At ar lo hi o t → lo' ≤ lo → hi ≤ hi' → At ar lo' hi' o t
  | .nil, lo, hi, lo', hi', o, h, _, _ => h
  | .node x nx sd, lo, hi, lo', hi', o, h, a, b => by
    obtain ⟨i, pn, ps, m, h0, h1, h2, h3, h4, h5, h6⟩ := h
    exact ⟨i, pn, ps, m, h0, by omega, h2, by omega, h4, h5, h6.wide (Nat.le_refl _) b⟩
theorem get_app {α : Type} {l : List α} {x : α} {k : Nat} (h : k < l.length) : (l ++ [x])[k]? = l[k]? := List.getElem?_append_left h
theorem get_last {α : Type} {l : List α} {x : α} : (l ++ [x])[l.length]? = some x := by
  rw [List.getElem?_append_right (Nat.le_refl _), Nat.sub_self]; rfl
theorem get_set_ne {α : Type} {l : List α} {x : α} {i k : Nat} (h : i ≠ k) : (l.set i x)[k]? = l[k]? := List.getElem?_set_ne h
theorem get_set {α : Type} {l : List α} {x y : α} {i : Nat} (h : l[i]? = some y) : (l.set i x)[i]? = some x := List.getElem?_set_self (List.getElem?_eq_some_iff.1 h).1
section
variable {C : List api_Ins} {l : List api_Loc}
def GQ (ar : List fold_node) (t : Tr) (kn : Kn) (r : (List fold_node) × (List (Int × Int))) : Prop := r.2 = kn ∧ (∀ k, k < ar.length → r.1[k]? = ar[k]?) ∧ ar.length ≤ r.1.length ∧ At r.1 ar.length r.1.length (some ar.length) t
theorem fins_to {x : api_Ins} (hp : PQ x l) (kn : Kn) (hto : isJ x = true → x.To ≠ 0) : (fins x kn).To = 0 ↔ isJ x = false := by
  rcases fins_c x kn with e | ⟨c, K, e⟩
  · rw [e]
    constructor
    · intro h; cases hj : isJ x
      · rfl
      · exact absurd h (hto hj)
    · exact hp.to0
  · rw [e]; exact ⟨fun _ => isJ_ff hp.op (by omega), fun _ => rfl⟩
theorem grow_r (hR : RP C l) : ∀ (n i : Nat) (kn : Kn) (ar : List fold_node), C.length ≤ i + n → i < C.length → Tot (GQ ar (fold (ctree C n i) kn).1 (fold (ctree C n i) kn).2) (fold_grow.r n C (i : Int) kn ar)
  | 0, i, kn, ar, h, hi => by omega
  | n + 1, i, kn, ar, h, hi => by
    have hn := hR.n
    have hq := pq_of hR hi
    have hto : isJ (gi C i) = true → (gi C i).To ≠ 0 := fun hj => by have := hR.to_ hi hj; omega
    show Tot _ (fold_grow.b (fold_grow.r n) C (i : Int) kn ar)
    unfold fold_grow.b
    refine .gd (by omega) ?_
    have w1 : wr .i64 ((i : Int) + 1) = ((i + 1 : Nat) : Int) := by rw [wr64 (by omega)]; omega
    rw [w1]
    clear w1
    unfold ctree
    generalize hx : gi C (i : Int) = x at *
    simp only [letC]
    have hb : ((if (aget kn x.A).isSome = true then (some ((aget kn x.B).isSome : Bool)) else (some (false : Bool)) : Option Bool)) = some (decide (both x kn)) := by
      unfold both
      by_cases c : (aget kn x.A).isSome = true
      · rw [if_pos c]; by_cases d : (aget kn x.B).isSome = true <;> simp [c, d]
      · rw [if_neg c]; simp [c]
    rw [hb, Option.bind_some]
    clear hb
    by_cases c18 : x.Op = 18
    · rw [if_pos c18, if_pos c18, Option.bind_some]
      simp only [fold, if_pos c18]
      refine .some ⟨rfl, fun k hk => get_app hk, by simp, ar.length, none, none, ar.length + 1, rfl, Nat.le_refl _, by omega, by simp, get_last, rfl, rfl⟩
    · rw [if_neg c18, if_neg c18]
      have hn1 := hR.nxt hi (by rw [hx]; exact c18)
      have IHn := fun kn ar => grow_r hR n (i + 1) kn ar (by omega) hn1
      have IHt : isJ x = true → ∀ kn ar, Tot (GQ ar (fold (ctree C n x.To.toNat) kn).1 (fold (ctree C n x.To.toNat) kn).2) (fold_grow.r n C x.To kn ar) := fun hj kn ar => by
        have h3 := hR.to_ hi (by rw [hx]; exact hj)
        rw [hx] at h3
        have := grow_r hR n x.To.toNat kn ar (by omega) h3.2.1
        rw [← h3.2.2] at this; exact this
      -- what is left
      have rest : ∀ (sd : Tr), (isJ x = true → sd = ctree C n x.To.toNat) → (isJ x = false → sd = .nil) → Tot (GQ ar (Tr.node (fins x kn) (fold (ctree C n (i + 1)) (kn1 (fins x kn) kn)).1 (fold sd (kn1 (fins x kn) kn)).1) (fold (ctree C n (i + 1)) (kn1 (fins x kn) kn)).2)
          ((if (fins x kn).Op = 1 then (some (aset kn (fins x kn).D (fins x kn).K : List (Int × Int))) else (some (kn : List (Int × Int))) : Option (List (Int × Int))).bind fun o_63 => if (fins x kn).To = 0 then ((fold_grow.r n C ((i + 1 : Nat) : Int) o_63 (ar ++ [fold_node.mk (fins x kn) (none : Option Nat) (none : Option Nat)])).bind fun r_70 => (r_70.1[ar.length]?).bind fun y_72 => some (r_70.1.set ar.length (fold_node.mk y_72.x (some (ar ++ [fold_node.mk (fins x kn) (none : Option Nat) (none : Option Nat)]).length) y_72.side), r_70.2))
            else ((fold_grow.r n C (fins x kn).To o_63 (ar ++ [fold_node.mk (fins x kn) (none : Option Nat) (none : Option Nat)])).bind fun r_77 => (r_77.1[ar.length]?).bind fun y_79 => (fold_grow.r n C ((i + 1 : Nat) : Int) o_63 (r_77.1.set ar.length (fold_node.mk y_79.x y_79.next (some (ar ++ [fold_node.mk (fins x kn) (none : Option Nat) (none : Option Nat)]).length)))).bind fun r_82 => (r_82.1[ar.length]?).bind fun y_84 => some (r_82.1.set ar.length (fold_node.mk y_84.x (some (r_77.1.set ar.length (fold_node.mk y_79.x y_79.next (some (ar ++ [fold_node.mk (fins x kn) (none : Option Nat) (none : Option Nat)]).length))).length) y_84.side), r_82.2))) := by
        intro sd hs1 hs2
        have hk : (if (fins x kn).Op = 1 then (some (aset kn (fins x kn).D (fins x kn).K : List (Int × Int))) else (some (kn : List (Int × Int))) : Option (List (Int × Int))) = some (kn1 (fins x kn) kn) := by
          unfold kn1; split <;> rfl
        rw [hk, Option.bind_some]
        have hft := fins_to hq kn hto
        have hfx : isJ x = true → fins x kn = x := fun hj => by
          rcases fins_c x kn with e | ⟨c, K, e⟩
          · exact e
          · rw [isJ_ff hq.op (by omega)] at hj; cases hj
        generalize hy : fins x kn = y at *
        generalize hK : kn1 y kn = kk at *
        have hl1 : (ar ++ [fold_node.mk y none none]).length = ar.length + 1 := by simp
        refine .ite (fun ht => ?_) fun ht => ?_
        · have hsd := hs2 (hft.1 ht)
          subst hsd
          refine .bind (IHn kk (ar ++ [fold_node.mk y none none])) fun r hr => ?_
          obtain ⟨r1, r2, r3, r4⟩ := hr
          rw [hl1] at r2 r3 r4
          have hroot : r.1[ar.length]? = some ⟨y, none, none⟩ := by rw [r2 _ (by omega)]; exact get_last
          refine .bindE hroot (.some ⟨r1, fun k hk => ?_, by simp; omega, ar.length, some (ar.length + 1), none, ar.length + 1, rfl, Nat.le_refl _, by omega, by simp; omega, ?_, rfl, ?_⟩)
          · rw [get_set_ne (by omega), r2 k (by omega), get_app hk]
          · rw [hl1]; exact get_set hroot
          · simp only [List.length_set]
            exact r4.frame fun k a b => get_set_ne (by omega)
        · have hj : isJ x = true := by
            cases hj : isJ x
            · exact absurd (hft.2 hj) ht
            · rfl
          have hsd := hs1 hj
          subst hsd
          have hyx := hfx hj
          rw [show y.To = x.To by rw [hyx]]
          refine .bind (IHt hj kk (ar ++ [fold_node.mk y none none])) fun r hr => ?_
          obtain ⟨r1, r2, r3, r4⟩ := hr
          rw [hl1] at r2 r3 r4
          have hroot : r.1[ar.length]? = some ⟨y, none, none⟩ := by rw [r2 _ (by omega)]; exact get_last
          refine .bindE hroot ?_
          simp only
          rw [hl1]
          generalize har2 : r.1.set ar.length (fold_node.mk y none (some (ar.length + 1))) = ar2
          have hroot2 : ar2[ar.length]? = some ⟨y, none, some (ar.length + 1)⟩ := by rw [← har2]; exact get_set hroot
          have hl2 : ar2.length = r.1.length := by rw [← har2]; simp
          have hne2 : ∀ k, ar.length ≠ k → ar2[k]? = r.1[k]? := fun k hk => by rw [← har2]; exact get_set_ne hk
          refine .bind (IHn kk ar2) fun q hq' => ?_
          obtain ⟨q1, q2, q3, q4⟩ := hq'
          have hroot3 : q.1[ar.length]? = some ⟨y, none, some (ar.length + 1)⟩ := by rw [q2 _ (by omega)]; exact hroot2
          refine .bindE hroot3 (.some ⟨q1, fun k hk => ?_, by simp; omega, ar.length, some ar2.length, some (ar.length + 1), ar2.length, rfl, Nat.le_refl _, by omega, by simp; omega, get_set hroot3, ?_, ?_⟩)
          · rw [get_set_ne (by omega), q2 k (by omega), hne2 k (by omega), r2 k (by omega), get_app hk]
          · rw [hl2]
            exact r4.frame fun k a b => by rw [get_set_ne (by omega), q2 k (by omega), hne2 k (by omega)]
          · simp only [List.length_set]
            exact q4.frame fun k a b => get_set_ne (by omega)
      refine .bind (R := fun o => match o with | .inl s => GQ ar (fold (Tr.node x (ctree C n (i + 1)) (if isJ x = true then ctree C n x.To.toNat else .nil)) kn).1 (fold (Tr.node x (ctree C n (i + 1)) (if isJ x = true then ctree C n x.To.toNat else .nil)) kn).2 (s.2, s.1) | .inr y => y = fins x kn ∧ decd x kn = none) ?_ fun o ho => ?_
      · refine .bind (R := fun o => o = decide (x.Op = 16 ∨ x.Op = 17)) ?_ fun o ho => ?_
        · exact .ite (fun c => .some (by simp [c])) fun c => .some (by simp [c])
        subst ho
        refine .ite (fun c => ?_) fun c => ?_
        · have c67 := of_decide_eq_true c
          have hJ : isJ x = true := isJ_of (by omega)
          have hfx : fins x kn = x := by
            rcases fins_c x kn with e | ⟨c, K, e⟩
            · exact e
            · omega
          refine .bind (R := fun o => o = decide (x.A = x.B ∧ x.Op = 16)) ?_ fun o ho => ?_
          · exact .ite (fun c => .some (by simp [c])) fun c => .some (by simp [c])
          subst ho
          refine .bind (R := fun o => o = decide ((x.A = x.B ∧ x.Op = 16) ∨ (both x kn ∧ x.Op = 16 ∧ va x kn ≥ vb x kn) ∨ (both x kn ∧ x.Op = 17 ∧ va x kn ≠ vb x kn))) ?_ fun o ho => ?_
          · refine .ite (fun c => .some ?_) fun c => ?_
            · rw [decide_eq_true (Or.inl (of_decide_eq_true c))]
            · have c : ¬ (x.A = x.B ∧ x.Op = 16) := by simpa using c
              refine .bind (R := fun o => o = decide (both x kn ∧ x.Op = 16 ∧ va x kn ≥ vb x kn)) ?_ fun o ho => ?_
              · refine .ite (fun hb => .ite (fun c => .some ?_) fun c => .some ?_) fun hb => .some ?_
                · simp [of_decide_eq_true hb, c, va, vb]
                · simp [c]
                · have hb : ¬ both x kn := by simpa using hb
                  simp [hb]
              subst ho
              refine .ite (fun d => .some ?_) fun d => ?_
              · rw [decide_eq_true (Or.inr (Or.inl (of_decide_eq_true d)))]
              · have d : ¬ (both x kn ∧ x.Op = 16 ∧ va x kn ≥ vb x kn) := by simpa using d
                refine .ite (fun hb => .ite (fun e => .some ?_) fun e => .some ?_) fun hb => .some ?_
                · have hb := of_decide_eq_true hb
                  by_cases q : va x kn = vb x kn
                  · have q' : (aget kn x.A).getD 0 = (aget kn x.B).getD 0 := q
                    rw [decide_eq_true q', decide_eq_false]
                    · rfl
                    · rintro (h | h | h)
                      · exact c h
                      · exact d h
                      · exact h.2.2 q
                  · have q' : ¬ (aget kn x.A).getD 0 = (aget kn x.B).getD 0 := q
                    rw [decide_eq_false q', decide_eq_true (Or.inr (Or.inr ⟨hb, e, q⟩))]
                    rfl
                · rw [decide_eq_false]
                  rintro (h | h | h)
                  · exact c h
                  · exact d h
                  · exact e h.2.1
                · have hb : ¬ both x kn := by simpa using hb
                  rw [decide_eq_false]
                  rintro (h | h | h)
                  · exact c h
                  · exact d h
                  · exact hb h.1
          subst ho
          refine .ite (fun d => ?_) fun d => ?_
          · have hd : decd x kn = some true := by unfold decd; rw [if_pos c67, if_pos (of_decide_eq_true d)]
            refine .bind (IHt hJ kn ar) fun r hr => .some ?_
            simp only [fold, if_neg c18, hd, if_pos hJ]
            exact hr
          · have d : ¬ ((x.A = x.B ∧ x.Op = 16) ∨ (both x kn ∧ x.Op = 16 ∧ va x kn ≥ vb x kn) ∨ (both x kn ∧ x.Op = 17 ∧ va x kn ≠ vb x kn)) := fun h => d (decide_eq_true h)
            have fl : (x.A = x.B ∨ both x kn) → Tot (fun o => match o with | .inl s => GQ ar (fold (Tr.node x (ctree C n (i + 1)) (if isJ x = true then ctree C n x.To.toNat else .nil)) kn).1 (fold (Tr.node x (ctree C n (i + 1)) (if isJ x = true then ctree C n x.To.toNat else .nil)) kn).2 (s.2, s.1) | .inr y => y = fins x kn ∧ decd x kn = none)
                ((fold_grow.r n C ((i + 1 : Nat) : Int) kn ar).bind fun r_43 => some (Sum.inl (r_43.2, r_43.1) : ((List (Int × Int)) × (List fold_node)) ⊕ api_Ins)) := fun hf => by
              have hd : decd x kn = some false := by unfold decd; rw [if_pos c67, if_neg d, if_pos hf]
              refine .bind (IHn kn ar) fun r hr => .some ?_
              simp only [fold, if_neg c18, hd]
              exact hr
            refine .ite (fun e => fl (.inl e)) fun e => .ite (fun f => fl (.inr (of_decide_eq_true f))) fun f => .some ⟨hfx.symm, ?_⟩
            have f : ¬ both x kn := by simpa using f
            unfold decd
            rw [if_pos c67, if_neg d, if_neg (fun h => h.elim e f)]
        · have c67 : ¬ (x.Op = 16 ∨ x.Op = 17) := by simpa using c
          have hd : decd x kn = none := by unfold decd; rw [if_neg c67]
          refine .bind (R := fun o => o = decide (x.Op = 2 ∨ x.Op = 3 ∨ x.Op = 4)) ?_ fun o ho => ?_
          · exact .ite (fun c => .some (by simp [c])) fun c => .ite (fun d => .some (by simp [d])) fun d => .some (by simp [c, d])
          subst ho
          refine .ite (fun d => .ite (fun hb => .some ⟨?_, hd⟩) fun hb => .some ⟨?_, hd⟩) fun d => .ite (fun e => .ite (fun hb => .ite (fun z => .some ⟨?_, hd⟩) fun z => .gd z (.some ⟨?_, hd⟩)) fun hb => .some ⟨?_, hd⟩) fun e => .some ⟨?_, hd⟩
          · unfold fins; rw [if_pos ⟨of_decide_eq_true d, of_decide_eq_true hb⟩]; rfl
          · have hb : ¬ both x kn := by simpa using hb
            unfold fins; rw [if_neg (fun h => hb h.2), if_neg (fun h => hb h.2.1)]
          · have d : ¬ (x.Op = 2 ∨ x.Op = 3 ∨ x.Op = 4) := by simpa using d
            unfold fins; rw [if_neg (fun h => d h.1), if_neg (fun h => h.2.2 z)]
          · have d : ¬ (x.Op = 2 ∨ x.Op = 3 ∨ x.Op = 4) := by simpa using d
            unfold fins; rw [if_neg (fun h => d h.1), if_pos ⟨e, of_decide_eq_true hb, z⟩]; rfl
          · have hb : ¬ both x kn := by simpa using hb
            unfold fins; rw [if_neg (fun h => hb h.2), if_neg (fun h => hb h.2.1)]
          · have d : ¬ (x.Op = 2 ∨ x.Op = 3 ∨ x.Op = 4) := by simpa using d
            unfold fins; rw [if_neg (fun h => d h.1), if_neg (fun h => e h.1)]
      · cases o with
        | inl s => exact .some ho
        | inr y =>
          obtain ⟨rfl, hd⟩ := ho
          have := rest (if isJ x = true then ctree C n x.To.toNat else .nil) (fun h => if_pos h) (fun h => if_neg (by rw [h]; decide))
          simp only [fold, if_neg c18, hd]
          exact this
end

theorem trim_le {us kn : Kn} : ∀ t : Tr, (trim us kn t).2 ≤ t.size
  | .nil => Nat.le_refl _
  | .node x nx sd => by
    have h1 := trim_le (us := us) (kn := kn) nx
    have h2 := trim_le (us := us) (kn := kn) sd
    simp only [trim, Tr.size]
    split <;> simp only <;> omega
theorem at_size {ar : List fold_node} : ∀ {t : Tr} {lo hi : Nat} {o : Option Nat}, At ar lo hi o t → t ≠ .nil → ∃ i, o = some i
  | .nil, lo, hi, o, h, c => absurd rfl c
  | .node x nx sd, lo, hi, o, h, _ => by obtain ⟨i, _, _, _, h0, _⟩ := h; exact ⟨i, h0⟩
theorem trim_r {us kn : Kn} : ∀ (n : Nat) (t : Tr) (lo hi : Nat) (o : Option Nat) (ar : List fold_node), t.size < n → t.size ≤ 1000 → At ar lo hi o t →
    Tot (fun r => r.2.2 = ((trim us kn t).2 : Int) ∧ At r.1 lo hi r.2.1 (trim us kn t).1 ∧ r.1.length = ar.length ∧ ∀ k, (k < lo ∨ hi ≤ k) → r.1[k]? = ar[k]?) (fold_node_trim.r n o us kn ar)
  | 0, t, lo, hi, o, ar, h, _, _ => by omega
  | n + 1, .nil, lo, hi, o, ar, h, _, hA => by
    have hA : o = none := hA
    subst hA
    show Tot _ (fold_node_trim.b (fold_node_trim.r n) none us kn ar)
    unfold fold_node_trim.b
    exact .tt rfl (.some ⟨rfl, rfl, rfl, fun _ _ => rfl⟩)
  | n + 1, .node x nx sd, lo, hi, o, ar, h, h1000, hA => by
    obtain ⟨i, pn, ps, m, rfl, a1, a2, a3, a4, a5, a6⟩ := hA
    simp only [Tr.size] at h h1000
    show Tot _ (fold_node_trim.b (fold_node_trim.r n) (some i) us kn ar)
    unfold fold_node_trim.b
    refine .ff (by simp) (.bindE rfl (.bindE a4 ?_))
    simp only [letC]
    refine .bind (R := fun o => o = idl us kn x) ?_ fun o ho => ?_
    · refine .bind (R := fun o => o = decide (x.Op = 1 ∨ x.Op = 2 ∨ x.Op = 3 ∨ x.Op = 4)) ?_ fun o ho => ?_
      · exact .ite (fun c => .some (by simp [c])) fun c => .ite (fun d => .some (by simp [d])) fun d => .ite (fun e => .some (by simp [e])) fun e => .some (by simp [c, d, e])
      subst ho
      refine .ite (fun c => .some ?_) fun c => .ite (fun d => .ite (fun e => .some ?_) fun e => .some ?_) fun d => .some ?_
      · unfold idl; rw [if_pos (of_decide_eq_true c)]; rfl
      · have c : ¬ (x.Op = 1 ∨ x.Op = 2 ∨ x.Op = 3 ∨ x.Op = 4) := fun h => c (decide_eq_true h)
        have e : gz us x.D = 0 := e
        unfold idl; rw [if_neg c, if_pos d, if_pos e]; rfl
      · have c : ¬ (x.Op = 1 ∨ x.Op = 2 ∨ x.Op = 3 ∨ x.Op = 4) := fun h => c (decide_eq_true h)
        have e : ¬ gz us x.D = 0 := e
        unfold idl; rw [if_neg c, if_pos d, if_neg e]
      · have c : ¬ (x.Op = 1 ∨ x.Op = 2 ∨ x.Op = 3 ∨ x.Op = 4) := fun h => c (decide_eq_true h)
        unfold idl; rw [if_neg c, if_neg d]
    subst ho
    have ln := trim_le (us := us) (kn := kn) nx
    have ls := trim_le (us := us) (kn := kn) sd
    refine .bind (trim_r n nx m hi pn ar (by omega) (by omega) a6) fun r hr => ?_
    obtain ⟨r1, r2, r3, r4⟩ := hr
    refine .ite (fun c => .some ?_) fun c => ?_
    · simp only [trim, if_pos c]
      refine ⟨?_, r2.wide (by omega) (Nat.le_refl _), r3, fun k hk => r4 k (by omega)⟩
      rw [r1, wr64 (by omega)]; omega
    · have hi1 : r.1[i]? = some ⟨x, pn, ps⟩ := by rw [r4 i (by omega)]; exact a4
      refine .bindE hi1 ?_
      have hs : At r.1 (i + 1) m ps sd := a5.frame fun k b1 b2 => r4 k (by omega)
      refine .bind (trim_r n sd (i + 1) m ps r.1 (by omega) (by omega) hs) fun q hq => ?_
      obtain ⟨q1, q2, q3, q4⟩ := hq
      have hi2 : q.1[i]? = some ⟨x, pn, ps⟩ := by rw [q4 i (by omega)]; exact hi1
      refine .bindE hi2 ?_
      have hi3 : (q.1.set i ⟨x, r.2.1, ps⟩)[i]? = some ⟨x, r.2.1, ps⟩ := get_set hi2
      refine .bindE hi3 (.some ?_)
      simp only [trim, if_neg c]
      refine ⟨?_, ⟨i, r.2.1, q.2.1, m, rfl, a1, a2, a3, get_set hi3, ?_, ?_⟩, by simp [q3, r3], fun k hk => ?_⟩
      · rw [r1, q1, wr64 (by omega)]; omega
      · exact q2.frame fun k b1 b2 => by rw [get_set_ne (by omega), get_set_ne (by omega)]
      · exact r2.frame fun k b1 b2 => by rw [get_set_ne (by omega), get_set_ne (by omega), q4 k (by omega)]
      · rw [get_set_ne (by omega), get_set_ne (by omega), q4 k (by omega), r4 k (by omega)]
def ufl (us : Kn) (ts : List Int) : Kn := ts.foldl (fun m a => aset m a (wr .i64 (gz m a + 1))) us
def ufold (us : Kn) (L : List api_Ins) : Kn := L.foldl (fun m y => ufl m (ust y)) us
def kfold (kn : Kn) (L : List api_Ins) : Kn := L.foldl (fun m y => kn1 y m) kn
def vs : Tr → List api_Ins
  | .nil => []
  | .node x nx sd => x :: (vs sd ++ vs nx)
theorem vs_mem : ∀ {t : Tr} {x : api_Ins}, x ∈ vs t ↔ x ∈ t.ps
  | .nil, x => Iff.rfl
  | .node y nx sd, x => by
    simp only [vs, Tr.ps, List.mem_cons, List.mem_append, vs_mem (t := nx), vs_mem (t := sd)]
    exact ⟨fun h => h.elim .inl fun h => .inr h.symm, fun h => h.elim .inl fun h => .inr h.symm⟩
theorem vs_len : ∀ t : Tr, (vs t).length = t.size
  | .nil => rfl
  | .node x nx sd => by simp only [vs, Tr.size, List.length_cons, List.length_append, vs_len nx, vs_len sd]; omega
theorem temps_eq {x : api_Ins} (hx : isOp x.Op = true) : fold_temps.m x = .inl (ust x, (ust x).length) ∨ (fold_temps.m x = .inr () ∧ ust x = []) := by
  unfold fold_temps.m ust
  rcases isOp_c hx with c | c | c | c | c | c | c | c | c | c | c | c | c | c | c | c | c | c
  all_goals
    have e1 : ∀ k, sh x.Op = sh k → sh x.Op = sh k := fun _ h => h
    rw [c]
    first | exact .inl rfl | exact .inr ⟨rfl, rfl⟩
theorem count_l2 (us : Kn) (ts : List Int) (hl : ts.length ≤ 2) : loop (fold_node_count.l2 (ts, ts.length)) ((us, 0) : (List (Int × Int)) × Int) = some (ufl us ts) := by
  refine loop_st (f := fold_node_count.l2 (ts, ts.length)) ts.length (fun i => (ufl us (ts.take i), (i : Int))) (ufl us ts) (fun i hi => ?_) ?_
  · unfold fold_node_count.l2
    simp only [letC]
    rw [if_pos (by omega), if_pos (by omega), if_pos (by omega), wr64 (x := (i : Int) + 1) (by omega)]
    have e : ufl us (ts.take (i + 1)) = aset (ufl us (ts.take i)) (gi ts i) (wr .i64 (gz (ufl us (ts.take i)) (gi ts i) + 1)) := by
      have h := List.getElem?_eq_getElem hi
      have hg : gi ts i = ts[i] := gi_get h
      rw [List.take_add_one, h, hg]
      unfold ufl
      rw [List.foldl_append]; rfl
    rw [e]; rfl
  · unfold fold_node_count.l2
    simp only
    rw [if_neg (by omega), List.take_length]
theorem count_loop {ar : List fold_node} {rec_ : (Option Nat) → (List (Int × Int)) → (List (Int × Int)) → (List fold_node) → Option ((List (Int × Int)) × (List (Int × Int)))} {n : Nat}
    (hrec : ∀ (s : Tr) (lo hi : Nat) (o : Option Nat) (us kn : Kn), s.size < n → (∀ x ∈ s.ps, isOp x.Op = true) → At ar lo hi o s → rec_ o us kn ar = some (ufold us (vs s), kfold kn (vs s))) :
    ∀ (t : Tr) (lo hi : Nat) (o : Option Nat) (us kn : Kn), t.size ≤ n → (∀ x ∈ t.ps, isOp x.Op = true) → At ar lo hi o t → loop (fold_node_count.l1 ar rec_) (us, kn, o) = some (ufold us (vs t), kfold kn (vs t))
  | .nil, lo, hi, o, us, kn, _, _, hA => by
    have hA : o = none := hA
    subst hA
    refine loop_out ?_
    unfold fold_node_count.l1
    exact if_pos rfl
  | .node x nx sd, lo, hi, o, us, kn, hs, hp, hA => by
    obtain ⟨i, pn, ps, m, rfl, a1, a2, a3, a4, a5, a6⟩ := hA
    simp only [Tr.size] at hs
    simp only [Tr.ps, List.mem_cons, List.mem_append] at hp
    have hx := hp x (.inl rfl)
    have hsd := fun us kn => hrec sd (i + 1) m ps us kn (by omega) (fun y hy => hp y (.inr (.inr hy))) a5
    have key : fold_node_count.l1 ar rec_ (us, kn, some i) = some (.inl (ufold (ufl us (ust x)) (vs sd), kfold (kn1 x kn) (vs sd), pn)) := by
      unfold fold_node_count.l1
      simp only [letC]
      rw [if_neg (by simp), Option.bind_some, a4, Option.bind_some]
      have hk : ∀ (u : Kn), (if x.Op = 1 then ((rec_ ps u (aset kn x.D x.K) ar).bind fun r_35 => some (Sum.inl (r_35.1, r_35.2, pn) : ((List (Int × Int)) × (List (Int × Int)) × (Option Nat)) ⊕ ((List (Int × Int)) × (List (Int × Int))))) else ((rec_ ps u kn ar).bind fun r_37 => some (Sum.inl (r_37.1, r_37.2, pn)))) = some (.inl (ufold u (vs sd), kfold (kn1 x kn) (vs sd), pn)) := by
        intro u
        unfold kn1
        split
        · rw [hsd]; rfl
        · rw [hsd]; rfl
      rcases temps_eq hx with e | ⟨e, e2⟩
      · rw [e]
        simp only
        rw [count_l2 us (ust x) (by unfold ust; split <;> split <;> simp), Option.bind_some]
        exact hk _
      · rw [e, e2]
        simp only
        rw [show loop fold_node_count.l3 () = some () from loop_out rfl, Option.bind_some]
        exact hk us
    rw [loop_in key, count_loop hrec nx m hi pn _ _ (by omega) (fun y hy => hp y (.inr (.inl hy))) a6]
    simp only [vs, ufold, kfold, List.foldl_cons, List.foldl_append]
theorem count_r {ar : List fold_node} : ∀ (n : Nat) (t : Tr) (lo hi : Nat) (o : Option Nat) (us kn : Kn), t.size < n → (∀ x ∈ t.ps, isOp x.Op = true) → At ar lo hi o t → fold_node_count.r n o us kn ar = some (ufold us (vs t), kfold kn (vs t))
  | 0, t, lo, hi, o, us, kn, h, _, _ => by omega
  | n + 1, t, lo, hi, o, us, kn, h, hp, hA => by
    show fold_node_count.b (fold_node_count.r n) o us kn ar = _
    unfold fold_node_count.b
    rw [count_loop (fun s lo hi o us kn => count_r n s lo hi o us kn) t lo hi o us kn (by omega) hp hA]; rfl
theorem lay_r {ar : List fold_node} : ∀ (n : Nat) (t : Tr) (lo hi : Nat) (o : Option Nat) (out : List api_Ins) (m : Nat), t ≠ .nil → t.size < n → At ar lo hi o t → out.length = m → m + t.size ≤ 1000 → fold_node_lay_2.r n o out m ar = some (out ++ layT m t)
  | 0, t, lo, hi, o, out, m, _, h, _, _, _ => by omega
  | n + 1, .nil, lo, hi, o, out, m, ht, _, _, _, _ => absurd rfl ht
  | n + 1, .node x nx sd, lo, hi, o, out, m, _, h, hA, hm, hs => by
    obtain ⟨i, pn, ps, mm, rfl, a1, a2, a3, a4, a5, a6⟩ := hA
    simp only [Tr.size] at h hs
    show fold_node_lay_2.b (fold_node_lay_2.r n) (some i) out m ar = _
    unfold fold_node_lay_2.b
    simp only [letC]
    rw [Option.bind_some, a4, Option.bind_some, if_pos hm, if_pos (by simp; omega)]
    have h1 : (if pn.isNone = true then (some (out ++ [x] : List api_Ins)) else ((fold_node_lay_2.r n pn (out ++ [x]) (out ++ [x]).length ar).bind fun r_16 => some (r_16 : List api_Ins)) : Option (List api_Ins)) = some (out ++ [x] ++ layT (m + 1) nx) := by
      by_cases c : nx = .nil
      · subst c
        have a6 : pn = none := a6
        rw [a6]; simp [layT]
      · obtain ⟨j, rfl⟩ := at_size a6 c
        rw [if_neg (by simp), lay_r n nx mm hi (some j) (out ++ [x]) _ c (by omega) a6 rfl (by simp; omega), Option.bind_some]
        simp [hm]
    rw [h1, Option.bind_some]
    have hlen : (out ++ [x] ++ layT (m + 1) nx).length = m + 1 + nx.size := by simp [layT_len, hm]; omega
    by_cases c : sd = .nil
    · subst c
      have a5 : ps = none := a5
      rw [a5]; simp [layT, tgt]
    · obtain ⟨j, rfl⟩ := at_size a5 c
      rw [if_neg (by simp), hlen, if_pos (by omega)]
      have hg : gi (out ++ [x] ++ layT (m + 1) nx) (m : Int) = x := by
        refine gi_get ?_
        rw [← hm, List.append_assoc, List.getElem?_append_right (Nat.le_refl _), Nat.sub_self]; rfl
      have hst : ∀ z : api_Ins, (out ++ [x] ++ layT (m + 1) nx).set (m : Int).toNat z = out ++ [z] ++ layT (m + 1) nx := fun z => by
        rw [Int.toNat_natCast, ← hm, List.append_assoc, List.set_append_right _ _ (Nat.le_refl _), Nat.sub_self, List.append_assoc]; rfl
      rw [hg, hst, lay_r n sd (i + 1) mm (some j) _ _ c (by omega) a5 (by simp [layT_len, hm]; omega) (by omega), Option.bind_some]
      simp only [layT, tgt_nn c, List.append_assoc, List.cons_append, List.nil_append]

theorem gz_aset (m : Kn) (k a v : Int) : gz (aset m k v) a = if a = k then v else gz m a := by
  unfold gz
  rw [aget_aset]
  split <;> rfl
theorem ufl_spec : ∀ (ts : List Int) (us : Kn) (B : Int), (∀ a, 0 ≤ gz us a ∧ gz us a ≤ B) → B + ts.length < 1000000 → (∀ a, gz us a ≤ gz (ufl us ts) a) ∧ (∀ a ∈ ts, 0 < gz (ufl us ts) a) ∧ (∀ a, a ∉ ts → gz (ufl us ts) a = gz us a)
  | [], us, B, h, hB => ⟨fun a => Int.le_refl _, fun a ha => by simp at ha, fun a _ => rfl⟩
  | t :: r, us, B, h, hB => by
    have ht := h t
    simp only [List.length_cons] at hB
    have hw : wr .i64 (gz us t + 1) = gz us t + 1 := wr64 (by omega)
    have e : ufl us (t :: r) = ufl (aset us t (gz us t + 1)) r := by unfold ufl; rw [List.foldl_cons, hw]
    rw [e]
    have hb : ∀ a, 0 ≤ gz (aset us t (gz us t + 1)) a ∧ gz (aset us t (gz us t + 1)) a ≤ B + 1 := by
      intro a
      rw [gz_aset]
      have := h a
      split <;> omega
    obtain ⟨k1, k2, k3⟩ := ufl_spec r _ (B + 1) hb (by omega)
    have ge : ∀ a, gz us a ≤ gz (aset us t (gz us t + 1)) a := fun a => by
      rw [gz_aset]; split
      · rename_i c; subst c; omega
      · exact Int.le_refl _
    refine ⟨fun a => Int.le_trans (ge a) (k1 a), fun a ha => ?_, fun a ha => ?_⟩
    · rcases List.mem_cons.1 ha with rfl | ha
      · have := k1 a
        rw [gz_aset, if_pos rfl] at this
        omega
      · exact k2 a ha
    · simp only [List.mem_cons, not_or] at ha
      rw [k3 a ha.2, gz_aset, if_neg ha.1]
theorem ufold_eq : ∀ (L : List api_Ins) (us : Kn), ufold us L = ufl us (L.flatMap ust)
  | [], us => rfl
  | y :: r, us => by
    show ufold (ufl us (ust y)) r = _
    rw [ufold_eq r, List.flatMap_cons]
    unfold ufl
    rw [List.foldl_append]
theorem ust_len (x : api_Ins) : (ust x).length ≤ 2 := by unfold ust; split <;> split <;> simp
theorem flat_len : ∀ (L : List api_Ins), (L.flatMap ust).length ≤ 2 * L.length
  | [] => by simp
  | y :: r => by
    rw [List.flatMap_cons, List.length_append, List.length_cons]
    have := ust_len y
    have := flat_len r
    omega
theorem oc_mem : ∀ {t : Tr} {a : Int}, a ∈ ocT t ↔ ∃ x ∈ t.ps, a ∈ ust x
  | .nil, a => by simp [ocT, Tr.ps]
  | .node y nx sd, a => by
    simp only [ocT, Tr.ps, List.mem_append, List.mem_cons, oc_mem (t := nx), oc_mem (t := sd)]
    constructor
    · rintro (h | ⟨x, h1, h2⟩ | ⟨x, h1, h2⟩)
      · exact ⟨y, .inl rfl, h⟩
      · exact ⟨x, .inr (.inl h1), h2⟩
      · exact ⟨x, .inr (.inr h1), h2⟩
    · rintro ⟨x, rfl | h1 | h1, h2⟩
      · exact .inl h2
      · exact .inr (.inl ⟨x, h1, h2⟩)
      · exact .inr (.inr ⟨x, h1, h2⟩)
def usT (t : Tr) : Kn := ufold [] (vs t)
def knT (t : Tr) : Kn := kfold [] (vs t)
theorem us_0 {t : Tr} (h : t.size ≤ 1000) (a : Int) : gz (usT t) a = 0 ↔ a ∉ ocT t := by
  have hl := flat_len (vs t)
  rw [vs_len] at hl
  obtain ⟨k1, k2, k3⟩ := ufl_spec ((vs t).flatMap ust) [] 0 (fun a => ⟨Int.le_refl _, Int.le_refl _⟩) (by omega)
  have hm : a ∈ (vs t).flatMap ust ↔ a ∈ ocT t := by
    rw [List.mem_flatMap, oc_mem]
    exact ⟨fun ⟨x, h1, h2⟩ => ⟨x, vs_mem.1 h1, h2⟩, fun ⟨x, h1, h2⟩ => ⟨x, vs_mem.2 h1, h2⟩⟩
  unfold usT
  rw [ufold_eq, ← hm]
  constructor
  · intro h0 h1
    have := k2 a h1; omega
  · intro h1
    rw [k3 a h1]; rfl
theorem kf_1 : ∀ (L : List api_Ins) (kn : Kn) (a k : Int), aget (kfold kn L) a = some k → aget kn a = some k ∨ ∃ y ∈ L, y.Op = 1 ∧ y.D = a ∧ y.K = k
  | [], kn, a, k, h => .inl h
  | y :: r, kn, a, k, h => by
    rcases kf_1 r (kn1 y kn) a k h with h | ⟨z, h1, h2⟩
    · unfold kn1 at h
      split at h
      · rename_i c
        rw [aget_aset] at h
        split at h
        · rename_i d
          exact .inr ⟨y, by simp, c, d.symm, by simpa using h⟩
        · exact .inl h
      · exact .inl h
    · exact .inr ⟨z, by simp [h1], h2⟩
theorem kf_2 {a k : Int} : ∀ (L : List api_Ins) (kn : Kn), (∀ z ∈ L, z.Op = 1 → z.D = a → z.K = k) → (aget kn a = some k ∨ ∃ y ∈ L, y.Op = 1 ∧ y.D = a) → aget (kfold kn L) a = some k
  | [], kn, _, h => h.elim id fun ⟨y, h, _⟩ => by simp at h
  | y :: r, kn, hu, h => by
    refine kf_2 r (kn1 y kn) (fun z hz => hu z (by simp [hz])) ?_
    by_cases c : y.Op = 1 ∧ y.D = a
    · left
      unfold kn1
      rw [if_pos c.1, aget_aset, if_pos c.2.symm, hu y (by simp) c.1 c.2]
    · rcases h with h | ⟨z, h1, h2, h3⟩
      · left
        unfold kn1
        split
        · rename_i d
          rw [aget_aset, if_neg (fun e => c ⟨d, e.symm⟩)]; exact h
        · exact h
      · right
        rcases List.mem_cons.1 h1 with rfl | h1
        · exact absurd ⟨h2, h3⟩ c
        · exact ⟨z, h1, h2, h3⟩
theorem kn_some {t : Tr} {a k : Int} (h : aget (knT t) a = some k) : ∃ y ∈ t.ps, y.Op = 1 ∧ y.D = a ∧ y.K = k := by
  rcases kf_1 _ _ _ _ h with h | ⟨y, h1, h2⟩
  · cases h
  · exact ⟨y, vs_mem.1 h1, h2⟩
theorem kn_of {t : Tr} (hu : UQ t) {y : api_Ins} (hy : y ∈ t.ps) (h1 : y.Op = 1) : aget (knT t) y.D = some y.K :=
  kf_2 _ _ (fun z hz z1 z2 => by rw [hu z (vs_mem.1 hz) y hy (mks_tt (.inl z1)) (mks_tt (.inl h1)) z2]) (.inr ⟨y, vs_mem.2 hy, h1, rfl⟩)
theorem wt_pq {l : List api_Loc} : ∀ {t : Tr} {mk : List Int}, WT l mk t → ∀ x ∈ t.ps, PQ x l
  | .nil, mk, _, x, hx => by simp [Tr.ps] at hx
  | .node y nx sd, mk, hW, x, hx => by
    obtain ⟨w1, w2, w3, w4, w5⟩ := hW
    simp only [Tr.ps, List.mem_cons, List.mem_append] at hx
    rcases hx with rfl | hx | hx
    · exact w1
    · exact wt_pq w4 x hx
    · exact wt_pq w5 x hx
structure Gd (l : List api_Loc) (N : Nat) (tc t : Tr) : Prop where
  w : WT l [] t
  f : Full t
  nd : (mkT t).Nodup
  ne : t ≠ .nil
  sz : t.size ≤ N
  gn : ∀ x ∈ t.ps, GN t x
  run : ∀ ans, trun t (Arr.r 400 (0 : Int)) ans [] = trun tc (Arr.r 400 (0 : Int)) ans []
theorem Gd.op {l : List api_Loc} {N : Nat} {tc t : Tr} (h : Gd l N tc t) : ∀ x ∈ t.ps, isOp x.Op = true := fun x hx => (wt_pq h.w x hx).op
theorem gd_fold {C : List api_Ins} {l : List api_Loc} (hR : RP C l) : Gd l C.length (ctree C 1000 0) (fold (ctree C 1000 0) []).1 := by
  have hn := hR.n
  obtain ⟨h1, h2, h3, h4, h5⟩ := ctree_all hR (n := 1000) (by omega)
  obtain ⟨k1, k2, k3, k4⟩ := fold_ok (ctree C 1000 0) [] [] h1 h2
  have hnd := k3.nodup h3
  have hdj : ∀ t : Tr, (mkT t).Nodup → DJ [] t := fun t h => ⟨fun a ha => by simp at ha, h⟩
  exact ⟨k1, k2, hnd, fold_nn _ _ h2 h5, by omega, nr_glob (uq_of hnd) _ [] [] (fun x hx => hx) k1 (hdj _ hnd) (fold_nr _ _) (fun y _ _ h => by simp at h),
    fun ans => fold_run _ [] [] _ ans [] h1 (hdj _ h3) (fun a k h => by cases h)⟩
theorem gd_trim {l : List api_Loc} {N : Nat} {tc t : Tr} (h : Gd l N tc t) (hN : N ≤ 400) : Gd l N tc (trim (usT t) (knT t) t).1 := by
  have hs := h.sz
  have hO : ∀ x ∈ t.ps, idl (usT t) (knT t) x = true → x.D ∉ ocT t := fun x hx c => (us_0 (by omega) x.D).1 (idl_c c).2.1
  have hK : ∀ x ∈ t.ps, idl (usT t) (knT t) x = true → x.Op = 5 → ∃ y ∈ t.ps, y.Op = 1 ∧ y.D = x.B ∧ y.K ≠ 0 := fun x hx c d => by
    have hz := (idl_c c).2.2 d
    unfold gz at hz
    cases e : aget (knT t) x.B with
    | none => rw [e] at hz; exact absurd rfl hz
    | some k =>
      rw [e] at hz
      obtain ⟨y, y1, y2, y3, y4⟩ := kn_some e
      exact ⟨y, y1, y2, y3, by rw [y4]; exact hz⟩
  obtain ⟨k1, k2, k3, k4, k5⟩ := trim_ok (O := ocT t) t [] [] h.w h.f (fun a ha _ => ha) (fun a ha => ha) hO
  have hdj : DJ [] t := ⟨fun a ha => by simp at ha, h.nd⟩
  exact ⟨k1, k2, k3.nodup h.nd, trim_nn t h.f h.ne, by omega, fun x hx => (h.gn x (k5.mem hx)).sub fun y hy => k5.mem hy,
    fun ans => (trim_run hO hK (uq_of h.nd) (wt_pq h.w) t [] _ _ ans [] (fun x hx => hx) (fun a ha => ha) h.w hdj (fun a _ _ => rfl) (fun y _ _ hm => by simp at hm)).trans (h.run ans)⟩
def LS (t : Tr) : Prop := ∀ x ∈ t.ps, idl (usT t) (knT t) x = false
theorem fold_loop {l : List api_Loc} {N : Nat} {tc : Tr} (hN : N ≤ 400) : ∀ (n : Nat) (t : Tr) (ar : List fold_node) (o : Option Nat) (k : Int), t.size ≤ n → Gd l N tc t → At ar 0 ar.length o t → 0 < k →
    Tot (fun r => ∃ t', Gd l N tc t' ∧ LS t' ∧ At r.1 0 r.1.length r.2 t') (loop fold_Fold.l1 (ar, o, k))
  | 0, t, ar, o, k, h, hG, _, _ => by have := Tr.size_pos hG.ne; omega
  | n + 1, t, ar, o, k, h, hG, hA, hk => by
    have hs := hG.sz
    have hc : fold_node_count.m o ([] : List (Int × Int)) ([] : List (Int × Int)) ar = some (usT t, knT t) := count_r 1000 t 0 ar.length o [] [] (by omega) hG.op hA
    obtain ⟨r, e, r1, r2, r3, r4⟩ := trim_r (us := usT t) (kn := knT t) 1000 t 0 ar.length o ar (by omega) (by omega) hA
    have hG' := gd_trim hG hN
    have hsz : (trim (usT t) (knT t) t).1.size + (trim (usT t) (knT t) t).2 ≤ t.size := by
      have hO : ∀ x ∈ t.ps, idl (usT t) (knT t) x = true → x.D ∉ ocT t := fun x hx c => (us_0 (by omega) x.D).1 (idl_c c).2.1
      exact (trim_ok (O := ocT t) t [] [] hG.w hG.f (fun a ha _ => ha) (fun a ha => ha) hO).2.2.2.1
    rw [← r3] at r2
    have hst : fold_Fold.l1 (ar, o, k) = some (.inl (r.1, r.2.1, r.2.2)) := by
      unfold fold_Fold.l1
      simp only
      rw [if_pos hk, hc, Option.bind_some, show fold_node_trim.m o (usT t) (knT t) ar = some r from e, Option.bind_some]
    rw [loop_in hst]
    by_cases c : (trim (usT t) (knT t) t).2 = 0
    · obtain ⟨c1, c2⟩ := trim_0 t c
      have hend : fold_Fold.l1 (r.1, r.2.1, r.2.2) = some (.inr (r.1, r.2.1)) := by
        unfold fold_Fold.l1
        simp only
        rw [if_neg (by rw [r1, c]; decide)]
      rw [loop_out hend]
      rw [c1] at r2
      exact .some ⟨t, hG, c2, r2⟩
    · exact fold_loop hN n _ r.1 r.2.1 r.2.2 (by omega) hG' r2 (by omega)
theorem right_long {C : List api_Ins} {l : List api_Loc} (h : 400 < C.length) : tree_Right.m C l = some false := by
  unfold tree_Right.m
  simp [show ¬ ((C.length : Int) < 1) by omega, show (C.length : Int) > 400 by omega, letC]
theorem fold_m {C : List api_Ins} {l : List api_Loc} (hl : l.length ≤ 16) : (¬ RP C l ∧ tree_Right.m C l = some false ∧ fold_Fold.m C l = some (.inr ())) ∨
    (RP C l ∧ ∃ t, fold_Fold.m C l = some (.inl (layT 0 t)) ∧ Gd l C.length (ctree C 1000 0) t ∧ LS t) := by
  unfold fold_Fold.m
  by_cases hn : C.length ≤ 400
  · obtain ⟨b, hb, hi⟩ := tree_right C l hn hl
    rw [hb, Option.bind_some]
    cases b with
    | false => exact .inl ⟨fun h => (by have := hi.2 h; cases this), rfl, rfl⟩
    | true =>
      have hR := hi.1 rfl
      refine .inr ⟨hR, ?_⟩
      rw [if_pos rfl]
      have hn := hR.n
      obtain ⟨r, e, g1, g2, g3, g4⟩ := grow_r hR 1000 0 [] [] (by omega) (by omega)
      rw [show fold_grow.m C 0 ([] : List (Int × Int)) ([] : List fold_node) = some r from e, Option.bind_some]
      have hG := gd_fold hR
      obtain ⟨q, e2, t, t1, t2, t3⟩ := fold_loop (l := l) (N := C.length) hn.2 (fold (ctree C 1000 0) []).1.size _ r.1 (some 0) 1 (Nat.le_refl _) hG g4 (by decide)
      rw [show loop fold_Fold.l1 ((r.1, (some ([] : List fold_node).length), 1) : (List fold_node) × (Option Nat) × Int) = some q from e2, Option.bind_some]
      have hsz := t1.sz
      have e3 := lay_r (ar := q.1) 1000 t 0 q.1.length q.2 [] 0 t1.ne (by omega) t3 rfl (by omega)
      rw [show fold_node_lay_2.m q.2 ([] : List api_Ins) (([] : List api_Ins).length) q.1 = some ([] ++ layT 0 t) from e3, Option.bind_some]
      exact ⟨t, rfl, t1, t2⟩
  · rw [right_long (by omega), Option.bind_some]
    exact .inl ⟨fun h => hn h.n.2, rfl, rfl⟩

theorem trun_len : ∀ (t : Tr) (T : Arr Int 400) (ans : List Int) (acts : List api_Act), (∀ x ∈ t.ps, isOp x.Op = true) → (trun t T ans acts).2.length ≤ acts.length + t.size
  | .nil, T, ans, acts, _ => by simp [trun]
  | .node x nx sd, T, ans, acts, h => by
    simp only [Tr.ps, List.mem_cons, List.mem_append] at h
    have hok := tstep_ok (h x (.inl rfl)) T ans acts
    simp only [trun, Tr.size]
    generalize tstep x T ans acts = z at hok
    cases z with
    | fin st ac => obtain ⟨_, rfl⟩ := hok; simp only; omega
    | nxt j T' an ac =>
      obtain ⟨_, _, r, rfl, hr⟩ := hok
      cases j with
      | true =>
        have := trun_len sd T' an (acts ++ r) (fun y hy => h y (.inr (.inr hy)))
        rw [List.length_append] at this
        simp only; omega
      | false =>
        have := trun_len nx T' an (acts ++ r) (fun y hy => h y (.inr (.inl hy)))
        rw [List.length_append] at this
        simp only; omega
section
variable {C : List api_Ins} {l : List api_Loc}
theorem run_of (hR : RP C l) (hl : l.length ≤ 16) {ans : List Int} {z : Int × List api_Act} (h : loop (tree_Run.l1 C) ((Arr.r 400 (0 : Int), ans, [], ((0 : Nat) : Int)) : (Arr Int 400) × (List Int) × (List api_Act) × Int) = some z) : tree_Run.m C l ans = some (.inl (z.2, z.1)) := by
  have hn := hR.n
  obtain ⟨b, hb, hi⟩ := tree_right C l hn.2 hl
  have hbt : b = true := hi.2 hR
  subst hbt
  unfold tree_Run.m
  rw [hb, Option.bind_some, if_pos rfl]
  rw [show loop (tree_Run.l1 C) (((Arr.r 400 (0 : Int) : Arr Int 400), ans, ([] : List api_Act), 0) : (Arr Int 400) × (List Int) × (List api_Act) × Int) = some z from h]; rfl
theorem run_code (hR : RP C l) (hl : l.length ≤ 16) (ans : List Int) : tree_Run.m C l ans = some (.inl ((trun (ctree C 1000 0) (Arr.r 400 (0 : Int)) ans []).2, (trun (ctree C 1000 0) (Arr.r 400 (0 : Int)) ans []).1)) := by
  have hn := hR.n
  exact run_of hR hl (run_ctree hR hl 1000 0 (by omega) (by omega) (Arr.r 400 (0 : Int)) ans [] (by simp))
theorem run_out (hl : l.length ≤ 16) {N : Nat} {tc t : Tr} (hG : Gd l N tc t) (hN : N ≤ 400) (ans : List Int) : RP (layT 0 t) l ∧ (layT 0 t).length = t.size ∧ tree_Run.m (layT 0 t) l ans = some (.inl ((trun tc (Arr.r 400 (0 : Int)) ans []).2, (trun tc (Arr.r 400 (0 : Int)) ans []).1)) := by
  have hs := hG.sz
  obtain ⟨h1, h2, h3⟩ := lay_rp hG.w hG.f hG.nd hG.ne (by omega)
  refine ⟨h1, h3, ?_⟩
  have := run_of h1 hl (run_lay h1 hl t 0 hG.ne hG.f h2 (Arr.r 400 (0 : Int)) ans [] (by simp))
  rw [hG.run] at this
  exact this
theorem run_len (hR : RP C l) (ans : List Int) : (trun (ctree C 1000 0) (Arr.r 400 (0 : Int)) ans []).2.length ≤ 1000 := by
  have hn := hR.n
  obtain ⟨h1, h2, h3, h4, h5⟩ := ctree_all hR (n := 1000) (by omega)
  have := trun_len (ctree C 1000 0) (Arr.r 400 (0 : Int)) ans [] (fun x hx => (wt_pq h1 x hx).op)
  simp only [List.length_nil] at this
  omega
end

theorem same_acts2 (a : List api_Act) (h : a.length ≤ 1000) : selvageref08_Same_3.m a a = some true := by
  unfold selvageref08_Same_3.m
  rw [if_pos rfl]
  have := loop_st (f := selvageref08_Same_3.l1 a a) a.length (fun i => (i : Int)) (.inr ()) (fun i hi => ?_) (by unfold selvageref08_Same_3.l1; rw [if_neg (by omega)])
  · rw [show (0 : Int) = ((0 : Nat) : Int) from rfl, this]; rfl
  · unfold selvageref08_Same_3.l1
    rw [if_pos (by omega), if_pos (by omega)]
    simp only [letC]
    rw [if_pos (by omega), if_pos (by simp), wr64 (by omega)]
    rfl
theorem pureFoldTwice (a : List api_Ins) (l : List api_Loc) (ans : List Int) {p q r : Prop} (w0 : p) (w1 : q) (w2 : r) : selvagelaw12_FoldTwice.m a l ans = some true := by
  suffices h : Tot (fun b => b = true) (selvagelaw12_FoldTwice.m a l ans) by
    obtain ⟨b, e, rfl⟩ := h; exact e
  unfold selvagelaw12_FoldTwice.m
  refine .bindE selvagelaw12_awake_eq (.tt rfl ?_)
  refine .bind (R := fun b => b = false → a.length ≤ 410 ∧ l.length ≤ 16) (.ite (fun h => .some fun e => by cases e) fun h => .ite (fun k => .some fun e => by cases e) fun k => .some fun e => ⟨by omega, by omega⟩) fun b hb => .ite (fun _ => .some rfl) fun hbf => ?_
  obtain ⟨ha, hl⟩ := hb (by simpa using hbf)
  rcases fold_m (C := a) hl with ⟨hR, _, hf⟩ | ⟨hR, t, hf, hG, hS⟩
  · refine .bindE hf ?_
    rcases fold_m (C := []) hl with ⟨_, _, hf⟩ | ⟨hR, _⟩
    · exact .bindE hf (.tt rfl (.some rfl))
    · have := hR.n.1; simp at this
  · have hn := hR.n
    have hs := hG.sz
    obtain ⟨o1, o2, o3⟩ := run_out hl hG hn.2 ans
    refine .bindE hf ?_
    rcases fold_m (C := layT 0 t) hl with ⟨hR2, _⟩ | ⟨_, t2, hf2, hG2, hS2⟩
    · exact absurd o1 hR2
    · have hs2 := hG2.sz
      obtain ⟨q1, q2, q3⟩ := run_out hl hG2 o1.n.2 ans
      have e := run_code o1 hl ans
      have e' := e
      rw [o3] at e'
      injection e' with e'
      injection e' with e'
      injection e' with e1 e2
      refine .bindE hf2 (.tt (by omega) (.bindE e (.bindE q3 ?_)))
      refine .bindE (y := true) ?_ (.some rfl)
      unfold selvageref08_SameTrace_3.m
      rw [if_pos rfl, same_acts2 _ (run_len o1 ans)]; rfl
end Go.Proofs.Ytbdbmklkgjbehaa.W
