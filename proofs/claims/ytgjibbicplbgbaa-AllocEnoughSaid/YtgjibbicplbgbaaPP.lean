/- PP: several texts in one. -/
import Derived.Test.YtgjibbicplbgbaaQA
import Derived.Test.YtgjibbicplbgbaaLB
import Derived.Test.YtgjibbicplbgbaaQB
set_option linter.unusedVariables false
set_option linter.unusedSimpArgs false
set_option linter.unusedSectionVars false
namespace Go.Proofs.Ytgjibbicplbgbaa.W
open Go Go.RowKit Go.Proofs.Ytgjibbicplbgbaa Go.Proofs.Ytgjibbicplbgbaa.X
open Go.Proofs.Ytgjibbicplbgbaa.B (wr aget aset loop loop_in loop_out loop_tot)

theorem wr64 {x : Int} (h : -9223372036854775808 ≤ x ∧ x < 9223372036854775808) : wr .i64 x = x := B.w64 h
/-- A loop that is gone through n times, or is left earlier. -/
theorem loop_cnt {S O : Type} {f : S → Option (S ⊕ O)} (n : Nat) (I : Nat → S → Prop) (Q : O → Prop)
    (h1 : ∀ i s, i < n → I i s → (∃ s', f s = some (.inl s') ∧ I (i + 1) s') ∨ ∃ o, f s = some (.inr o) ∧ Q o) (h2 : ∀ s, I n s → ∃ o, f s = some (.inr o) ∧ Q o) {s : S} (h : I 0 s) : ∃ o, loop f s = some o ∧ Q o := by
  have key : ∀ m i s, i + m = n → I i s → ∃ o, loop f s = some o ∧ Q o := by
    intro m
    induction m with
    | zero =>
      intro i s hi hs
      have : i = n := by omega
      subst this
      obtain ⟨o, ho, hq⟩ := h2 s hs
      exact ⟨o, loop_out ho, hq⟩
    | succ m ih =>
      intro i s hi hs
      rcases h1 i s (by omega) hs with ⟨s', e, hs'⟩ | ⟨o, ho, hq⟩
      · obtain ⟨o, k1, k2⟩ := ih (i + 1) s' (by omega) hs'
        exact ⟨o, (loop_in e).trans k1, k2⟩
      · exact ⟨o, loop_out ho, hq⟩
  exact key n 0 s (by omega) h
theorem loop_st {S O : Type} {f : S → Option (S ⊕ O)} (n : Nat) (st : Nat → S) (o : O) (h1 : ∀ i, i < n → f (st i) = some (.inl (st (i + 1)))) (h2 : f (st n) = some (.inr o)) : loop f (st 0) = some o := by
  obtain ⟨o', k1, rfl⟩ := loop_cnt (f := f) n (fun i s => s = st i) (fun o' => o' = o) (fun i s hi hs => .inl ⟨_, by rw [hs]; exact h1 i hi, rfl⟩) (fun s hs => ⟨o, by rw [hs]; exact h2, rfl⟩) rfl
  exact k1
/-- The first one of which it is so. -/
theorem loop_find {α : Type} [Inhabited α] (l : List α) (p : α → Bool) {f : Int → Option (Int ⊕ (Int ⊕ Unit))} (h1 : ∀ i : Nat, i < l.length → f (i : Int) = if p (gi l i) = true then some (.inr (.inl (i : Int))) else some (.inl ((i + 1 : Nat) : Int)))
    (h2 : f (l.length : Int) = some (.inr (.inr ()))) :
    ∃ o, loop f 0 = some o ∧ ((∃ i : Nat, i < l.length ∧ o = .inl (i : Int) ∧ p (gi l i) = true ∧ ∀ j : Nat, j < i → p (gi l j) = false) ∨ (o = .inr () ∧ ∀ j : Nat, j < l.length → p (gi l j) = false)) := by
  refine loop_cnt (f := f) l.length (fun i s => s = (i : Int) ∧ ∀ j : Nat, j < i → p (gi l j) = false) _ (fun i s hi hs => ?_) (fun s hs => ?_) ⟨rfl, fun j hj => by omega⟩
  · obtain ⟨rfl, hs⟩ := hs
    rw [h1 i hi]
    by_cases hp : p (gi l i) = true
    · rw [if_pos hp]; exact .inr ⟨_, rfl, .inl ⟨i, hi, rfl, hp, hs⟩⟩
    · rw [if_neg hp]
      refine .inl ⟨_, rfl, rfl, fun j hj => ?_⟩
      by_cases e : j = i
      · subst e; simpa using hp
      · exact hs j (by omega)
  · obtain ⟨rfl, hs⟩ := hs
    exact ⟨_, h2, .inr ⟨rfl, hs⟩⟩

/-! ### spans -/
/-- A piece makes a temp; it uses a temp. -/
def mks (x : api_Ins) : Bool := alloc_makes.m x
def nds (x : api_Ins) (t : Int) : Bool := alloc_needs.m x t
def mkt (t : Int) (x : api_Ins) : Bool := mks x && decide (x.D = t)
theorem spanOf1 (x : api_Ins) (t : Int) : alloc_spanOf_1.m x t = mkt t x := by
  unfold alloc_spanOf_1.m letC mkt mks
  cases alloc_makes.m x <;> simp
/-- Where a temp is made. -/
def At (code : List api_Ins) (t : Int) (i : Nat) : Prop := i < code.length ∧ mkt t (gi code i) = true ∧ ∀ j : Nat, j < i → mkt t (gi code j) = false
theorem At.uniq {code : List api_Ins} {t : Int} {i j : Nat} (h : At code t i) (k : At code t j) : i = j := by
  rcases Nat.lt_trichotomy i j with c | c | c
  · have := k.2.2 i c; rw [h.2.1] at this; cases this
  · exact c
  · have := h.2.2 j c; rw [k.2.1] at this; cases this
theorem idx_eq (code : List api_Ins) (t : Int) (hl : code.length ≤ 400) : (∃ i, At code t i ∧ slices_IndexFunc.m code t = some (i : Int)) ∨ ((∀ j : Nat, j < code.length → mkt t (gi code j) = false) ∧ slices_IndexFunc.m code t = some (-1)) := by
  unfold slices_IndexFunc.m
  obtain ⟨o, h1, h2⟩ := loop_find (f := slices_IndexFunc.l1 code t) code (mkt t) (fun i hi => by
    unfold slices_IndexFunc.l1
    rw [if_pos (by omega), if_pos (by omega)]
    simp only [letC, spanOf1]
    rw [wr64 (by omega)]
    rfl) (by unfold slices_IndexFunc.l1; rw [if_neg (by omega)])
  rw [h1]
  rcases h2 with ⟨i, hi, rfl, hp, hq⟩ | ⟨rfl, hq⟩
  · exact .inl ⟨i, ⟨hi, hp, hq⟩, rfl⟩
  · exact .inr ⟨hq, rfl⟩
/-- What the first i pieces make of a span. -/
def su (code : List api_Ins) (t : Int) (i0 : Nat) : Nat → alloc_span
  | 0 => ⟨t, i0, i0, 0⟩
  | i + 1 => if nds (gi code i) t = true then ⟨t, i0, if (i : Int) > (su code t i0 i).to_ then i else (su code t i0 i).to_, (su code t i0 i).uses + 1⟩ else su code t i0 i
theorem su_p (code : List api_Ins) (t : Int) (i0 : Nat) : ∀ i, (su code t i0 i).temp = t ∧ (su code t i0 i).from_ = i0 ∧ 0 ≤ (su code t i0 i).uses ∧ (su code t i0 i).uses ≤ i ∧ (i0 : Int) ≤ (su code t i0 i).to_ ∧ ((su code t i0 i).to_ = i0 ∨ (su code t i0 i).to_ < i) ∧
    (∀ j : Nat, j < i → nds (gi code j) t = true → (j : Int) ≤ (su code t i0 i).to_)
  | 0 => ⟨rfl, rfl, Int.le_refl _, Int.le_refl _, Int.le_refl _, .inl rfl, fun j hj => by omega⟩
  | i + 1 => by
    obtain ⟨h1, h2, h3, h4, h5, h6, h7⟩ := su_p code t i0 i
    simp only [su]
    by_cases hn : nds (gi code i) t = true
    · rw [if_pos hn]
      refine ⟨rfl, rfl, by simp only []; omega, by simp only []; omega, by simp only []; split <;> omega, by simp only []; split <;> omega, fun j hj hd => ?_⟩
      simp only []
      by_cases e : j = i
      · subst e; split <;> omega
      · have := h7 j (by omega) hd
        split <;> omega
    · rw [if_neg hn]
      refine ⟨h1, h2, h3, by omega, h5, by omega, fun j hj hd => ?_⟩
      by_cases e : j = i
      · subst e; exact absurd hd hn
      · exact h7 j (by omega) hd
def sp (code : List api_Ins) (t : Int) (i0 : Nat) : alloc_span := su code t i0 code.length
theorem span_loop (code : List api_Ins) (t : Int) (i0 : Nat) (hl : code.length ≤ 400) : loop (alloc_spanOf.l1 code t) ((⟨0, 0, 0, 0⟩, ⟨t, i0, i0, 0⟩, 0) : alloc_span × alloc_span × Int) = some (⟨0, 0, 0, 0⟩, sp code t i0) := by
  refine loop_st (f := alloc_spanOf.l1 code t) code.length (fun i => (⟨0, 0, 0, 0⟩, su code t i0 i, (i : Int))) _ (fun i hi => ?_) ?_
  · unfold alloc_spanOf.l1
    obtain ⟨h1, h2, h3, h4, h5, h6, h7⟩ := su_p code t i0 i
    simp only []
    rw [if_pos (by omega), if_pos (by omega)]
    simp only [letC, su]
    rw [wr64 (by omega), wr64 (by omega), show alloc_needs.m (gi code i) t = nds (gi code i) t from rfl]
    by_cases hn : nds (gi code i) t = true
    · rw [if_pos hn, if_pos hn, h1, h2]; rfl
    · rw [if_neg hn, if_neg hn]; rfl
  · unfold alloc_spanOf.l1
    simp only []
    rw [if_neg (by omega)]
    rfl
/-- A temp's span, and whether it has one. -/
theorem span_eq (code : List api_Ins) (t : Int) (hl : code.length ≤ 400) : (∃ i, At code t i ∧ alloc_spanOf.m code t = some (sp code t i, true)) ∨ ((∀ j : Nat, j < code.length → mkt t (gi code j) = false) ∧ alloc_spanOf.m code t = some (⟨0, 0, 0, 0⟩, false)) := by
  unfold alloc_spanOf.m
  rcases idx_eq code t hl with ⟨i, h1, h2⟩ | ⟨h1, h2⟩
  · refine .inl ⟨i, h1, ?_⟩
    rw [h2, Option.bind_some, if_neg (by omega), span_loop code t i hl]
    rfl
  · refine .inr ⟨h1, ?_⟩
    rw [h2, Option.bind_some, if_pos (by omega)]
end Go.Proofs.Ytgjibbicplbgbaa.W
namespace Go.Proofs.Ytgjibbicplbgbaa.W
open Go Go.RowKit Go.Proofs.Ytgjibbicplbgbaa Go.Proofs.Ytgjibbicplbgbaa.X
open Go.Proofs.Ytgjibbicplbgbaa.B (wr aget aset loop loop_in loop_out loop_tot)

/-- It tells something, and that is so. -/
def Tot {X : Type} (Q : X → Prop) (E : Option X) : Prop := ∃ x, E = some x ∧ Q x
section
variable {X Y : Type} {Q : X → Prop} {R : Y → Prop} {E : Option Y} {k : Y → Option X} {c : Prop} [Decidable c] {a b : Option X} {x : X}
theorem Tot.some (h : Q x) : Tot Q (some x) := ⟨x, rfl, h⟩
theorem Tot.bind (h : Tot R E) (h2 : ∀ y, R y → Tot Q (k y)) : Tot Q (E.bind k) := by
  obtain ⟨y, rfl, hy⟩ := h
  exact h2 y hy
theorem Tot.bindE {y : Y} (h : E = .some y) (h2 : Tot Q (k y)) : Tot Q (E.bind k) := by
  subst h; exact h2
theorem Tot.gd (h : c) (h2 : Tot Q a) : Tot Q (if c then a else none) := by rw [if_pos h]; exact h2
theorem Tot.ite (h1 : c → Tot Q a) (h2 : ¬c → Tot Q b) : Tot Q (if c then a else b) := by
  by_cases h : c
  · rw [if_pos h]; exact h1 h
  · rw [if_neg h]; exact h2 h
theorem Tot.tt (h : c) (h1 : Tot Q a) : Tot Q (if c then a else b) := by rw [if_pos h]; exact h1
theorem Tot.ff (h : ¬ c) (h1 : Tot Q b) : Tot Q (if c then a else b) := by rw [if_neg h]; exact h1
theorem Tot.let {Z : Type} {z : Z} {f : Z → Option X} (h : ∀ v, v = z → Tot Q (f v)) : Tot Q (letC z f) := h z rfl
theorem Tot.mono {Q' : X → Prop} (h : Tot Q a) (k : ∀ x, Q x → Q' x) : Tot Q' a := by
  obtain ⟨x, e, hx⟩ := h
  exact ⟨x, e, k x hx⟩
end
section
variable {S O : Type} {f : S → Option (S ⊕ O)} {s : S} {Q : O → Prop}
theorem loop_T (n : Nat) (I : Nat → S → Prop) (h1 : ∀ i s, i < n → I i s → Tot (fun z => match z with | .inl s' => I (i + 1) s' | .inr o => Q o) (f s))
    (h2 : ∀ s, I n s → Tot (fun z => match z with | .inl _ => False | .inr o => Q o) (f s)) (h : I 0 s) : Tot Q (loop f s) := by
  refine loop_cnt n I Q (fun i s hi hs => ?_) (fun s hs => ?_) h
  · obtain ⟨z, e, hz⟩ := h1 i s hi hs
    cases z with
    | inl s' => exact .inl ⟨s', e, hz⟩
    | inr o => exact .inr ⟨o, e, hz⟩
  · obtain ⟨z, e, hz⟩ := h2 s hs
    cases z with
    | inl s' => exact hz.elim
    | inr o => exact ⟨o, e, hz⟩
theorem loop_M (I : S → Prop) (μ : S → Nat) (h1 : ∀ s, I s → Tot (fun z => match z with | .inl s' => I s' ∧ μ s' < μ s | .inr o => Q o) (f s)) (h : I s) : Tot Q (loop f s) := by
  refine loop_tot I μ Q (fun s hs => ?_) s h
  obtain ⟨z, e, hz⟩ := h1 s hs
  cases z with
  | inl s' => exact .inl ⟨s', e, hz⟩
  | inr o => exact .inr ⟨o, e, hz⟩
end
theorem gi_set {α : Type} [Inhabited α] {l : List α} {i : Nat} {j : Int} {x : α} (hi : i < l.length) (h0 : 0 ≤ j) (hj : j < l.length) : gi (l.set i x) j = if (i : Int) = j then x else gi l j := by
  have hj' : j.toNat < l.length := by omega
  unfold gi
  rw [List.getD_eq_getElem?_getD, List.getD_eq_getElem?_getD, List.getElem?_set]
  by_cases h : i = j.toNat
  · rw [if_pos h, if_pos hi, if_pos (by omega)]; rfl
  · rw [if_neg h, if_neg (by omega)]
theorem gi_replicate {α : Type} [Inhabited α] {n : Nat} {x : α} {j : Int} (h0 : 0 ≤ j) (h : j < n) : gi (List.replicate n x) j = x := by
  unfold gi
  rw [List.getD_eq_getElem?_getD, List.getElem?_replicate, if_pos (by omega)]; rfl
end Go.Proofs.Ytgjibbicplbgbaa.W
namespace Go.Proofs.Ytgjibbicplbgbaa.W
open Go Go.RowKit Go.Proofs.Ytgjibbicplbgbaa Go.Proofs.Ytgjibbicplbgbaa.X
open Go.Proofs.Ytgjibbicplbgbaa.B (wr aget aset loop loop_in loop_out loop_tot)

theorem ops_c (op : Int) : (op = 1 ∨ op = 2 ∨ op = 3 ∨ op = 4 ∨ op = 5 ∨ op = 6 ∨ op = 7 ∨ op = 8 ∨ op = 9 ∨ op = 10 ∨ op = 11 ∨ op = 12 ∨ op = 13 ∨ op = 14 ∨ op = 15 ∨ op = 16 ∨ op = 17 ∨ op = 18) ∨
    (op ≠ 1 ∧ op ≠ 2 ∧ op ≠ 3 ∧ op ≠ 4 ∧ op ≠ 5 ∧ op ≠ 6 ∧ op ≠ 7 ∧ op ≠ 8 ∧ op ≠ 9 ∧ op ≠ 10 ∧ op ≠ 11 ∧ op ≠ 12 ∧ op ≠ 13 ∧ op ≠ 14 ∧ op ≠ 15 ∧ op ≠ 16 ∧ op ≠ 17 ∧ op ≠ 18) := by omega
theorem mks_shape (x : api_Ins) : mks x = (tree_shape.m x.Op).1.d := by
  unfold mks alloc_makes.m tree_shape.m letC
  generalize x.Op = op
  rcases ops_c op with h | h
  · rcases h with rfl | rfl | rfl | rfl | rfl | rfl | rfl | rfl | rfl | rfl | rfl | rfl | rfl | rfl | rfl | rfl | rfl | rfl <;> rfl
  · simp [h]
theorem places_T (u : tree_uses) (x : api_Ins) (l : List api_Loc) (hl : l.length ≤ 16) : Tot (fun _ => True) (tree_places.m u x l) := by
  unfold tree_places.m
  refine .ite (fun _ => ?_) fun _ => .ite (fun _ => .some trivial) fun _ => .some trivial
  refine .bind (R := fun _ => True) (.ite (fun _ => .some trivial) fun _ => .ite (fun _ => .some trivial) fun _ => .some trivial) fun o _ => ?_
  cases o with
  | inr o => exact .some trivial
  | inl n =>
    refine .bind (R := fun b => b = false → 1 ≤ n ∧ n ≤ l.length ∧ 0 ≤ x.Loc ∧ x.Loc ≤ l.length - n) ?_ fun b hb => ?_
    · refine .ite (fun _ => .some fun e => by cases e) fun h1 => .ite (fun _ => .some fun e => by cases e) fun h2 => .ite (fun _ => .some fun e => by cases e) fun h3 => .let fun v hv => ?_
      rw [wr64 (by omega)] at hv
      refine .some fun e => ?_
      have := of_decide_eq_false e
      omega
    · refine .ite (fun _ => .some trivial) fun h => ?_
      have h := hb (by simpa using h)
      rw [wr64 (by omega)]
      refine Tot.gd (by omega) ?_
      refine Tot.let fun v hv => ?_
      refine .bind (R := fun _ => True) ?_ fun o _ => by cases o <;> exact .some trivial
      refine loop_T (f := tree_places.l1 u v) v.length (fun i s => s = (i : Int)) (fun i s hi hs => ?_) (fun s hs => ?_) rfl
      · have hvl : v.length ≤ 16 := by rw [hv]; simp; omega
        subst hs
        unfold tree_places.l1
        refine .tt (by omega) ?_
        refine Tot.gd (by omega) ?_
        refine Tot.let fun w hw => ?_
        refine .ite (fun _ => .some ?_) fun _ => .some trivial
        simp only []
        rw [wr64 (by omega)]; rfl
      · subst hs
        unfold tree_places.l1
        exact .ff (by omega) (.some trivial)
/-- No temp is made twice, and all of them are temps. -/
def Good (code : List api_Ins) (n : Nat) : Prop := ∀ i : Nat, i < n → mks (gi code i) = true → 0 ≤ (gi code i).D ∧ (gi code i).D < 400 ∧ ∀ j : Nat, j < i → mks (gi code j) = true → (gi code j).D ≠ (gi code i).D
structure RI (code : List api_Ins) (i : Nat) (s : (List Int) × (List Int) × (List (Int × Int))) : Prop where
  l1 : s.1.length = code.length
  l2 : s.2.1.length = code.length
  fr : ∀ j : Nat, 0 < j → j < code.length → 0 ≤ gi s.2.1 j ∧ gi s.2.1 j < j
  md : ∀ t v, aget s.2.2 t = some v → ∃ j : Nat, j < i ∧ v = (j : Int)
  al : ∀ j : Nat, j < i → mks (gi code j) = true → aget s.2.2 (gi code j).D ≠ none
  gd : Good code i
theorem temp_d {b : Bool} {n : Int} (h : tree_temp.m b n = true) : b = true → 0 ≤ n ∧ n < 400 := by
  unfold tree_temp.m at h
  intro e
  rw [if_pos e] at h
  split at h
  · split at h
    · omega
    · cases h
  · cases h
theorem right_l1 (code : List api_Ins) (l : List api_Loc) (hn : code.length ≤ 400) (hl : l.length ≤ 16) (h18 : (gi code (code.length - 1)).Op = 18) :
    Tot (fun o => match o with | .inl _ => True | .inr s => RI code code.length s) (loop (tree_Right.l1 code l) ((List.replicate code.length (0 : Int), List.replicate code.length (0 : Int), ([] : List (Int × Int)), 0) : (List Int) × (List Int) × (List (Int × Int)) × Int)) := by
  refine loop_T code.length (fun i s => RI code i (s.1, s.2.1, s.2.2.1) ∧ s.2.2.2 = (i : Int)) (fun i s hi hs => ?_) (fun s hs => ?_) ⟨⟨by simp, by simp, fun j h0 hj => ?_, fun t v h => (by cases h), fun j hj => by omega, fun j hj => by omega⟩, rfl⟩
  · obtain ⟨w, f, m, k⟩ := s
    obtain ⟨hI, rfl⟩ := hs
    obtain ⟨c1, c2, c3, c4, c5, c6⟩ := hI
    simp only [] at c1 c2 c3 c4 c5 c6
    unfold tree_Right.l1
    dsimp only
    refine .tt (by omega) ?_
    refine Tot.gd (by omega) ?_
    refine Tot.let fun x hx => ?_
    refine Tot.let fun r hr => ?_
    refine .bind (R := fun b => b = false → tree_temp.m r.1.d x.D = true) ?_ fun b1 hb1 => ?_
    · refine .ite (fun _ => ?_) fun _ => .some fun e => by cases e
      refine Tot.let fun v1 e1 => ?_
      refine .ite (fun h1 => ?_) fun _ => .some fun e => by cases e
      refine Tot.let fun v2 e2 => ?_
      refine .ite (fun _ => ?_) fun _ => .some fun e => by cases e
      refine Tot.let fun v3 e3 => ?_
      refine .ite (fun _ => ?_) fun _ => .some fun e => by cases e
      have hp := places_T r.1 x l hl
      exact .ite (fun _ => .bind hp fun y _ => .some fun _ => by rw [← e1]; exact h1) fun _ => .ite (fun _ => .bind hp fun y _ => .some fun _ => by rw [← e1]; exact h1) fun _ => .some fun e => by cases e
    refine .ite (fun _ => .some trivial) fun hb1' => ?_
    have ht := hb1 (by simpa using hb1')
    refine .bind (R := fun b => b = false → r.1.to_ = true → (i : Int) + 1 < x.To ∧ x.To < code.length) ?_ fun b2 hb2 => ?_
    · refine .ite (fun _ => ?_) fun h => .some fun _ e => absurd e h
      refine Tot.let fun v1 e1 => ?_
      rw [wr64 (by omega)] at e1
      exact .ite (fun _ => .some fun e => by cases e) fun h1 => .ite (fun _ => .some fun e => by cases e) fun h2 => .some fun _ _ => by omega
    refine .ite (fun _ => .some trivial) fun hb2' => ?_
    have hto := hb2 (by simpa using hb2')
    -- arrays
    let R : (List Int) × (List Int) → Prop := fun p => p.1.length = code.length ∧ p.2.length = code.length ∧ ∀ j : Nat, 0 < j → j < code.length → 0 ≤ gi p.2 j ∧ gi p.2 j < j
    have setf : ∀ (f : List Int) (t : Int), f.length = code.length → (i : Int) < t → t < code.length → (∀ j : Nat, 0 < j → j < code.length → 0 ≤ gi f j ∧ gi f j < j) → ∀ j : Nat, 0 < j → j < code.length → 0 ≤ gi (f.set t.toNat (i : Int)) j ∧ gi (f.set t.toNat (i : Int)) j < j := by
      intro f t hf h1 h2 h3 j h0 hj
      rw [gi_set (by omega) (by omega) (by omega)]
      by_cases e : (t.toNat : Int) = j
      · rw [if_pos e]; omega
      · rw [if_neg e]; exact h3 j h0 hj
    refine .bind (R := R) ?_ fun p hp => ?_
    · refine .ite (fun h => ?_) fun _ => .some ⟨c1, c2, c3⟩
      have := hto h
      refine Tot.gd (by omega) ?_
      refine Tot.gd (by omega) ?_
      refine Tot.let fun v1 e1 => ?_
      refine Tot.let fun v2 e2 => ?_
      refine Tot.gd (by omega) ?_
      refine Tot.let fun v3 e3 => ?_
      refine .some ⟨by rw [e2]; simp [c1], by rw [e3]; simp [c2], ?_⟩
      subst e3
      exact setf f x.To c2 (by omega) (by omega) c3
    obtain ⟨p1, p2, p3⟩ := hp
    have hlast : ¬ x.Op = 18 → (i : Int) + 1 < code.length := by
      intro hne
      rcases Nat.lt_or_ge (i + 1) code.length with c | c
      · omega
      · exfalso
        apply hne
        rw [hx]
        rw [show ((i : Nat) : Int) = code.length - 1 by omega]
        exact h18
    refine .bind (R := R) ?_ fun q hq => ?_
    · refine .ite (fun _ => .some ⟨p1, p2, p3⟩) fun h => ?_
      have := hlast h
      refine Tot.let fun v1 e1 => ?_
      rw [wr64 (by omega)] at e1
      refine Tot.gd (by omega) ?_
      refine Tot.gd (by omega) ?_
      refine Tot.let fun v2 e2 => ?_
      refine Tot.let fun v3 e3 => ?_
      refine Tot.let fun v4 e4 => ?_
      rw [wr64 (by omega)] at e4
      refine Tot.gd (by omega) ?_
      refine Tot.gd (by omega) ?_
      refine Tot.let fun v5 e5 => ?_
      refine .some ⟨by rw [e3]; simp [p1], by rw [e5]; simp [p2], ?_⟩
      subst e5
      simp only []
      exact setf p.2 v4 p2 (by omega) (by omega) p3
    obtain ⟨q1, q2, q3⟩ := hq
    have hmk : mks x = r.1.d := by rw [mks_shape, hr]
    refine .ite (fun hd => ?_) fun hd => ?_
    · have hrng := temp_d ht hd
      cases hm : aget m x.D with
      | some v => exact .some trivial
      | none =>
        simp only []
        refine Tot.let fun v1 e1 => ?_
        refine Tot.let fun v2 e2 => ?_
        rw [wr64 (by omega)] at e2
        subst e1
        refine .some ⟨⟨q1, q2, q3, fun t v h => ?_, fun j hj hmj => ?_, fun j hj hmj => ?_⟩, by simp only []; omega⟩
        · simp only [] at h
          rw [B.aget_aset] at h
          by_cases e : t = x.D
          · rw [if_pos e] at h; cases h; exact ⟨i, by omega, rfl⟩
          · rw [if_neg e] at h
            obtain ⟨j, hj, hv⟩ := c4 t v h
            exact ⟨j, by omega, hv⟩
        · simp only []
          rw [B.aget_aset]
          by_cases e : (gi code j).D = x.D
          · rw [if_pos e]; simp
          · rw [if_neg e]
            have hji : j ≠ i := by rintro rfl; exact e (by rw [hx])
            exact c5 j (by omega) hmj
        · by_cases e : j = i
          · subst e
            rw [← hx]
            refine ⟨hrng.1, hrng.2, fun k hk hmk e => ?_⟩
            have := c5 k hk hmk
            rw [e, hm] at this
            exact this rfl
          · exact c6 j (by omega) hmj
    · refine Tot.let fun v1 e1 => ?_
      rw [wr64 (by omega)] at e1
      have hno : mks (gi code i) = false := by rw [← hx, hmk]; simpa using hd
      refine .some ⟨⟨q1, q2, q3, fun t v h => ?_, fun j hj hmj => ?_, fun j hj hmj => ?_⟩, by simp only []; omega⟩
      · obtain ⟨j, hj, hv⟩ := c4 t v h
        exact ⟨j, by omega, hv⟩
      · have hji : j ≠ i := by rintro rfl; rw [hno] at hmj; cases hmj
        exact c5 j (by omega) hmj
      · have hji : j ≠ i := by rintro rfl; rw [hno] at hmj; cases hmj
        exact c6 j (by omega) hmj
  · obtain ⟨w, f, m, k⟩ := s
    obtain ⟨hI, rfl⟩ := hs
    unfold tree_Right.l1
    refine .ff (by simp only []; omega) (.some hI)
  · simp only []
    rw [gi_replicate (by omega) (by omega)]; omega
theorem above_T (t i : Int) (made : List (Int × Int)) (fr : List Int) (n : Nat) (hf : fr.length = n) (hi : 0 ≤ i ∧ i < n) (h1 : ∀ j : Nat, 0 < j → j < n → 0 ≤ gi fr j ∧ gi fr j < j) (h2 : ∀ v, aget made t = some v → 0 ≤ v) : Tot (fun _ => True) (tree_above.m t i made fr n) := by
  unfold tree_above.m
  cases hm : aget made t with
  | none => exact .some trivial
  | some v =>
    have hv := h2 v hm
    refine .bind (R := fun _ => True) ?_ fun o _ => by cases o <;> exact .some trivial
    refine loop_M (fun s => 0 ≤ s ∧ s < n) Int.toNat (fun s hs => ?_) hi
    unfold tree_above.l1
    refine .ite (fun h => ?_) fun h => .some trivial
    refine Tot.gd (by omega) ?_
    refine Tot.gd (by omega) ?_
    refine Tot.let fun w hw => ?_
    refine .ite (fun _ => .some trivial) fun _ => .some ?_
    have := h1 s.toNat (by omega) (by omega)
    rw [show ((s.toNat : Nat) : Int) = s by omega, ← hw] at this
    exact ⟨by omega, by omega⟩
theorem right_l2 (code : List api_Ins) (hn : code.length ≤ 400) (s : (List Int) × (List Int) × (List (Int × Int))) (h : RI code code.length s) :
    Tot (fun _ => True) (loop (tree_Right.l2 code s) ((code.length, 0) : Nat × Int)) := by
  refine loop_T code.length (fun i s => s.1 = code.length ∧ s.2 = (i : Int)) (fun i z hi hz => ?_) (fun z hz => ?_) ⟨rfl, rfl⟩
  · obtain ⟨n, k⟩ := z
    obtain ⟨h0, rfl⟩ := hz
    simp only [] at h0
    subst h0
    have hab : ∀ t, Tot (fun _ => True) (tree_above.m t (i : Int) s.2.2 s.2.1 code.length) := fun t => above_T t i s.2.2 s.2.1 code.length h.l2 ⟨by omega, by omega⟩ h.fr fun v hv => by
      obtain ⟨j, _, rfl⟩ := h.md t v hv; omega
    have hl1 := h.l1
    unfold tree_Right.l2
    dsimp only
    refine .tt (by omega) ?_
    refine Tot.gd (by omega) ?_
    refine Tot.let fun x hx => ?_
    refine .bind (R := fun _ => True) ?_ fun b _ => ?_
    · refine .ite (fun _ => ?_) fun _ => .some trivial
      refine Tot.gd (by omega) ?_
      refine Tot.gd (by omega) ?_
      refine Tot.let fun v hv => ?_
      exact .some trivial
    refine .ite (fun _ => .some trivial) fun _ => ?_
    refine Tot.let fun r hr => ?_
    refine .bind (R := fun _ => True) ?_ fun b _ => ?_
    · exact .ite (fun _ => .bind (hab _) fun y _ => .ite (fun _ => .ite (fun _ => .bind (hab _) fun y _ => .some trivial) fun _ => .some trivial) fun _ => .some trivial) fun _ => .ite (fun _ => .bind (hab _) fun y _ => .some trivial) fun _ => .some trivial
    refine .ite (fun _ => .some trivial) fun _ => ?_
    refine Tot.let fun v hv => ?_
    rw [wr64 (by omega)] at hv
    exact .some ⟨rfl, by simp only []; omega⟩
  · obtain ⟨n, k⟩ := z
    obtain ⟨h0, rfl⟩ := hz
    unfold tree_Right.l2
    exact .ff (by simp only []; omega) (.some trivial)
theorem right_T (code : List api_Ins) (l : List api_Loc) (hn : code.length ≤ 400) (hl : l.length ≤ 16) : Tot (fun b => b = true → Good code code.length) (tree_Right.m code l) := by
  unfold tree_Right.m
  refine .bind (R := fun b => b = false → 1 ≤ code.length ∧ (gi code (code.length - 1)).Op = 18) ?_ fun b hb => ?_
  · refine .ite (fun _ => .some fun e => by cases e) fun h1 => .ite (fun _ => .some fun e => by cases e) fun h2 => ?_
    refine Tot.let fun v hv => ?_
    rw [wr64 (by omega)] at hv
    refine Tot.gd (by omega) ?_
    refine Tot.let fun w hw => ?_
    refine .some fun e => ⟨by omega, ?_⟩
    subst hv hw
    simpa using e
  refine .ite (fun _ => .some fun e => by cases e) fun h => ?_
  obtain ⟨h1, h2⟩ := hb (by simpa using h)
  refine Tot.gd (by omega) ?_
  refine Tot.let fun v hv => ?_
  refine Tot.let fun w hw => ?_
  simp only [Int.toNat_natCast] at hv hw
  subst hv hw
  refine .bind (right_l1 code l hn hl h2) fun o ho => ?_
  cases o with
  | inl o => exact .some fun e => by cases e
  | inr s =>
    simp only [Int.toNat_natCast]
    refine .bind (right_l2 code hn s ho) fun o _ => ?_
    cases o with
    | inl o => exact .some fun e => by cases e
    | inr o => exact .some fun _ => ho.gd
end Go.Proofs.Ytgjibbicplbgbaa.W
namespace Go.Proofs.Ytgjibbicplbgbaa.W
open Go Go.RowKit Go.Proofs.Ytgjibbicplbgbaa Go.Proofs.Ytgjibbicplbgbaa.X
open Go.Proofs.Ytgjibbicplbgbaa.B (wr aget aset loop loop_in loop_out loop_tot qf flt i2f feq fls isnan)

theorem gi_in {α : Type} [Inhabited α] {l : List α} {i : Nat} (h : i < l.length) : gi l i = l[i] := by simp [gi, h]
theorem gi_mem {α : Type} [Inhabited α] {l : List α} {i : Int} (h0 : 0 ≤ i) (h : i < l.length) : gi l i ∈ l := by
  have : i.toNat < l.length := by omega
  simp [gi, List.getD_eq_getElem?_getD, this]
theorem mem_gi {α : Type} [Inhabited α] {l : List α} {x : α} (h : x ∈ l) : ∃ i : Nat, i < l.length ∧ gi l i = x := by
  obtain ⟨i, hi, e⟩ := List.getElem_of_mem h
  exact ⟨i, hi, by rw [gi_in hi]; exact e⟩
/-- A list without twins, all of them in another: it is no longer. -/
theorem sub_len {α : Type} [BEq α] [LawfulBEq α] : ∀ {l m : List α}, l.Nodup → (∀ x ∈ l, x ∈ m) → l.length ≤ m.length
  | [], _, _, _ => by simp
  | a :: r, m, h, k => by
    rw [List.nodup_cons] at h
    have ha := k a (by simp)
    have := sub_len (m := m.erase a) h.2 fun x hx => (List.mem_erase_of_ne (fun e => h.1 (by rw [← e]; exact hx))).2 (k x (by simp [hx]))
    rw [List.length_erase_of_mem ha] at this
    have hm : 0 < m.length := List.length_pos_of_mem ha
    simp only [List.length_cons]; omega
/-! ### the least register -/
def reg (out : List api_Home) (a : alloc_span) : Int := (gi out a.temp).Reg
def has (act : List alloc_span) (out : List api_Home) (r : Int) : Bool := act.any fun a => decide (reg out a = r)
def leastN (act : List alloc_span) (out : List api_Home) : Nat → Int → Int
  | 0, r => r
  | n + 1, r => if has act out r = true then leastN act out n (r + 1) else r
theorem contains_eq (act : List alloc_span) (r : Int) (out : List api_Home) (hb : ∀ a ∈ act, 0 ≤ a.temp ∧ a.temp < out.length) (hl : act.length ≤ 400) : slices_ContainsFunc_2.m act r out out.length = some (has act out r) := by
  unfold slices_ContainsFunc_2.m slices_IndexFunc_4.m
  obtain ⟨o, h1, h2⟩ := loop_find (f := slices_IndexFunc_4.l1 act r out out.length) act (fun a => decide (reg out a = r)) (fun i hi => by
    unfold slices_IndexFunc_4.l1 alloc_least_1_2.m
    rw [if_pos (by omega), if_pos (by omega)]
    have hm := hb _ (gi_mem (l := act) (i := (i : Int)) (by omega) (by omega))
    simp only [letC]
    rw [if_pos hm, if_pos hm, Option.bind_some, wr64 (by omega)]
    rfl) (by unfold slices_IndexFunc_4.l1; rw [if_neg (by omega)])
  rw [h1]
  rcases h2 with ⟨i, hi, rfl, hp, hq⟩ | ⟨rfl, hq⟩
  · have : has act out r = true := List.any_eq_true.2 ⟨gi act i, gi_mem (by omega) (by omega), hp⟩
    simp [this]
  · have : has act out r = false := by
      unfold has
      rw [List.any_eq_false]
      intro a ha
      obtain ⟨i, hi, rfl⟩ := mem_gi ha
      simpa using hq i hi
    simp [this]
theorem has_pig (act : List alloc_span) (out : List api_Home) (n : Nat) (h : ∀ m : Nat, m < n → has act out m = true) : n ≤ act.length := by
  have := sub_len (l := (List.range n).map fun m : Nat => (m : Int)) (m := act.map (reg out)) (by
    rw [List.nodup_iff_pairwise_ne]
    refine List.Pairwise.map _ (fun a b h => ?_) (List.nodup_iff_pairwise_ne.1 List.nodup_range)
    omega) (fun x hx => by
    obtain ⟨m, hm, rfl⟩ := List.mem_map.1 hx
    obtain ⟨a, ha, e⟩ := List.any_eq_true.1 (h m (List.mem_range.1 hm))
    exact List.mem_map.2 ⟨a, ha, of_decide_eq_true e⟩)
  simpa using this
theorem leastN_ok (act : List alloc_span) (out : List api_Home) : ∀ (n m : Nat), act.length < n + m → (∀ k : Nat, k < m → has act out k = true) →
    ∃ r : Nat, leastN act out n m = (r : Int) ∧ r ≤ act.length ∧ has act out r = false ∧ (∀ k : Nat, k < r → has act out k = true)
  | 0, m, h, k => by have := has_pig act out m k; omega
  | n + 1, m, h, k => by
    simp only [leastN]
    by_cases hm : has act out m = true
    · rw [if_pos hm, show (m : Int) + 1 = ((m + 1 : Nat) : Int) by omega]
      exact leastN_ok act out n (m + 1) (by omega) fun j hj => by
        by_cases e : j = m
        · subst e; exact hm
        · exact k j (by omega)
    · rw [if_neg hm]
      refine ⟨m, rfl, has_pig act out m k, by simpa using hm, k⟩
def least (act : List alloc_span) (out : List api_Home) : Int := leastN act out (act.length + 1) 0
theorem least_ok (act : List alloc_span) (out : List api_Home) : ∃ r : Nat, least act out = (r : Int) ∧ r ≤ act.length ∧ has act out r = false := by
  obtain ⟨r, h1, h2, h3, _⟩ := leastN_ok act out (act.length + 1) 0 (by omega) fun k hk => by omega
  exact ⟨r, h1, h2, h3⟩
theorem least_eq (act : List alloc_span) (out : List api_Home) (hb : ∀ a ∈ act, 0 ≤ a.temp ∧ a.temp < out.length) (hl : act.length ≤ 400) : alloc_least_2.m act out out.length = some (least act out) := by
  unfold alloc_least_2.m
  have key : ∀ (n m : Nat), act.length < n + m → (∀ k : Nat, k < m → has act out k = true) → loop (alloc_least_2.l1 act out out.length) (m : Int) = some (leastN act out n m) := by
    intro n
    induction n with
    | zero => intro m h k; have := has_pig act out m k; omega
    | succ n ih =>
      intro m h k
      have hml := has_pig act out m k
      have hf : alloc_least_2.l1 act out out.length (m : Int) = if has act out m = true then some (.inl ((m + 1 : Nat) : Int)) else some (.inr (m : Int)) := by
        unfold alloc_least_2.l1
        rw [contains_eq act m out hb hl, Option.bind_some, wr64 (by omega)]
        rfl
      simp only [leastN]
      by_cases hm : has act out m = true
      · rw [if_pos hm] at hf ⊢
        rw [loop_in hf]
        exact ih (m + 1) (by omega) fun j hj => by
          by_cases e : j = m
          · subst e; exact hm
          · exact k j (by omega)
      · rw [if_neg hm] at hf ⊢
        exact loop_out hf
  have := key (act.length + 1) 0 (by omega) fun k hk => by omega
  rw [show (0 : Int) = ((0 : Nat) : Int) from rfl, this]
  rfl
/-! ### those that are over go; one is taken out -/
def live (now : Int) (a : alloc_span) : Bool := !decide (a.to_ < now)
theorem take_succ' {α : Type} [Inhabited α] {l : List α} {i : Nat} (h : i < l.length) : l.take (i + 1) = l.take i ++ [gi l i] := by
  rw [gi_in h]; exact (List.take_append_getElem h).symm
theorem del_eq (act : List alloc_span) (s : alloc_span) (hl : act.length ≤ 400) : slices_DeleteFunc.m act s = some (act.filter (live s.from_)) := by
  unfold slices_DeleteFunc.m slices_IndexFunc_2.m
  obtain ⟨o, h1, h2⟩ := loop_find (f := slices_IndexFunc_2.l1 act s) act (fun a => decide (a.to_ < s.from_)) (fun i hi => by
    unfold slices_IndexFunc_2.l1
    rw [if_pos (by omega), if_pos (by omega)]
    simp only [letC, decide_eq_true_eq]
    rw [wr64 (by omega)]
    rfl) (by unfold slices_IndexFunc_2.l1; rw [if_neg (by omega)])
  rw [h1]
  rcases h2 with ⟨i, hi, rfl, hp, hq⟩ | ⟨rfl, hq⟩
  · have hkeep : ∀ n, n ≤ i → (act.take n).filter (live s.from_) = act.take n := by
      intro n hn
      rw [List.filter_eq_self]
      intro a ha
      obtain ⟨j, hj, rfl⟩ := mem_gi ha
      have hj2 : j < n := by have := hj; simp at this; omega
      have e : gi (act.take n) j = gi act j := by rw [gi_in hj, gi_in (by omega)]; simp
      rw [e]
      unfold live
      rw [hq j (by omega)]; rfl
    have hne : ¬ ((i : Int) = -1) := by omega
    show ((some (i : Int)).bind _) = _
    rw [Option.bind_some, if_neg hne]
    have main : Tot (fun o => ∃ w : Nat, o.2 = (w : Int) ∧ w ≤ act.length ∧ o.1.length = act.length ∧ o.1.take w = act.filter (live s.from_)) (loop (slices_DeleteFunc.l1 act s) ((act, (i : Int), (wr .i64 ((i : Int) + (1 : Int)))) : (List alloc_span) × Int × Int)) := by
      refine loop_T (act.length - (i + 1)) (fun k z => z.2.2 = ((i + 1 + k : Nat) : Int) ∧ z.1.length = act.length ∧ ∃ w : Nat, z.2.1 = (w : Int) ∧ w < i + 1 + k ∧ z.1.take w = (act.take (i + 1 + k)).filter (live s.from_) ∧ z.1.drop (i + 1 + k) = act.drop (i + 1 + k)) (fun k z hk hz => ?_) (fun z hz => ?_) ⟨by rw [wr64 (by omega)]; simp, rfl, i, rfl, by omega, ?_, rfl⟩
      · obtain ⟨l, w, j⟩ := z
        obtain ⟨rfl, hl2, w, rfl, hw, ht, hd⟩ := hz
        simp only [] at hl2 ht hd
        have hx : gi l ((i + 1 + k : Nat) : Int) = gi act ((i + 1 + k : Nat) : Int) := by
          have e1 := congrArg (fun l => l[0]?) hd
          simp only [List.getElem?_drop, Nat.add_zero] at e1
          unfold gi
          rw [List.getD_eq_getElem?_getD, List.getD_eq_getElem?_getD, Int.toNat_natCast, e1]
        have hd2 : l.drop (i + 1 + (k + 1)) = act.drop (i + 1 + (k + 1)) := by
          have := congrArg (List.drop 1) hd
          simpa [List.drop_drop, Nat.add_assoc] using this
        have htk : act.take (i + 1 + (k + 1)) = act.take (i + 1 + k) ++ [gi act ((i + 1 + k : Nat) : Int)] := take_succ' (i := i + 1 + k) (by omega)
        unfold slices_DeleteFunc.l1
        dsimp only
        refine .tt (by omega) ?_
        refine Tot.gd (by omega) ?_
        refine Tot.gd (by omega) ?_
        refine Tot.let fun x hxx => ?_
        refine Tot.let fun r hr => ?_
        rw [hx] at hxx
        refine .ite (fun hlt => ?_) fun hge => ?_
        · refine Tot.let fun v hv => ?_
          rw [wr64 (by omega)] at hv
          refine .some ⟨by simp only []; omega, hl2, w, rfl, by omega, ?_, hd2⟩
          simp only []
          rw [htk, List.filter_append, ht]
          have : live s.from_ x = false := by simp [live, hlt]
          rw [← hxx, List.filter_cons_of_neg (by simp [this])]; simp
        · refine Tot.gd (by omega) ?_
          refine Tot.gd (by omega) ?_
          refine Tot.let fun u hu => ?_
          refine Tot.let fun v hv => ?_
          refine Tot.let fun v2 hv2 => ?_
          rw [wr64 (by omega)] at hv hv2
          rw [Int.toNat_natCast] at hu
          refine .some ⟨by simp only []; omega, by rw [hu]; simp [hl2], w + 1, by simp only []; omega, by omega, ?_, ?_⟩
          · simp only []
            rw [htk, List.filter_append, ← hxx]
            have : live s.from_ x = true := by simp [live, hge]
            rw [List.filter_cons_of_pos this, List.filter_nil, hu, take_succ' (by simp; omega), List.take_set_of_le (Nat.le_refl _), ht, gi_set (by omega) (by omega) (by omega), if_pos rfl]
          · simp only []
            rw [hu, List.drop_set_of_lt (by omega)]; exact hd2
      · obtain ⟨l, w, j⟩ := z
        obtain ⟨rfl, hl2, w, rfl, hw, ht, hd⟩ := hz
        simp only [] at hl2 ht hd
        unfold slices_DeleteFunc.l1
        dsimp only
        refine .ff (by omega) (.some ⟨w, rfl, by omega, hl2, ?_⟩)
        simp only []
        rw [ht, List.take_of_length_le (by omega)]
      · simp only []
        rw [take_succ' hi, List.filter_append, hkeep i (Nat.le_refl _)]
        have : live s.from_ (gi act i) = false := by
          have := of_decide_eq_true hp
          simp [live, this]
        rw [List.filter_cons_of_neg (by simp [this])]; simp
    obtain ⟨z, e, w, h3, h4, h5, h6⟩ := main
    rw [e, Option.bind_some, h3, if_pos (by omega)]
    simp only [letC]
    rw [if_pos (by omega)]
    simp only [Int.toNat_natCast, Nat.zero_add]
    congr 1
    rw [List.append_assoc, List.take_append_of_le_length (by simp; omega), List.take_take, Nat.min_self, h6]
  · show ((some (-1 : Int)).bind _) = _
    rw [Option.bind_some, if_pos rfl]
    congr 1
    rw [List.take_length, eq_comm, List.filter_eq_self]
    intro a ha
    obtain ⟨j, hj, rfl⟩ := mem_gi ha
    unfold live
    rw [hq j hj]; rfl
theorem delete_eq (all : List alloc_span) (k : Nat) (hk : k < all.length) (hl : all.length ≤ 400) : slices_Delete.m (k : Int) (wr .i64 ((k : Int) + 1)) all = some (all.eraseIdx k) := by
  unfold slices_Delete.m
  rw [wr64 (by omega), if_pos (by omega), if_neg (by omega), if_pos (by omega), if_pos (by omega)]
  simp only [letC]
  rw [if_pos (by omega)]
  congr 1
  have e1 : ((k : Int) + 1).toNat = k + 1 := by omega
  simp only [Int.toNat_natCast, e1, Nat.zero_add]
  have e2 : k + (all.length - (k + 1)) = all.length - 1 := by omega
  rw [e2, List.append_assoc, List.append_assoc, List.eraseIdx_eq_take_drop_succ]
  have hlen : (all.take k ++ (all.drop (k + 1)).take (all.length - (k + 1))).length = all.length - 1 := by simp; omega
  have h1 : (all.take k ++ ((all.drop (k + 1)).take (all.length - (k + 1)) ++ all.drop (all.length - 1))).take (all.length - 1) = all.take k ++ (all.drop (k + 1)).take (all.length - (k + 1)) := by
    rw [← List.append_assoc, ← hlen]; exact List.take_left
  rw [h1, List.take_append_of_le_length (by rw [hlen]; exact Nat.le_refl _), List.take_of_length_le (by rw [hlen]; exact Nat.le_refl _), List.take_of_length_le (l := all.drop (k + 1)) (by simp <;> omega)]
theorem clone_eq (l : List alloc_span) (hl : l.length ≤ 400) : slices_Clone_4.m l = some l := by
  unfold slices_Clone_4.m slices_Clone_3.m
  rw [if_pos (by simp; omega)]
  rfl
end Go.Proofs.Ytgjibbicplbgbaa.W
namespace Go.Proofs.Ytgjibbicplbgbaa.W
open Go Go.RowKit Go.Proofs.Ytgjibbicplbgbaa Go.Proofs.Ytgjibbicplbgbaa.X
open Go.Proofs.Ytgjibbicplbgbaa.B (wr aget aset loop loop_in loop_out loop_tot qf flt i2f feq fls isnan)

/-! ### weights -/
theorem feq_num {a b : Nat} (h : feq a b = true) : isnan a = false := by
  cases hn : isnan a
  · rfl
  · unfold feq at h
    rw [B.ord_l hn] at h
    cases h
theorem less_T (a b : Nat) : Tot (fun _ => True) (weight_Less.m a b) := by
  unfold weight_Less.m
  refine .bind (R := fun o => o = true → feq a (flt 0) = true ∧ feq b (flt 0) = true) (.ite (fun h => .some fun e => ⟨h, e⟩) fun h => .some fun e => by cases e) fun o ho => .ite (fun h => ?_) fun h => ?_
  · obtain ⟨h1, h2⟩ := ho h
    refine .bind (R := fun _ => True) ?_ fun _ _ => .ite (fun _ => .bind (R := fun _ => True) ?_ fun _ _ => .some trivial) fun _ => .some trivial
    · exact .gd (feq_num h1) (.some trivial)
    · exact .gd (feq_num h2) (.some trivial)
  · refine Tot.let fun v hv => ?_
    exact .some trivial
def lessB (a b : Nat) : Bool := (weight_Less.m a b).getD false
theorem less_eq (a b : Nat) : weight_Less.m a b = some (lessB a b) := by
  obtain ⟨r, e, _⟩ := less_T a b
  unfold lessB
  rw [e]; rfl
def wt (s : alloc_span) : Nat := alloc_weightOf.m s
/-- The first least one of the first i. -/
def lw (ws : List Nat) : Nat → Int
  | 0 => -1
  | i + 1 => if lw ws i < 0 then i else if lessB (gi ws i) (gi ws (lw ws i)) = true then i else lw ws i
theorem lw_b (ws : List Nat) : ∀ i, (i = 0 ∧ lw ws i = -1) ∨ (0 ≤ lw ws i ∧ lw ws i < i)
  | 0 => .inl ⟨rfl, rfl⟩
  | i + 1 => by
    right
    have := lw_b ws i
    simp only [lw]
    split
    · omega
    · split <;> omega
theorem least_w (ws : List Nat) (hl : ws.length ≤ 400) : weight_Least.m ws ws.length = some (lw ws ws.length) := by
  unfold weight_Least.m
  have := loop_st (f := weight_Least.l1 ws ws.length) ws.length (fun i => (lw ws i, (i : Int))) (lw ws ws.length) (fun i hi => ?_) ?_
  · rw [show (((-1), 0) : Int × Int) = (lw ws 0, ((0 : Nat) : Int)) from rfl, this]; rfl
  · have hb := lw_b ws i
    unfold weight_Least.l1
    dsimp only
    rw [if_pos (by omega), wr64 (by omega)]
    simp only [lw, letC]
    by_cases h0 : lw ws i < 0
    · rw [if_pos h0, if_pos h0]; rfl
    · rw [if_neg h0, if_neg h0, if_pos (by omega), if_pos (by omega), if_pos (by omega), if_pos (by omega), less_eq, Option.bind_some]
      cases lessB (gi ws i) (gi ws (lw ws i)) <;> rfl
  · unfold weight_Least.l1
    dsimp only
    rw [if_neg (by omega)]
theorem weights_eq (l : List alloc_span) (hl : l.length ≤ 400) : loop (alloc_Homes.l3 l) ((List.replicate l.length (0 : Nat), 0) : (List Nat) × Int) = some (l.map wt) := by
  have := loop_st (f := alloc_Homes.l3 l) l.length (fun i => ((l.take i).map wt ++ List.replicate (l.length - i) 0, (i : Int))) (l.map wt) (fun i hi => ?_) ?_
  · simpa using this
  · unfold alloc_Homes.l3
    dsimp only
    have hlen : ((l.take i).map wt ++ List.replicate (l.length - i) 0).length = l.length := by simp; omega
    rw [if_pos (by omega), if_pos (by omega)]
    simp only [letC]
    rw [if_pos (by omega), if_pos (by omega), wr64 (by omega), Int.toNat_natCast]
    congr 3
    rw [take_succ' hi, List.map_append, List.set_append_right _ _ (by simp; omega)]
    simp only [List.length_map, List.length_take, Nat.min_eq_left (Nat.le_of_lt hi), Nat.sub_self]
    obtain ⟨m, hm⟩ : ∃ m, l.length - i = m + 1 := ⟨l.length - i - 1, by omega⟩
    rw [hm, List.replicate_succ, List.set_cons_zero, show l.length - (i + 1) = m by omega]
    simp [wt]
  · unfold alloc_Homes.l3
    dsimp only
    rw [if_neg (by omega)]
    simp
/-! ### the list of homes grows -/
def ext (out : List api_Home) (d : Int) : List api_Home := out ++ List.replicate ((d + 1).toNat - out.length) ⟨-1, -1⟩
theorem ext_len (out : List api_Home) (d : Int) (h0 : 0 ≤ d) : d < (ext out d).length := by unfold ext; simp; omega
theorem ext_eq (x : api_Ins) (out : List api_Home) (hd : 0 ≤ x.D ∧ x.D < 400) : loop (alloc_Homes.l2 x) ((out, out.length) : (List api_Home) × Nat) = some (ext out x.D, (ext out x.D).length) := by
  have := loop_st (f := alloc_Homes.l2 x) ((x.D + 1).toNat - out.length) (fun k => (out ++ List.replicate k ⟨-1, -1⟩, (out ++ List.replicate k (⟨-1, -1⟩ : api_Home)).length)) (ext out x.D, (ext out x.D).length) (fun k hk => ?_) ?_
  · simpa using this
  · unfold alloc_Homes.l2
    dsimp only
    have hl : (out ++ List.replicate k (⟨-1, -1⟩ : api_Home)).length = out.length + k := by simp
    rw [if_pos (by rw [hl]; omega), if_pos rfl, if_pos (by rw [hl]; simp; omega)]
    simp only [letC]
    rw [List.append_assoc, show List.replicate k (⟨-1, -1⟩ : api_Home) ++ [⟨-1, -1⟩] = List.replicate (k + 1) ⟨-1, -1⟩ from List.replicate_succ'.symm]
  · unfold alloc_Homes.l2
    dsimp only
    rw [if_neg (by simp; omega)]
    rfl
/-! ### one piece after the other -/
structure HS where
  out : List api_Home
  act : List alloc_span
  slots : Int
/-- The span of what a piece makes. -/
def spn (code : List api_Ins) (j : Nat) : alloc_span := sp code (gi code j).D j
def hstep (code : List api_Ins) (regs : Int) (i : Nat) (st : HS) : HS :=
  if mks (gi code i) = true then
    let out := ext st.out (gi code i).D
    let act := st.act.filter (live (spn code i).from_)
    let all := act ++ [spn code i]
    if (act.length : Int) < regs then ⟨out.set (spn code i).temp.toNat ⟨least act out, 0⟩, all, st.slots⟩
    else
      let k := lw (all.map wt) all.length
      ⟨(out.set (spn code i).temp.toNat (gi out (gi all k).temp)).set (gi all k).temp.toNat ⟨-1, st.slots⟩, all.eraseIdx k.toNat, st.slots + 1⟩
  else st
def hs (code : List api_Ins) (regs : Int) : Nat → HS
  | 0 => ⟨[], [], 0⟩
  | i + 1 => hstep code regs i (hs code regs i)
theorem spn_t (code : List api_Ins) (j : Nat) : (spn code j).temp = (gi code j).D ∧ (spn code j).from_ = j ∧ (j : Int) ≤ (spn code j).to_ := by
  obtain ⟨h1, h2, _, _, h3, _⟩ := su_p code (gi code j).D j code.length
  exact ⟨h1, h2, h3⟩
/-- More temps are needed at a place than there are registers. -/
def Over (code : List api_Ins) (regs : Int) (m : Nat) : Prop := ∃ l : List alloc_span, regs < (l.length : Int) ∧ (l.map (·.temp)).Nodup ∧ ∀ a ∈ l, ∃ j : Nat, j ≤ m ∧ mks (gi code j) = true ∧ a = spn code j ∧ (m : Int) ≤ a.to_
def inSlot (h : api_Home) : Bool := decide (h.Reg < 0) && decide (0 ≤ h.Slot)
def isSlot (s : Int) (h : api_Home) : Bool := decide (h.Reg < 0) && decide (h.Slot = s)
/-- What holds of the homes of what the first i pieces make. -/
structure OI (code : List api_Ins) (regs : Int) (i : Nat) (out : List api_Home) (slots : Int) : Prop where
  o1 : out.length ≤ 400
  o2 : ∀ j : Nat, j < i → mks (gi code j) = true → (gi code j).D < out.length
  no : ∀ t : Int, 0 ≤ t → t < out.length → (∀ j : Nat, j < i → mks (gi code j) = true → (gi code j).D ≠ t) → gi out t = ⟨-1, -1⟩
  ye : ∀ j : Nat, j < i → mks (gi code j) = true → (0 ≤ (gi out (gi code j).D).Reg ∧ (gi out (gi code j).D).Reg < regs ∧ (gi out (gi code j).D).Slot = 0) ∨ ((gi out (gi code j).D).Reg = -1 ∧ 0 ≤ (gi out (gi code j).D).Slot ∧ (gi out (gi code j).D).Slot < slots)
  s0 : 0 ≤ slots ∧ slots ≤ i
  uq : ∀ t u : Int, 0 ≤ t → t < out.length → 0 ≤ u → u < out.length → (gi out t).Reg < 0 → (gi out u).Reg < 0 → (gi out t).Slot = (gi out u).Slot → 0 ≤ (gi out t).Slot → t = u
  ca : (out.countP inSlot : Int) = slots
  cs : ∀ s : Int, 0 ≤ s → s < slots → out.countP (isSlot s) = 1
/-- What holds of those that have a register. -/
structure AI (code : List api_Ins) (regs : Int) (i : Nat) (out : List api_Home) (act : List alloc_span) : Prop where
  ac : ∀ a ∈ act, ∃ j : Nat, j < i ∧ mks (gi code j) = true ∧ a = spn code j ∧ 0 ≤ reg out a
  al : (act.length : Int) ≤ regs
  nd : (act.map (·.temp)).Nodup
  rg : ∀ a ∈ act, ∀ b ∈ act, reg out a = reg out b → a = b
  ov : ∀ j : Nat, j < i → mks (gi code j) = true → 0 ≤ reg out (spn code j) → spn code j ∈ act ∨ (spn code j).to_ < i
  ap : ∀ j k : Nat, j < k → k < i → mks (gi code j) = true → mks (gi code k) = true → 0 ≤ reg out (spn code j) → reg out (spn code j) = reg out (spn code k) → (spn code j).to_ < k
structure HI (code : List api_Ins) (regs : Int) (i : Nat) (st : HS) : Prop where
  o : OI code regs i st.out st.slots
  a : AI code regs i st.out st.act
  en : st.slots = 0 ∨ ∃ m : Nat, m < i ∧ Over code regs m
theorem OI.lt {code : List api_Ins} {regs : Int} {i : Nat} {out : List api_Home} {slots : Int} (h : OI code regs i out slots) {t : Int} (h0 : 0 ≤ t) (h1 : t < out.length) (h2 : (gi out t).Reg < 0) : (gi out t).Slot < slots := by
  by_cases hc : ∀ j : Nat, j < i → mks (gi code j) = true → (gi code j).D ≠ t
  · rw [h.no t h0 h1 hc]
    have := h.s0
    show (-1 : Int) < slots
    omega
  · simp only [Classical.not_forall, Decidable.not_not] at hc
    obtain ⟨j, hj, hm, rfl⟩ := hc
    have := h.ye j hj hm
    omega
theorem OI.zero {code : List api_Ins} {regs : Int} {i : Nat} {out : List api_Home} {slots s : Int} (h : OI code regs i out slots) (hs : slots ≤ s) : out.countP (isSlot s) = 0 := by
  rw [List.countP_eq_zero]
  intro x hx
  obtain ⟨t, ht, rfl⟩ := mem_gi hx
  unfold isSlot
  intro e
  simp only [Bool.and_eq_true, decide_eq_true_eq] at e
  have := h.lt (t := t) (by omega) (by omega) e.1
  omega
theorem gi_ext {out : List api_Home} {d t : Int} (h0 : 0 ≤ t) : gi (ext out d) t = if t < out.length then gi out t else if t < (ext out d).length then ⟨-1, -1⟩ else default := by
  unfold ext gi
  simp only [List.getD_eq_getElem?_getD, List.getElem?_append]
  by_cases h : t < out.length
  · rw [if_pos h, if_pos (by omega)]
  · rw [if_neg h, if_neg (by omega), List.getElem?_replicate]
    by_cases h' : t < (out ++ List.replicate ((d + 1).toNat - out.length) (⟨-1, -1⟩ : api_Home)).length
    · rw [if_pos h', if_pos (by simp at h'; omega)]; rfl
    · rw [if_neg h', if_neg (by simp at h'; omega)]; rfl
theorem OI.ext {code : List api_Ins} {regs : Int} {i : Nat} {out : List api_Home} {slots d : Int} (h : OI code regs i out slots) (hg : Good code code.length) (hi : i ≤ code.length) (hd : 0 ≤ d ∧ d < 400) : OI code regs i (ext out d) slots := by
  have hle : out.length ≤ (W.ext out d).length := by unfold W.ext; simp
  have ho := h.o1
  have hlen : (W.ext out d).length ≤ 400 := by unfold W.ext; simp; omega
  have hold : ∀ {t : Int}, 0 ≤ t → t < out.length → gi (W.ext out d) t = gi out t := fun h0 h1 => by rw [gi_ext h0, if_pos h1]
  have hnew : ∀ {t : Int}, 0 ≤ t → ¬ t < out.length → t < (W.ext out d).length → gi (W.ext out d) t = ⟨-1, -1⟩ := fun h0 h1 h2 => by rw [gi_ext h0, if_neg h1, if_pos h2]
  refine ⟨hlen, fun j hj hm => by have := h.o2 j hj hm; omega, fun t h0 h1 hc => ?_, fun j hj hm => ?_, h.s0, fun t u t0 t1 u0 u1 ht hu he hs => ?_, ?_, fun s s0 s1 => ?_⟩
  · by_cases c : t < out.length
    · rw [hold h0 c]; exact h.no t h0 c hc
    · exact hnew h0 c h1
  · rw [hold (hg j (by omega) hm).1 (h.o2 j hj hm)]; exact h.ye j hj hm
  · by_cases ct : t < out.length
    · rw [hold t0 ct] at ht he hs
      by_cases cu : u < out.length
      · rw [hold u0 cu] at hu he; exact h.uq t u t0 ct u0 cu ht hu he hs
      · rw [hnew u0 cu u1] at he
        simp only [] at he; omega
    · rw [hnew t0 ct t1] at hs
      simp only [] at hs; omega
  · unfold W.ext
    rw [List.countP_append, List.countP_replicate]
    simpa [inSlot] using h.ca
  · unfold W.ext
    rw [List.countP_append, List.countP_replicate, h.cs s s0 s1, if_neg (by simp [isSlot]; omega)]
theorem AI.ext {code : List api_Ins} {regs : Int} {i : Nat} {out : List api_Home} {act : List alloc_span} {slots d : Int} (h : AI code regs i out act) (ho : OI code regs i out slots) (hg : Good code code.length) (hi : i ≤ code.length) : AI code regs i (ext out d) act := by
  have hr : ∀ j : Nat, j < i → mks (gi code j) = true → reg (W.ext out d) (spn code j) = reg out (spn code j) := fun j hj hm => by
    unfold reg
    rw [(spn_t code j).1, gi_ext (hg j (by omega) hm).1, if_pos (ho.o2 j hj hm)]
  refine ⟨fun a ha => ?_, h.al, h.nd, fun a ha b hb e => ?_, fun j hj hm h0 => ?_, fun j k hjk hk hm hm' h0 e => ?_⟩
  · obtain ⟨j, hj, hm, e, h0⟩ := h.ac a ha
    exact ⟨j, hj, hm, e, by rw [e, hr j hj hm, ← e]; exact h0⟩
  · obtain ⟨j, hj, hm, e1, _⟩ := h.ac a ha
    obtain ⟨k, hk, hm', e2, _⟩ := h.ac b hb
    rw [e1, e2, hr j hj hm, hr k hk hm', ← e1, ← e2] at e
    exact h.rg a ha b hb e
  · rw [hr j hj hm] at h0; exact h.ov j hj hm h0
  · rw [hr j (by omega) hm] at h0 e
    rw [hr k hk hm'] at e
    exact h.ap j k hjk hk hm hm' h0 e
theorem AI.live {code : List api_Ins} {regs : Int} {i : Nat} {out : List api_Home} {act : List alloc_span} (h : AI code regs i out act) : AI code regs i out (act.filter (live i)) := by
  have hm : ∀ {a}, a ∈ act.filter (W.live i) → a ∈ act := fun h => (List.mem_filter.1 h).1
  have hl := (List.filter_sublist (p := W.live i) (l := act)).length_le
  refine ⟨fun a ha => h.ac a (hm ha), by have := h.al; omega, (List.filter_sublist.map _).nodup h.nd, fun a ha b hb e => h.rg a (hm ha) b (hm hb) e, fun j hj hmk h0 => ?_, h.ap⟩
  rcases h.ov j hj hmk h0 with c | c
  · by_cases hlt : (spn code j).to_ < i
    · exact .inr hlt
    · exact .inl (List.mem_filter.2 ⟨c, by simp [W.live, hlt]⟩)
  · exact .inr c
theorem er {all : List alloc_span} (hn : (all.map (·.temp)).Nodup) {k : Nat} (hk : k < all.length) (a : alloc_span) : a ∈ all.eraseIdx k ↔ a ∈ all ∧ a ≠ gi all k := by
  rw [List.mem_eraseIdx_iff_getElem, gi_in hk]
  constructor
  · rintro ⟨i, hi, hne, rfl⟩
    refine ⟨List.getElem_mem hi, fun e => hne ?_⟩
    have h1 : (all.map (·.temp))[i]'(by simpa using hi) = (all.map (·.temp))[k]'(by simpa using hk) := by simp [e]
    exact (List.getElem_inj hn).1 h1
  · rintro ⟨ha, hne⟩
    obtain ⟨i, hi, rfl⟩ := List.getElem_of_mem ha
    exact ⟨i, hi, fun e => hne (by subst e; rfl), rfl⟩
end Go.Proofs.Ytgjibbicplbgbaa.W
namespace Go.Proofs.Ytgjibbicplbgbaa.W
open Go Go.RowKit Go.Proofs.Ytgjibbicplbgbaa Go.Proofs.Ytgjibbicplbgbaa.X
open Go.Proofs.Ytgjibbicplbgbaa.B (wr aget aset loop loop_in loop_out loop_tot qf flt i2f feq fls isnan)

section
variable {code : List api_Ins} {regs : Int} {i : Nat}
/-- Ahead of a piece that makes a temp. -/
structure Ahd (code : List api_Ins) (regs : Int) (i : Nat) (out : List api_Home) (act : List alloc_span) (slots : Int) : Prop where
  o : OI code regs i out slots
  a : AI code regs i out act
  en : slots = 0 ∨ ∃ m : Nat, m < i ∧ Over code regs m
  hi : i < code.length
  mm : mks (gi code i) = true
  dl : (gi code i).D < out.length
  lv : ∀ a ∈ act, (i : Int) ≤ a.to_
theorem pre_of {st : HS} (h : HI code regs i st) (hg : Good code code.length) (hi : i < code.length) (hm : mks (gi code i) = true) :
    Ahd code regs i (ext st.out (gi code i).D) (st.act.filter (live (spn code i).from_)) st.slots := by
  have hd := hg i hi hm
  refine ⟨h.o.ext hg (by omega) ⟨hd.1, hd.2.1⟩, ?_, h.en, hi, hm, ext_len _ _ hd.1, fun a ha => ?_⟩
  · rw [(spn_t code i).2.1]; exact (h.a.ext h.o hg (by omega)).live
  · have := (List.mem_filter.1 ha).2
    rw [(spn_t code i).2.1] at this
    simp only [live, Bool.not_eq_true', decide_eq_false_iff_not] at this
    omega
variable {out : List api_Home} {act : List alloc_span} {slots : Int}
theorem Ahd.ne (h : Ahd code regs i out act slots) (hg : Good code code.length) {j : Nat} (hj : j < i) (hm : mks (gi code j) = true) : (gi code j).D ≠ (gi code i).D := (hg i h.hi h.mm).2.2 j hj hm
theorem Ahd.inj (h : Ahd code regs i out act slots) (hg : Good code code.length) {j k : Nat} (hj : j ≤ i) (hk : k ≤ i) (hm : mks (gi code j) = true) (hm' : mks (gi code k) = true) (e : (gi code j).D = (gi code k).D) : j = k := by
  rcases Nat.lt_trichotomy j k with c | c | c
  · exact absurd e ((hg k (by have := h.hi; omega) hm').2.2 j c hm)
  · exact c
  · exact absurd e.symm ((hg j (by have := h.hi; omega) hm).2.2 k c hm')
theorem Ahd.d (h : Ahd code regs i out act slots) (hg : Good code code.length) : 0 ≤ (gi code i).D ∧ (gi code i).D < 400 := ⟨(hg i h.hi h.mm).1, (hg i h.hi h.mm).2.1⟩
theorem Ahd.free (h : Ahd code regs i out act slots) (hg : Good code code.length) : gi out (gi code i).D = ⟨-1, -1⟩ := h.o.no _ (h.d hg).1 h.dl fun j hj hm => h.ne hg hj hm
/-- The temps of those that are alive, and this one. -/
theorem Ahd.nodup (h : Ahd code regs i out act slots) (hg : Good code code.length) : ((act ++ [spn code i]).map (·.temp)).Nodup := by
  rw [List.map_append, List.nodup_append]
  refine ⟨h.a.nd, by simp, fun t ht u hu e => ?_⟩
  obtain ⟨a, ha, rfl⟩ := List.mem_map.1 ht
  simp only [List.map_cons, List.map_nil, List.mem_singleton] at hu
  obtain ⟨j, hj, hm, ea, _⟩ := h.a.ac a ha
  rw [hu, ea, (spn_t code j).1, (spn_t code i).1] at e
  exact h.ne hg hj hm e
theorem Ahd.over (h : Ahd code regs i out act slots) (hg : Good code code.length) (hr : regs ≤ (act.length : Int)) : Over code regs i := by
  refine ⟨act ++ [spn code i], by simp; omega, h.nodup hg, fun a ha => ?_⟩
  rcases List.mem_append.1 ha with ha | ha
  · obtain ⟨j, hj, hm, e, _⟩ := h.a.ac a ha
    exact ⟨j, by omega, hm, e, h.lv a ha⟩
  · simp only [List.mem_singleton] at ha
    subst ha
    exact ⟨i, Nat.le_refl _, h.mm, rfl, (spn_t code i).2.2⟩
theorem gi_setD {l : List api_Home} {d t : Int} {x : api_Home} (h0 : 0 ≤ d) (h1 : d < l.length) (t0 : 0 ≤ t) (t1 : t < l.length) : gi (l.set d.toNat x) t = if t = d then x else gi l t := by
  rw [gi_set (by omega) t0 t1]
  by_cases e : t = d
  · rw [if_pos e, if_pos (by omega)]
  · rw [if_neg e, if_neg (by omega)]
theorem countD {l : List api_Home} {d : Int} {x : api_Home} {p : api_Home → Bool} (h0 : 0 ≤ d) (h1 : d < l.length) (hp : p (gi l d) = false) : (l.set d.toNat x).countP p = l.countP p + if p x = true then 1 else 0 := by
  have hl : d.toNat < l.length := by omega
  rw [List.countP_set hl]
  have : l[d.toNat] = gi l d := by rw [← gi_in hl]; congr 1; omega
  rw [this, hp]
  simp
/-- A register is free. -/
theorem Ahd.stepA (h : Ahd code regs i out act slots) (hg : Good code code.length) (hr : (act.length : Int) < regs) :
    HI code regs (i + 1) ⟨out.set (spn code i).temp.toNat ⟨least act out, 0⟩, act ++ [spn code i], slots⟩ := by
  obtain ⟨r, er, rl, rh⟩ := least_ok act out
  obtain ⟨d0, d4⟩ := h.d hg
  have hdl := h.dl
  have hfree := h.free hg
  have hgi : ∀ {t : Int}, 0 ≤ t → t < out.length → gi (out.set (spn code i).temp.toNat ⟨least act out, 0⟩) t = if t = (gi code i).D then ⟨(r : Int), 0⟩ else gi out t := fun t0 t1 => by
    rw [(spn_t code i).1, gi_setD d0 hdl t0 t1, er]
  have hlen : (out.set (spn code i).temp.toNat ⟨least act out, 0⟩).length = out.length := by simp
  have hreg : ∀ {j : Nat}, j < i → mks (gi code j) = true → reg (out.set (spn code i).temp.toNat ⟨least act out, 0⟩) (spn code j) = reg out (spn code j) := fun {j} hj hm => by
    unfold reg
    rw [(spn_t code j).1, hgi (hg j (by have := h.hi; omega) hm).1 (h.o.o2 j hj hm), if_neg (h.ne hg hj hm)]
  have hregi : reg (out.set (spn code i).temp.toNat ⟨least act out, 0⟩) (spn code i) = r := by
    unfold reg
    rw [show (gi (out.set (spn code i).temp.toNat ⟨least act out, 0⟩) (spn code i).temp) = gi (out.set (spn code i).temp.toNat ⟨least act out, 0⟩) (gi code i).D by rw [(spn_t code i).1], hgi d0 hdl, if_pos rfl]
  have hno : ∀ a ∈ act, reg out a ≠ r := fun a ha e => by
    have : has act out r = true := List.any_eq_true.2 ⟨a, ha, by simp [e]⟩
    rw [rh] at this; cases this
  refine ⟨⟨by rw [hlen]; exact h.o.o1, fun j hj hm => ?_, fun t t0 t1 hc => ?_, fun j hj hm => ?_, by have := h.o.s0; simp only []; omega, fun t u t0 t1 u0 u1 ht hu e hs => ?_, ?_, fun s s0 s1 => ?_⟩, ⟨fun a ha => ?_, by simp; omega, h.nodup hg, fun a ha b hb e => ?_, fun j hj hm h0 => ?_, fun j k hjk hk hm hm' h0 e => ?_⟩, ?_⟩
  · rw [hlen]
    by_cases e : j = i
    · subst e; exact hdl
    · exact h.o.o2 j (by omega) hm
  · rw [hlen] at t1
    simp only []
    rw [hgi t0 t1, if_neg (fun e => hc i (by omega) h.mm e.symm)]
    exact h.o.no t t0 t1 fun j hj hm => hc j (by omega) hm
  · simp only []
    by_cases e : j = i
    · subst e
      rw [hgi d0 hdl, if_pos rfl]
      exact .inl ⟨by simp only []; omega, by simp only []; omega, rfl⟩
    · rw [hgi (hg j (by have := h.hi; omega) hm).1 (h.o.o2 j (by omega) hm), if_neg (h.ne hg (by omega) hm)]
      exact h.o.ye j (by omega) hm
  · simp only [] at t1 u1 ht hu e hs
    rw [hlen] at t1 u1
    rw [hgi t0 t1] at ht hs e
    rw [hgi u0 u1] at hu e
    by_cases c1 : t = (gi code i).D
    · rw [if_pos c1] at ht; simp only [] at ht; omega
    · by_cases c2 : u = (gi code i).D
      · rw [if_pos c2] at hu; simp only [] at hu; omega
      · rw [if_neg c1] at ht hs e
        rw [if_neg c2] at hu e
        exact h.o.uq t u t0 t1 u0 u1 ht hu e hs
  · simp only []
    rw [(spn_t code i).1, er, countD d0 hdl (by rw [hfree]; rfl)]
    rw [if_neg (by simp [inSlot] <;> omega)]
    exact h.o.ca
  · simp only [] at s1 ⊢
    rw [(spn_t code i).1, er, countD d0 hdl (by rw [hfree]; simp [isSlot]; omega), if_neg (by simp [isSlot]; omega)]
    exact h.o.cs s s0 s1
  · rcases List.mem_append.1 ha with ha | ha
    · obtain ⟨j, hj, hm, e, h0⟩ := h.a.ac a ha
      refine ⟨j, by omega, hm, e, ?_⟩
      simp only []
      rw [e, hreg hj hm, ← e]; exact h0
    · simp only [List.mem_singleton] at ha
      subst ha
      exact ⟨i, by omega, h.mm, rfl, by simp only []; rw [hregi]; omega⟩
  · simp only [] at e
    rcases List.mem_append.1 ha with ha | ha <;> rcases List.mem_append.1 hb with hb | hb
    · obtain ⟨j, hj, hm, e1, _⟩ := h.a.ac a ha
      obtain ⟨k, hk, hm', e2, _⟩ := h.a.ac b hb
      rw [e1, e2, hreg hj hm, hreg hk hm', ← e1, ← e2] at e
      exact h.a.rg a ha b hb e
    · simp only [List.mem_singleton] at hb
      obtain ⟨j, hj, hm, e1, _⟩ := h.a.ac a ha
      rw [e1, hb, hreg hj hm, hregi, ← e1] at e
      exact absurd e (hno a ha)
    · simp only [List.mem_singleton] at ha
      obtain ⟨j, hj, hm, e1, _⟩ := h.a.ac b hb
      rw [e1, ha, hreg hj hm, hregi, ← e1] at e
      exact absurd e.symm (hno b hb)
    · simp only [List.mem_singleton] at ha hb
      rw [ha, hb]
  · simp only [] at h0 ⊢
    by_cases e : j = i
    · subst e; exact .inl (by simp)
    · rw [hreg (by omega) hm] at h0
      rcases h.a.ov j (by omega) hm h0 with c | c
      · exact .inl (by simp [c])
      · exact .inr (by omega)
  · simp only [] at h0 e
    rw [hreg (by omega) hm] at h0 e
    by_cases c : k = i
    · subst c
      rw [hregi] at e
      rcases h.a.ov j hjk hm h0 with c | c
      · exact absurd e (hno _ c)
      · exact c
    · rw [hreg (by omega) hm'] at e
      exact h.a.ap j k hjk (by omega) hm hm' h0 e
  · rcases h.en with c | ⟨m, hm, c⟩
    · exact .inl c
    · exact .inr ⟨m, by omega, c⟩
/-- None is free: one of them goes into a slot. -/
theorem Ahd.stepB (h : Ahd code regs i out act slots) (hg : Good code code.length) (hr : regs ≤ (act.length : Int)) {k : Nat} (hk : k < (act ++ [spn code i]).length) :
    HI code regs (i + 1) ⟨(out.set (spn code i).temp.toNat (gi out (gi (act ++ [spn code i]) k).temp)).set (gi (act ++ [spn code i]) k).temp.toNat ⟨-1, slots⟩, (act ++ [spn code i]).eraseIdx k, slots + 1⟩ := by
  obtain ⟨d0, d4⟩ := h.d hg
  have hdl := h.dl
  have hfree := h.free hg
  have hnd := h.nodup hg
  have hmem : gi (act ++ [spn code i]) k ∈ act ++ [spn code i] := gi_mem (by omega) (by omega)
  have her := er hnd hk
  generalize he : gi (act ++ [spn code i]) (k : Int) = e at *
  have hsl := h.o.s0
  -- which one it is
  obtain ⟨j0, hj0, hm0, e0, hcase⟩ : ∃ j0 : Nat, j0 ≤ i ∧ mks (gi code j0) = true ∧ e = spn code j0 ∧ ((j0 = i) ∨ (j0 < i ∧ e ∈ act ∧ 0 ≤ reg out e)) := by
    rcases List.mem_append.1 hmem with hm | hm
    · obtain ⟨j, hj, hmk, e1, h0⟩ := h.a.ac e hm
      exact ⟨j, by omega, hmk, e1, .inr ⟨hj, hm, h0⟩⟩
    · simp only [List.mem_singleton] at hm
      exact ⟨i, Nat.le_refl _, h.mm, hm, .inl rfl⟩
  have et : e.temp = (gi code j0).D := by rw [e0, (spn_t code j0).1]
  have g0 : 0 ≤ (gi code j0).D := (hg j0 (by have := h.hi; omega) hm0).1
  have g1 : (gi code j0).D < out.length := by
    rcases hcase with rfl | ⟨c, _⟩
    · exact hdl
    · exact h.o.o2 j0 c hm0
  have hs_t := (spn_t code i).1
  -- what stands there
  have hgi : ∀ {t : Int}, 0 ≤ t → t < out.length → gi ((out.set (spn code i).temp.toNat (gi out e.temp)).set e.temp.toNat ⟨-1, slots⟩) t = if t = (gi code j0).D then ⟨-1, slots⟩ else if t = (gi code i).D then gi out (gi code j0).D else gi out t := fun t0 t1 => by
    rw [et, hs_t, gi_setD g0 (by simpa using g1) t0 (by simpa using t1), gi_setD d0 hdl t0 t1]
  have hlen : ((out.set (spn code i).temp.toNat (gi out e.temp)).set e.temp.toNat ⟨-1, slots⟩).length = out.length := by simp
  generalize ho2 : (out.set (spn code i).temp.toNat (gi out e.temp)).set e.temp.toNat ⟨-1, slots⟩ = out2 at *
  have hne : j0 ≠ i → (gi code i).D ≠ (gi code j0).D := fun c e => h.ne hg (by omega : j0 < i) hm0 e.symm
  -- the count
  have hold : ∀ p : api_Home → Bool, p ⟨-1, -1⟩ = false → p (gi out (gi code j0).D) = false → out2.countP p = out.countP p + if p ⟨-1, slots⟩ = true then 1 else 0 := by
    intro p p1 p2
    rw [← ho2, et, hs_t, countD g0 (by simpa using g1), countD d0 hdl (by rw [hfree]; exact p1), p2]
    · simp
    · rw [gi_setD d0 hdl g0 g1]
      split <;> exact p2
  have hv : gi out (gi code j0).D = ⟨-1, -1⟩ ∨ (0 ≤ (gi out (gi code j0).D).Reg ∧ (gi out (gi code j0).D).Reg < regs ∧ (gi out (gi code j0).D).Slot = 0 ∧ j0 < i ∧ e ∈ act ∧ reg out e = (gi out (gi code j0).D).Reg) := by
    rcases hcase with rfl | ⟨c, hm, h0⟩
    · exact .inl hfree
    · right
      unfold reg at h0 ⊢
      rw [et] at h0 ⊢
      rcases h.o.ye j0 c hm0 with y | y
      · exact ⟨y.1, y.2.1, y.2.2, c, hm, rfl⟩
      · omega
  have hp : ∀ s : Int, 0 ≤ s → isSlot s (gi out (gi code j0).D) = false := fun s hs => by
    rcases hv with v | v
    · rw [v]; simp [isSlot]; omega
    · simp [isSlot]; omega
  have hpi : inSlot (gi out (gi code j0).D) = false := by
    rcases hv with v | v
    · rw [v]; rfl
    · simp [inSlot]; omega
  have hD : ∀ {j : Nat}, j ≤ i → mks (gi code j) = true → (gi code j).D < out.length := fun {j} hj hm => by
    by_cases c : j = i
    · subst c; exact hdl
    · exact h.o.o2 j (by omega) hm
  have hD0 : ∀ {j : Nat}, j ≤ i → mks (gi code j) = true → 0 ≤ (gi code j).D := fun {j} hj hm => (hg j (by have := h.hi; omega) hm).1
  have hreg : ∀ {j : Nat}, j ≤ i → mks (gi code j) = true → reg out2 (spn code j) = if j = j0 then -1 else if j = i then (gi out (gi code j0).D).Reg else reg out (spn code j) := fun {j} hj hm => by
    unfold reg
    rw [(spn_t code j).1, hgi (hD0 hj hm) (hD hj hm)]
    by_cases c : j = j0
    · subst c; rw [if_pos rfl, if_pos rfl]
    · rw [if_neg c, if_neg (fun e => c (h.inj hg hj hj0 hm hm0 e))]
      by_cases c2 : j = i
      · subst c2; rw [if_pos rfl, if_pos rfl]
      · rw [if_neg c2, if_neg (fun e => c2 (h.inj hg hj (Nat.le_refl _) hm h.mm e))]
  -- membership
  have hin : ∀ {a}, a ∈ (act ++ [spn code i]).eraseIdx k → ∃ j : Nat, j ≤ i ∧ mks (gi code j) = true ∧ a = spn code j ∧ j ≠ j0 ∧ (j = i ∨ (j < i ∧ a ∈ act ∧ 0 ≤ reg out a)) := fun {a} ha => by
    obtain ⟨h1, h2⟩ := (her a).1 ha
    rcases List.mem_append.1 h1 with hm | hm
    · obtain ⟨j, hj, hmk, e1, h0⟩ := h.a.ac a hm
      exact ⟨j, by omega, hmk, e1, fun c => h2 (by rw [e1, c, ← e0]), .inr ⟨hj, hm, h0⟩⟩
    · simp only [List.mem_singleton] at hm
      exact ⟨i, Nat.le_refl _, h.mm, hm, fun c => h2 (by rw [hm, c, ← e0]), .inl rfl⟩
  have hregA : ∀ {a}, a ∈ (act ++ [spn code i]).eraseIdx k → 0 ≤ reg out2 a := fun {a} ha => by
    obtain ⟨j, hj, hm, e1, hne', hc⟩ := hin ha
    rw [e1, hreg hj hm, if_neg hne']
    rcases hc with rfl | ⟨hji, ham, h0⟩
    · rw [if_pos rfl]
      rcases hv with v | v
      · rcases hcase with c | ⟨c, hm, h0⟩
        · exact absurd c.symm hne'
        · unfold reg at h0; rw [et, v] at h0; simp only [] at h0; omega
      · exact v.1
    · rw [if_neg (by omega), ← e1]; exact h0
  refine ⟨⟨by rw [hlen]; exact h.o.o1, fun j hj hm => by rw [hlen]; exact hD (by omega) hm, fun t t0 t1 hc => ?_, fun j hj hm => ?_, by simp only []; omega, fun t u t0 t1 u0 u1 ht hu e' hs => ?_, ?_, fun s s0 s1 => ?_⟩, ⟨fun a ha => ?_, ?_, ?_, fun a ha b hb e' => ?_, fun j hj hm h0 => ?_, fun j k' hjk hk' hm hm' h0 e' => ?_⟩, .inr ⟨i, by omega, h.over hg hr⟩⟩
  · simp only [] at t1 ⊢
    rw [hlen] at t1
    rw [hgi t0 t1, if_neg (fun c => hc j0 (by omega) hm0 c.symm), if_neg (fun c => hc i (by omega) h.mm c.symm)]
    exact h.o.no t t0 t1 fun j hj hm => hc j (by omega) hm
  · simp only []
    rw [hgi (hD0 (by omega) hm) (hD (by omega) hm)]
    by_cases c : (gi code j).D = (gi code j0).D
    · rw [if_pos c]
      exact .inr ⟨rfl, by simp only []; omega, by simp only []; omega⟩
    · rw [if_neg c]
      by_cases c2 : (gi code j).D = (gi code i).D
      · rw [if_pos c2]
        rcases hv with v | v
        · exfalso
          rcases hcase with c3 | ⟨c3, hme, h0⟩
          · exact c (by rw [c2, c3])
          · unfold reg at h0; rw [et, v] at h0; simp only [] at h0; omega
        · exact .inl ⟨v.1, v.2.1, v.2.2.1⟩
      · rw [if_neg c2]
        have hji : j ≠ i := fun c => c2 (by rw [c])
        rcases h.o.ye j (by omega) hm with y | y
        · exact .inl y
        · exact .inr ⟨y.1, y.2.1, by omega⟩
  · simp only [] at t1 u1 ht hu e' hs
    rw [hlen] at t1 u1
    rw [hgi t0 t1] at ht hs e'
    rw [hgi u0 u1] at hu e'
    have key : ∀ {u : Int}, 0 ≤ u → u < out.length → u ≠ (gi code j0).D → (if u = (gi code i).D then gi out (gi code j0).D else gi out u).Reg < 0 → 0 ≤ (if u = (gi code i).D then gi out (gi code j0).D else gi out u).Slot → (if u = (gi code i).D then gi out (gi code j0).D else gi out u).Slot < slots ∧ u ≠ (gi code i).D := by
      intro u u0 u1 hu0 h1 h2
      by_cases c : u = (gi code i).D
      · rw [if_pos c] at h1 h2
        rcases hv with v | v
        · rw [v] at h2; simp only [] at h2; omega
        · omega
      · rw [if_neg c] at h1 ⊢
        exact ⟨h.o.lt u0 u1 h1, c⟩
    by_cases c1 : t = (gi code j0).D <;> by_cases c2 : u = (gi code j0).D
    · rw [c1, c2]
    · rw [if_pos c1] at hs e'
      rw [if_neg c2] at hu e'
      simp only [] at e' hs
      have := key u0 u1 c2 hu (by omega)
      omega
    · rw [if_neg c1] at ht hs e'
      rw [if_pos c2] at e'
      simp only [] at e'
      have := key t0 t1 c1 ht hs
      omega
    · rw [if_neg c1] at ht hs e'
      rw [if_neg c2] at hu e'
      have k1 := key t0 t1 c1 ht hs
      have k2 := key u0 u1 c2 hu (by omega)
      rw [if_neg k1.2] at ht hs e'
      rw [if_neg k2.2] at hu e'
      exact h.o.uq t u t0 t1 u0 u1 ht hu e' hs
  · simp only []
    rw [hold inSlot rfl hpi, if_pos (by simp [inSlot]; omega)]
    have := h.o.ca
    omega
  · simp only [] at s1 ⊢
    rw [hold (isSlot s) (by simp [isSlot]; omega) (hp s s0)]
    by_cases c : s = slots
    · subst c
      rw [h.o.zero (Int.le_refl _), if_pos (by simp [isSlot])]
    · rw [h.o.cs s s0 (by omega), if_neg (by simp [isSlot]; omega)]
  · obtain ⟨j, hj, hm, e1, _, _⟩ := hin ha
    exact ⟨j, by omega, hm, e1, hregA ha⟩
  · simp only []
    rw [List.length_eraseIdx, if_pos hk]
    have := h.a.al
    simp; omega
  · exact ((List.eraseIdx_sublist _ _).map _).nodup hnd
  · simp only [] at e'
    obtain ⟨j, hj, hm, e1, n1, c1⟩ := hin ha
    obtain ⟨l, hl, hm', e2, n2, c2⟩ := hin hb
    rw [e1, e2, hreg hj hm, hreg hl hm', if_neg n1, if_neg n2] at e'
    have bad : ∀ {b : alloc_span} {l : Nat}, b = spn code l → l ≠ j0 → b ∈ act → j0 ≠ i → (gi out (gi code j0).D).Reg ≠ reg out b := fun {b l} e2 n2 hb hji e' => by
      rcases hcase with c | ⟨c, hme, h0⟩
      · exact hji c
      · have : reg out e = reg out b := by rw [← e']; unfold reg; rw [et]
        have := h.a.rg e hme b hb this
        rw [e0, e2] at this
        have h1 := congrArg alloc_span.from_ this
        rw [(spn_t code j0).2.1, (spn_t code l).2.1] at h1
        exact n2 (by omega)
    rcases c1 with rfl | ⟨hji, ham, _⟩ <;> rcases c2 with rfl | ⟨hli, hbm, _⟩
    · rw [e1, e2]
    · rw [if_pos rfl, if_neg (by omega), ← e2] at e'
      exact absurd e' (bad e2 n2 hbm (fun c => n1 c.symm))
    · rw [if_neg (by omega), if_pos rfl, ← e1] at e'
      exact absurd e'.symm (bad e1 n1 ham (fun c => n2 c.symm))
    · rw [if_neg (by omega), if_neg (by omega), ← e1, ← e2] at e'
      exact h.a.rg a ham b hbm e'
  · simp only [] at h0 ⊢
    rw [hreg (by omega) hm] at h0
    by_cases c : j = j0
    · rw [if_pos c] at h0; omega
    · rw [if_neg c] at h0
      have hnot : spn code j ≠ e := fun c2 => by
        rw [e0] at c2
        have h1 := congrArg alloc_span.from_ c2
        rw [(spn_t code j0).2.1, (spn_t code j).2.1] at h1
        exact c (by omega)
      by_cases c2 : j = i
      · subst c2; exact .inl ((her _).2 ⟨by simp, hnot⟩)
      · rw [if_neg c2] at h0
        rcases h.a.ov j (by omega) hm h0 with c3 | c3
        · exact .inl ((her _).2 ⟨by simp [c3], hnot⟩)
        · exact .inr (by omega)
  · simp only [] at h0 e'
    rw [hreg (by omega) hm] at h0 e'
    rw [hreg (by omega) hm'] at e'
    by_cases c : j = j0
    · rw [if_pos c] at h0; omega
    · rw [if_neg c, if_neg (by omega)] at h0 e'
      by_cases c2 : k' = j0
      · rw [if_pos c2] at e'; omega
      · rw [if_neg c2] at e'
        by_cases c3 : k' = i
        · subst c3
          rw [if_pos rfl] at e'
          rcases hcase with c4 | ⟨c4, hme, h0e⟩
          · exact absurd c4.symm c2
          · rcases h.a.ov j hjk hm h0 with c5 | c5
            · exfalso
              have : reg out (spn code j) = reg out e := by rw [e']; unfold reg; rw [et]
              have := h.a.rg _ c5 e hme this
              rw [e0] at this
              have h1 := congrArg alloc_span.from_ this
              rw [(spn_t code j0).2.1, (spn_t code j).2.1] at h1
              exact c (by omega)
            · exact c5
        · rw [if_neg c3] at e'
          exact h.a.ap j k' hjk (by omega) hm hm' h0 e'
end
end Go.Proofs.Ytgjibbicplbgbaa.W
namespace Go.Proofs.Ytgjibbicplbgbaa.W
open Go Go.RowKit Go.Proofs.Ytgjibbicplbgbaa Go.Proofs.Ytgjibbicplbgbaa.X
open Go.Proofs.Ytgjibbicplbgbaa.B (wr aget aset loop loop_in loop_out loop_tot qf flt i2f feq fls isnan)

/-- The state of alloc.Homes's loop. -/
def stT (code : List api_Ins) (regs : Int) (i : Nat) : (List api_Home) × Nat × (List alloc_span) × Int × Int := ((hs code regs i).out, (hs code regs i).out.length, (hs code regs i).act, (hs code regs i).slots, (i : Int))
theorem homes_step {code : List api_Ins} {regs : Int} (hn : code.length ≤ 400) (hg : Good code code.length) (hr : 1 ≤ regs ∧ regs ≤ 8) {i : Nat} (hi : i < code.length) (h : HI code regs i (hs code regs i)) :
    alloc_Homes.l1 code regs (stT code regs i) = some (.inl (stT code regs (i + 1))) ∧ HI code regs (i + 1) (hs code regs (i + 1)) := by
  have hst : hs code regs (i + 1) = hstep code regs i (hs code regs i) := rfl
  unfold stT
  rw [hst]
  generalize hs code regs i = st at *
  unfold alloc_Homes.l1
  dsimp only
  rw [if_pos (by omega), if_pos (by omega)]
  simp only [letC]
  rw [show alloc_makes.m (gi code i) = mks (gi code i) from rfl]
  by_cases hm : mks (gi code i) = true
  · have hp := pre_of h hg hi hm
    have hat : At code (gi code i).D i := by
      refine ⟨hi, by simp [mkt, hm], fun j hj => ?_⟩
      cases hmj : mks (gi code j)
      · simp [mkt, hmj]
      · have := hp.ne hg hj hmj
        simp [mkt, hmj, this]
    have hspan : alloc_spanOf.m code (gi code i).D = some (spn code i, true) := by
      rcases span_eq code (gi code i).D hn with ⟨k, hk, e⟩ | ⟨hk, _⟩
      · rw [e, hk.uniq hat]; rfl
      · have := hk i hi; rw [hat.2.1] at this; cases this
    have hact := h.a.al
    rw [if_pos hm, ext_eq _ _ (hp.d hg), Option.bind_some]
    dsimp only
    rw [hspan, Option.bind_some, del_eq _ _ (by omega), Option.bind_some]
    unfold hstep
    rw [if_pos hm]
    dsimp only
    have hal := hp.a.al
    have hol := hp.o.o1
    have hdl := hp.dl
    have hd := hp.d hg
    have hnd := hp.nodup hg
    have hac := hp.a.ac
    have hstA := hp.stepA hg
    have hstB := hp.stepB hg
    have ht := (spn_t code i).1
    have hfree := hp.free hg
    have hbt : ∀ a ∈ st.act.filter (live (spn code i).from_), 0 ≤ a.temp ∧ a.temp < (ext st.out (gi code i).D).length := fun a ha => by
      obtain ⟨j, hj, hmj, e, _⟩ := hac a ha
      rw [e, (spn_t code j).1]
      exact ⟨(hg j (by omega) hmj).1, hp.o.o2 j hj hmj⟩
    generalize ho : ext st.out (gi code i).D = out at *
    generalize hac' : st.act.filter (live (spn code i).from_) = act at *
    rw [clone_eq _ (by omega), Option.bind_some, if_pos (by simp; omega)]
    by_cases hf : (act.length : Int) < regs
    · rw [if_pos hf, if_pos hf, least_eq act out hbt (by omega), Option.bind_some, if_pos (by rw [ht]; omega), if_pos (by rw [ht]; omega), wr64 (by omega)]
      exact ⟨by simp, hstA hf⟩
    · rw [if_neg hf, if_neg hf]
      have hal1 : (act ++ [spn code i]).length = act.length + 1 := by simp
      generalize hall : act ++ [spn code i] = all at *
      have hw := weights_eq all (by omega)
      have hlw := least_w (all.map wt) (by simp; omega)
      have hb := lw_b (all.map wt) all.length
      simp only [List.length_map] at hlw
      have hk0 : 0 ≤ lw (all.map wt) all.length ∧ lw (all.map wt) all.length < all.length := by omega
      generalize lw (all.map wt) all.length = k at *
      obtain ⟨k, rfl⟩ : ∃ n : Nat, k = n := ⟨k.toNat, by omega⟩
      have hmem : gi all (k : Int) ∈ all := gi_mem (by omega) (by omega)
      have hbe : 0 ≤ (gi all (k : Int)).temp ∧ (gi all (k : Int)).temp < out.length := by
        rw [← hall] at hmem
        rcases List.mem_append.1 hmem with h1 | h1
        · rw [hall] at h1; exact hbt _ h1
        · simp only [List.mem_singleton] at h1
          rw [← hall, h1, ht]; omega
      have hsl := h.o.s0
      rw [if_pos (by omega), Int.toNat_natCast, hw, Option.bind_some, hlw, Option.bind_some, if_pos (by omega), if_pos hbe, if_pos hbe, if_pos (by rw [ht]; omega), if_pos (by rw [ht]; omega), if_pos hbe, if_pos (by simpa using hbe), delete_eq all k (by omega) (by omega), Option.bind_some, wr64 (by omega), wr64 (by omega), Int.toNat_natCast]
      exact ⟨by simp, hstB (by omega) (by omega)⟩
  · rw [if_neg hm]
    unfold hstep
    rw [if_neg hm, wr64 (by omega)]
    refine ⟨rfl, ⟨⟨h.o.o1, fun j hj hmj => ?_, fun t t0 t1 hc => h.o.no t t0 t1 fun j hj => hc j (by omega), fun j hj hmj => ?_, by have := h.o.s0; omega, h.o.uq, h.o.ca, h.o.cs⟩, ⟨fun a ha => ?_, h.a.al, h.a.nd, h.a.rg, fun j hj hmj h0 => ?_, fun j k hjk hk hmj hmk h0 e => ?_⟩, ?_⟩⟩
    · have : j ≠ i := by rintro rfl; exact hm hmj
      exact h.o.o2 j (by omega) hmj
    · have : j ≠ i := by rintro rfl; exact hm hmj
      exact h.o.ye j (by omega) hmj
    · obtain ⟨j, hj, r⟩ := h.a.ac a ha
      exact ⟨j, by omega, r⟩
    · have : j ≠ i := by rintro rfl; exact hm hmj
      rcases h.a.ov j (by omega) hmj h0 with c | c
      · exact .inl c
      · exact .inr (by omega)
    · have : k ≠ i := by rintro rfl; exact hm hmk
      exact h.a.ap j k hjk (by omega) hmj hmk h0 e
    · rcases h.en with c | ⟨m, hm', c⟩
      · exact .inl c
      · exact .inr ⟨m, by omega, c⟩
theorem hs_ok {code : List api_Ins} {regs : Int} (hn : code.length ≤ 400) (hg : Good code code.length) (hr : 1 ≤ regs ∧ regs ≤ 8) : ∀ i, i ≤ code.length → HI code regs i (hs code regs i)
  | 0, _ => ⟨⟨by simp [hs], fun j hj => by omega, fun t t0 t1 => by simp [hs] at t1; omega, fun j hj => by omega, by simp [hs], fun t u t0 t1 => by simp [hs] at t1; omega, by simp [hs], fun s s0 s1 => by simp [hs] at s1; omega⟩,
      ⟨fun a ha => by simp [hs] at ha, by simp [hs]; omega, by simp [hs], fun a ha => by simp [hs] at ha, fun j hj => by omega, fun j k hjk hk => by omega⟩, .inl rfl⟩
  | i + 1, hi => (homes_step hn hg hr (by omega) (hs_ok hn hg hr i (by omega))).2
/-- What alloc.Homes answers. -/
theorem homes_T (code : List api_Ins) (l : List api_Loc) (regs : Int) (hn : code.length ≤ 400) (hl : l.length ≤ 16) :
    Tot (fun r => match r with
      | .inl n => n = 1 ∨ n = 3
      | .inr z => Good code code.length ∧ 1 ≤ regs ∧ regs ≤ 8 ∧ z = ((hs code regs code.length).out, (hs code regs code.length).out.length) ∧ HI code regs code.length (hs code regs code.length)) (alloc_Homes.m code l regs) := by
  unfold alloc_Homes.m
  refine .bind (right_T code l hn hl) fun b hb => .ite (fun hbt => ?_) fun _ => .some (.inr rfl)
  have hg := hb hbt
  refine .bind (R := fun b => b = false → 1 ≤ regs ∧ regs ≤ 8) (.ite (fun _ => .some fun e => by cases e) fun h1 => .some fun e => ?_) fun b hb => .ite (fun _ => .some (.inl rfl)) fun hbf => ?_
  · have := of_decide_eq_false e
    omega
  · have hr := hb (by simpa using hbf)
    have := loop_st (f := alloc_Homes.l1 code regs) code.length (stT code regs) ((hs code regs code.length).out, (hs code regs code.length).out.length) (fun i hi => (homes_step hn hg hr hi (hs_ok hn hg hr i (by omega))).1) (by
      unfold stT alloc_Homes.l1
      dsimp only
      rw [if_neg (by omega)])
    exact .bindE (y := ((hs code regs code.length).out, (hs code regs code.length).out.length)) this (.some ⟨hg, hr.1, hr.2, rfl, hs_ok hn hg hr _ (Nat.le_refl _)⟩)
end Go.Proofs.Ytgjibbicplbgbaa.W
namespace Go.Proofs.Ytgjibbicplbgbaa.W
open Go Go.RowKit Go.Proofs.Ytgjibbicplbgbaa Go.Proofs.Ytgjibbicplbgbaa.X
open Go.Proofs.Ytgjibbicplbgbaa.B (wr aget aset loop loop_in loop_out loop_tot qf flt i2f feq fls isnan)

theorem span_c {code : List api_Ins} (hn : code.length ≤ 400) (t : Int) :
    (∃ j : Nat, j < code.length ∧ mks (gi code j) = true ∧ (gi code j).D = t ∧ alloc_Span.m code t = some ((j : Int), (spn code j).to_, true)) ∨
    ((∀ j : Nat, j < code.length → mks (gi code j) = true → (gi code j).D ≠ t) ∧ alloc_Span.m code t = some (0, 0, false)) := by
  unfold alloc_Span.m
  rcases span_eq code t hn with ⟨j, hj, e⟩ | ⟨hj, e⟩
  · have hm := hj.2.1
    simp only [mkt, Bool.and_eq_true, decide_eq_true_eq] at hm
    refine .inl ⟨j, hj.1, hm.1, hm.2, ?_⟩
    rw [e, Option.bind_some, ← hm.2]
    have := (spn_t code j).2.1
    unfold spn at this ⊢
    rw [this]
  · refine .inr ⟨fun j hj' hm e' => ?_, by rw [e]; rfl⟩
    have := hj j hj'
    simp [mkt, hm, e'] at this
theorem count_loop {out : List api_Home} {p : api_Home → Bool} {f : Int × Int → Option ((Int × Int) ⊕ Int)} (h1 : ∀ (i : Nat) (n : Int), i < out.length → 0 ≤ n → n ≤ i → f (n, (i : Int)) = some (.inl (if p (gi out i) = true then n + 1 else n, ((i + 1 : Nat) : Int)))) (h2 : ∀ n : Int, f (n, (out.length : Int)) = some (.inr n)) :
    loop f ((0, 0) : Int × Int) = some (out.countP p : Int) := by
  have := loop_st (f := f) out.length (fun i => (((out.take i).countP p : Nat), (i : Int))) (out.countP p : Int) (fun i hi => ?_) ?_
  · simpa using this
  · have hle : (out.take i).countP p ≤ i := by
      have := List.countP_le_length (p := p) (l := out.take i)
      simp at this; omega
    rw [h1 i _ hi (by omega) (by omega), take_succ' hi, List.countP_append]
    congr 2
    by_cases hp : p (gi out i) = true
    · simp [hp]
    · simp [hp]
  · simp only [List.take_length]
    exact h2 _
end Go.Proofs.Ytgjibbicplbgbaa.W
