/- PA: several texts in one. -/
import Derived.Test.YtbhekpcimmaijaaQA
import Derived.Test.YtbhekpcimmaijaaLB
import Derived.Test.YtbhekpcimmaijaaQC
set_option linter.unusedVariables false
set_option linter.unusedSimpArgs false
set_option linter.unusedSectionVars false
namespace Go.Proofs.Ytbhekpcimmaijaa.W
open Go Go.RowKit Go.Proofs.Ytbhekpcimmaijaa Go.Proofs.Ytbhekpcimmaijaa.X
open Go.Proofs.Ytbhekpcimmaijaa.B (wr aget aset loop loop_in loop_out loop_tot)

theorem wr64 {x : Int} (h : -9223372036854775808 ≤ x ∧ x < 9223372036854775808) : wr .i64 x = x := B.w64 h
theorem loop_cnt {S O : Type} {f : S → Option (S ⊕ O)} (n : Nat) (I : Nat → S → Prop) (Q : O → Prop)
 (h1 : ∀ i s, i < n → I i s → (∃ s', f s = some (.inl s') ∧ I (i + 1) s') ∨ ∃ o, f s = some (.inr o) ∧ Q o) (h2 : ∀ s, I n s → ∃ o, f s = some (.inr o) ∧ Q o) {s : S} (h : I 0 s) : ∃ o, loop f s = some o ∧ Q o := by
 have key : ∀ m i s, i + m = n → I i s → ∃ o, loop f s = some o ∧ Q o := by
  intro m
  induction m with
  | zero =>
   intro i s hi hs
   have : i = n := by omega
   subst this
   obtain ⟨o, ho, hq⟩ := h2 s hs
   exact ⟨o, loop_out ho, hq⟩
  | succ m ih =>
   intro i s hi hs
   rcases h1 i s (by omega) hs with ⟨s', e, hs'⟩ | ⟨o, ho, hq⟩
   ·obtain ⟨o, k1, k2⟩ := ih (i + 1) s' (by omega) hs'
    exact ⟨o, (loop_in e).trans k1, k2⟩
   ·exact ⟨o, loop_out ho, hq⟩
 exact key n 0 s (by omega) h
theorem loop_st {S O : Type} {f : S → Option (S ⊕ O)} (n : Nat) (st : Nat → S) (o : O) (h1 : ∀ i, i < n → f (st i) = some (.inl (st (i + 1)))) (h2 : f (st n) = some (.inr o)) : loop f (st 0) = some o := by
 obtain ⟨o', k1, rfl⟩ := loop_cnt (f := f) n (fun i s => s = st i) (fun o' => o' = o) (fun i s hi hs => .inl ⟨_, by rw [hs]; exact h1 i hi, rfl⟩) (fun s hs => ⟨o, by rw [hs]; exact h2, rfl⟩) rfl
 exact k1
theorem loop_find {α : Type} [Inhabited α] (l : List α) (p : α → Bool) {f : Int → Option (Int ⊕ (Int ⊕ Unit))} (h1 : ∀ i : Nat, i < l.length → f (i : Int) = if p (gi l i) = true then some (.inr (.inl (i : Int))) else some (.inl ((i + 1 : Nat) : Int)))
 (h2 : f (l.length : Int) = some (.inr (.inr ()))) :
 ∃ o, loop f 0 = some o ∧ ((∃ i : Nat, i < l.length ∧ o = .inl (i : Int) ∧ p (gi l i) = true ∧ ∀ j : Nat, j < i → p (gi l j) = false) ∨ (o = .inr () ∧ ∀ j : Nat, j < l.length → p (gi l j) = false)) := by
 refine loop_cnt (f := f) l.length (fun i s => s = (i : Int) ∧ ∀ j : Nat, j < i → p (gi l j) = false) _ (fun i s hi hs => ?_) (fun s hs => ?_) ⟨rfl, fun j hj => by omega⟩
 ·obtain ⟨rfl, hs⟩ := hs
  rw [h1 i hi]
  by_cases hp : p (gi l i) = true
  ·rw [if_pos hp]; exact .inr ⟨_, rfl, .inl ⟨i, hi, rfl, hp, hs⟩⟩
  ·rw [if_neg hp]
   refine .inl ⟨_, rfl, rfl, fun j hj => ?_⟩
   by_cases e : j = i
   ·subst e; simpa using hp
   ·exact hs j (by omega)
 ·obtain ⟨rfl, hs⟩ := hs
  exact ⟨_, h2, .inr ⟨rfl, hs⟩⟩

def mks (x : api_Ins) : Bool := alloc_makes.m x
def nds (x : api_Ins) (t : Int) : Bool := alloc_needs.m x t
def mkt (t : Int) (x : api_Ins) : Bool := mks x && decide (x.D = t)
theorem spanOf1 (x : api_Ins) (t : Int) : alloc_spanOf_1.m x t = mkt t x := by
 unfold alloc_spanOf_1.m letC mkt mks
 cases alloc_makes.m x <;> simp
def At (code : List api_Ins) (t : Int) (i : Nat) : Prop := i < code.length ∧ mkt t (gi code i) = true ∧ ∀ j : Nat, j < i → mkt t (gi code j) = false
theorem At.uniq {code : List api_Ins} {t : Int} {i j : Nat} (h : At code t i) (k : At code t j) : i = j := by
 rcases Nat.lt_trichotomy i j with c | c | c
 ·have := k.2.2 i c; rw [h.2.1] at this; cases this
 ·exact c
 ·have := h.2.2 j c; rw [k.2.1] at this; cases this
theorem idx_eq (code : List api_Ins) (t : Int) (hl : code.length ≤ 400) : (∃ i, At code t i ∧ slices_IndexFunc.m code t = some (i : Int)) ∨ ((∀ j : Nat, j < code.length → mkt t (gi code j) = false) ∧ slices_IndexFunc.m code t = some (-1)) := by
 unfold slices_IndexFunc.m
 obtain ⟨o, h1, h2⟩ := loop_find (f := slices_IndexFunc.l1 code t) code (mkt t) (fun i hi => by
  unfold slices_IndexFunc.l1
  rw [if_pos (by omega), if_pos (by omega)]
  simp only [letC, spanOf1]
  rw [wr64 (by omega)]
  rfl) (by unfold slices_IndexFunc.l1; rw [if_neg (by omega)])
 rw [h1]
 rcases h2 with ⟨i, hi, rfl, hp, hq⟩ | ⟨rfl, hq⟩
 ·exact .inl ⟨i, ⟨hi, hp, hq⟩, rfl⟩
 ·exact .inr ⟨hq, rfl⟩
def su (code : List api_Ins) (t : Int) (i0 : Nat) : Nat → alloc_span
 | 0 => ⟨t, i0, i0, 0⟩
 | i + 1 => if nds (gi code i) t = true then ⟨t, i0, if (i : Int) > (su code t i0 i).to_ then i else (su code t i0 i).to_, (su code t i0 i).uses + 1⟩ else su code t i0 i
theorem su_p (code : List api_Ins) (t : Int) (i0 : Nat) : ∀ i, (su code t i0 i).temp = t ∧ (su code t i0 i).from_ = i0 ∧ 0 ≤ (su code t i0 i).uses ∧ (su code t i0 i).uses ≤ i ∧ (i0 : Int) ≤ (su code t i0 i).to_ ∧ ((su code t i0 i).to_ = i0 ∨ (su code t i0 i).to_ < i) ∧
 (∀ j : Nat, j < i → nds (gi code j) t = true → (j : Int) ≤ (su code t i0 i).to_)
 | 0 => ⟨rfl, rfl, Int.le_refl _, Int.le_refl _, Int.le_refl _, .inl rfl, fun j hj => by omega⟩
 | i + 1 => by
  obtain ⟨h1, h2, h3, h4, h5, h6, h7⟩ := su_p code t i0 i
  simp only [su]
  by_cases hn : nds (gi code i) t = true
  ·rw [if_pos hn]
   refine ⟨rfl, rfl, by simp only []; omega, by simp only []; omega, by simp only []; split <;> omega, by simp only []; split <;> omega, fun j hj hd => ?_⟩
   simp only []
   by_cases e : j = i
   ·subst e; split <;> omega
   ·have := h7 j (by omega) hd
    split <;> omega
  ·rw [if_neg hn]
   refine ⟨h1, h2, h3, by omega, h5, by omega, fun j hj hd => ?_⟩
   by_cases e : j = i
   ·subst e; exact absurd hd hn
   ·exact h7 j (by omega) hd
def sp (code : List api_Ins) (t : Int) (i0 : Nat) : alloc_span := su code t i0 code.length
theorem span_loop (code : List api_Ins) (t : Int) (i0 : Nat) (hl : code.length ≤ 400) : loop (alloc_spanOf.l1 code t) ((⟨0, 0, 0, 0⟩, ⟨t, i0, i0, 0⟩, 0) : alloc_span × alloc_span × Int) = some (⟨0, 0, 0, 0⟩, sp code t i0) := by
 refine loop_st (f := alloc_spanOf.l1 code t) code.length (fun i => (⟨0, 0, 0, 0⟩, su code t i0 i, (i : Int))) _ (fun i hi => ?_) ?_
 ·unfold alloc_spanOf.l1
  obtain ⟨h1, h2, h3, h4, h5, h6, h7⟩ := su_p code t i0 i
  simp only []
  rw [if_pos (by omega), if_pos (by omega)]
  simp only [letC, su]
  rw [wr64 (by omega), wr64 (by omega), show alloc_needs.m (gi code i) t = nds (gi code i) t from rfl]
  by_cases hn : nds (gi code i) t = true
  ·rw [if_pos hn, if_pos hn, h1, h2]; rfl
  ·rw [if_neg hn, if_neg hn]; rfl
 ·unfold alloc_spanOf.l1
  simp only []
  rw [if_neg (by omega)]
  rfl
theorem span_eq (code : List api_Ins) (t : Int) (hl : code.length ≤ 400) : (∃ i, At code t i ∧ alloc_spanOf.m code t = some (sp code t i, true)) ∨ ((∀ j : Nat, j < code.length → mkt t (gi code j) = false) ∧ alloc_spanOf.m code t = some (⟨0, 0, 0, 0⟩, false)) := by
 unfold alloc_spanOf.m
 rcases idx_eq code t hl with ⟨i, h1, h2⟩ | ⟨h1, h2⟩
 ·refine .inl ⟨i, h1, ?_⟩
  rw [h2, Option.bind_some, if_neg (by omega), span_loop code t i hl]
  rfl
 ·refine .inr ⟨h1, ?_⟩
  rw [h2, Option.bind_some, if_pos (by omega)]

def Tot {X : Type} (Q : X → Prop) (E : Option X) : Prop := ∃ x, E = some x ∧ Q x
section
variable {X Y : Type} {Q : X → Prop} {R : Y → Prop} {E : Option Y} {k : Y → Option X} {c : Prop} [Decidable c] {a b : Option X} {x : X}
theorem Tot.some (h : Q x) : Tot Q (some x) := ⟨x, rfl, h⟩
theorem Tot.bind (h : Tot R E) (h2 : ∀ y, R y → Tot Q (k y)) : Tot Q (E.bind k) := by
 obtain ⟨y, rfl, hy⟩ := h
 exact h2 y hy
theorem Tot.bindE {y : Y} (h : E = .some y) (h2 : Tot Q (k y)) : Tot Q (E.bind k) := by
 subst h; exact h2
theorem Tot.gd (h : c) (h2 : Tot Q a) : Tot Q (if c then a else none) := by rw [if_pos h]; exact h2
theorem Tot.ite (h1 : c → Tot Q a) (h2 : ¬c → Tot Q b) : Tot Q (if c then a else b) := by
 by_cases h : c
 ·rw [if_pos h]; exact h1 h
 ·rw [if_neg h]; exact h2 h
theorem Tot.tt (h : c) (h1 : Tot Q a) : Tot Q (if c then a else b) := by rw [if_pos h]; exact h1
theorem Tot.ff (h : ¬ c) (h1 : Tot Q b) : Tot Q (if c then a else b) := by rw [if_neg h]; exact h1
theorem Tot.let {Z : Type} {z : Z} {f : Z → Option X} (h : ∀ v, v = z → Tot Q (f v)) : Tot Q (letC z f) := h z rfl
theorem Tot.mono {Q' : X → Prop} (h : Tot Q a) (k : ∀ x, Q x → Q' x) : Tot Q' a := by
 obtain ⟨x, e, hx⟩ := h
 exact ⟨x, e, k x hx⟩
end
section
variable {S O : Type} {f : S → Option (S ⊕ O)} {s : S} {Q : O → Prop}
theorem loop_T (n : Nat) (I : Nat → S → Prop) (h1 : ∀ i s, i < n → I i s → Tot (fun z => match z with | .inl s' => I (i + 1) s' | .inr o => Q o) (f s))
 (h2 : ∀ s, I n s → Tot (fun z => match z with | .inl _ => False | .inr o => Q o) (f s)) (h : I 0 s) : Tot Q (loop f s) := by
 refine loop_cnt n I Q (fun i s hi hs => ?_) (fun s hs => ?_) h
 ·obtain ⟨z, e, hz⟩ := h1 i s hi hs
  cases z with
  | inl s' => exact .inl ⟨s', e, hz⟩
  | inr o => exact .inr ⟨o, e, hz⟩
 ·obtain ⟨z, e, hz⟩ := h2 s hs
  cases z with
  | inl s' => exact hz.elim
  | inr o => exact ⟨o, e, hz⟩
theorem loop_M (I : S → Prop) (μ : S → Nat) (h1 : ∀ s, I s → Tot (fun z => match z with | .inl s' => I s' ∧ μ s' < μ s | .inr o => Q o) (f s)) (h : I s) : Tot Q (loop f s) := by
 refine loop_tot I μ Q (fun s hs => ?_) s h
 obtain ⟨z, e, hz⟩ := h1 s hs
 cases z with
 | inl s' => exact .inl ⟨s', e, hz⟩
 | inr o => exact .inr ⟨o, e, hz⟩
end
theorem gi_set {α : Type} [Inhabited α] {l : List α} {i : Nat} {j : Int} {x : α} (hi : i < l.length) (h0 : 0 ≤ j) (hj : j < l.length) : gi (l.set i x) j = if (i : Int) = j then x else gi l j := by
 have hj' : j.toNat < l.length := by omega
 unfold gi
 rw [List.getD_eq_getElem?_getD, List.getD_eq_getElem?_getD, List.getElem?_set]
 by_cases h : i = j.toNat
 ·rw [if_pos h, if_pos hi, if_pos (by omega)]; rfl
 ·rw [if_neg h, if_neg (by omega)]
theorem gi_replicate {α : Type} [Inhabited α] {n : Nat} {x : α} {j : Int} (h0 : 0 ≤ j) (h : j < n) : gi (List.replicate n x) j = x := by
 unfold gi
 rw [List.getD_eq_getElem?_getD, List.getElem?_replicate, if_pos (by omega)]; rfl

theorem ops_c (op : Int) : (op = 1 ∨ op = 2 ∨ op = 3 ∨ op = 4 ∨ op = 5 ∨ op = 6 ∨ op = 7 ∨ op = 8 ∨ op = 9 ∨ op = 10 ∨ op = 11 ∨ op = 12 ∨ op = 13 ∨ op = 14 ∨ op = 15 ∨ op = 16 ∨ op = 17 ∨ op = 18) ∨
 (op ≠ 1 ∧ op ≠ 2 ∧ op ≠ 3 ∧ op ≠ 4 ∧ op ≠ 5 ∧ op ≠ 6 ∧ op ≠ 7 ∧ op ≠ 8 ∧ op ≠ 9 ∧ op ≠ 10 ∧ op ≠ 11 ∧ op ≠ 12 ∧ op ≠ 13 ∧ op ≠ 14 ∧ op ≠ 15 ∧ op ≠ 16 ∧ op ≠ 17 ∧ op ≠ 18) := by omega
theorem mks_shape (x : api_Ins) : mks x = (tree_shape.m x.Op).1.d := by
 unfold mks alloc_makes.m tree_shape.m letC
 generalize x.Op = op
 rcases ops_c op with h | h
 ·rcases h with rfl | rfl | rfl | rfl | rfl | rfl | rfl | rfl | rfl | rfl | rfl | rfl | rfl | rfl | rfl | rfl | rfl | rfl <;> rfl
 ·simp [h]
theorem places_T (u : tree_uses) (x : api_Ins) (l : List api_Loc) (hl : l.length ≤ 16) : Tot (fun _ => True) (tree_places.m u x l) := by
 unfold tree_places.m
 refine .ite (fun _ => ?_) fun _ => .ite (fun _ => .some trivial) fun _ => .some trivial
 refine .bind (R := fun _ => True) (.ite (fun _ => .some trivial) fun _ => .ite (fun _ => .some trivial) fun _ => .some trivial) fun o _ => ?_
 cases o with
 | inr o => exact .some trivial
 | inl n =>
  refine .bind (R := fun b => b = false → 1 ≤ n ∧ n ≤ l.length ∧ 0 ≤ x.Loc ∧ x.Loc ≤ l.length - n) ?_ fun b hb => ?_
  ·refine .ite (fun _ => .some fun e => by cases e) fun h1 => .ite (fun _ => .some fun e => by cases e) fun h2 => .ite (fun _ => .some fun e => by cases e) fun h3 => .let fun v hv => ?_
   rw [wr64 (by omega)] at hv
   refine .some fun e => ?_
   have := of_decide_eq_false e
   omega
  ·refine .ite (fun _ => .some trivial) fun h => ?_
   have h := hb (by simpa using h)
   rw [wr64 (by omega)]
   refine Tot.gd (by omega) ?_
   refine Tot.let fun v hv => ?_
   refine .bind (R := fun _ => True) ?_ fun o _ => by cases o <;> exact .some trivial
   refine loop_T (f := tree_places.l1 u v) v.length (fun i s => s = (i : Int)) (fun i s hi hs => ?_) (fun s hs => ?_) rfl
   ·have hvl : v.length ≤ 16 := by rw [hv]; simp; omega
    subst hs
    unfold tree_places.l1
    refine .tt (by omega) ?_
    refine Tot.gd (by omega) ?_
    refine Tot.let fun w hw => ?_
    refine .ite (fun _ => .some ?_) fun _ => .some trivial
    simp only []
    rw [wr64 (by omega)]; rfl
   ·subst hs
    unfold tree_places.l1
    exact .ff (by omega) (.some trivial)
def Good (code : List api_Ins) (n : Nat) : Prop := ∀ i : Nat, i < n → mks (gi code i) = true → 0 ≤ (gi code i).D ∧ (gi code i).D < 400 ∧ ∀ j : Nat, j < i → mks (gi code j) = true → (gi code j).D ≠ (gi code i).D
structure RI (code : List api_Ins) (i : Nat) (s : (List Int) × (List Int) × (List (Int × Int))) : Prop where
 l1 : s.1.length = code.length
 l2 : s.2.1.length = code.length
 fr : ∀ j : Nat, 0 < j → j < code.length → 0 ≤ gi s.2.1 j ∧ gi s.2.1 j < j
 md : ∀ t v, aget s.2.2 t = some v → ∃ j : Nat, j < i ∧ v = (j : Int)
 al : ∀ j : Nat, j < i → mks (gi code j) = true → aget s.2.2 (gi code j).D ≠ none
 gd : Good code i
theorem temp_d {b : Bool} {n : Int} (h : tree_temp.m b n = true) : b = true → 0 ≤ n ∧ n < 400 := by
 unfold tree_temp.m at h
 intro e
 rw [if_pos e] at h
 split at h
 ·split at h
  ·omega
  ·cases h
 ·cases h
theorem right_l1 (code : List api_Ins) (l : List api_Loc) (hn : code.length ≤ 400) (hl : l.length ≤ 16) (h18 : (gi code (code.length - 1)).Op = 18) :
 Tot (fun o => match o with | .inl _ => True | .inr s => RI code code.length s) (loop (tree_Right.l1 code l) ((List.replicate code.length (0 : Int), List.replicate code.length (0 : Int), ([] : List (Int × Int)), 0) : (List Int) × (List Int) × (List (Int × Int)) × Int)) := by
 refine loop_T code.length (fun i s => RI code i (s.1, s.2.1, s.2.2.1) ∧ s.2.2.2 = (i : Int)) (fun i s hi hs => ?_) (fun s hs => ?_) ⟨⟨by simp, by simp, fun j h0 hj => ?_, fun t v h => (by cases h), fun j hj => by omega, fun j hj => by omega⟩, rfl⟩
 ·obtain ⟨w, f, m, k⟩ := s
  obtain ⟨hI, rfl⟩ := hs
  obtain ⟨c1, c2, c3, c4, c5, c6⟩ := hI
  simp only [] at c1 c2 c3 c4 c5 c6
  unfold tree_Right.l1
  dsimp only
  refine .tt (by omega) ?_
  refine Tot.gd (by omega) ?_
  refine Tot.let fun x hx => ?_
  refine Tot.let fun r hr => ?_
  refine .bind (R := fun b => b = false → tree_temp.m r.1.d x.D = true) ?_ fun b1 hb1 => ?_
  ·refine .ite (fun _ => ?_) fun _ => .some fun e => by cases e
   refine Tot.let fun v1 e1 => ?_
   refine .ite (fun h1 => ?_) fun _ => .some fun e => by cases e
   refine Tot.let fun v2 e2 => ?_
   refine .ite (fun _ => ?_) fun _ => .some fun e => by cases e
   refine Tot.let fun v3 e3 => ?_
   refine .ite (fun _ => ?_) fun _ => .some fun e => by cases e
   have hp := places_T r.1 x l hl
   exact .ite (fun _ => .bind hp fun y _ => .some fun _ => by rw [← e1]; exact h1) fun _ => .ite (fun _ => .bind hp fun y _ => .some fun _ => by rw [← e1]; exact h1) fun _ => .some fun e => by cases e
  refine .ite (fun _ => .some trivial) fun hb1' => ?_
  have ht := hb1 (by simpa using hb1')
  refine .bind (R := fun b => b = false → r.1.to_ = true → (i : Int) + 1 < x.To ∧ x.To < code.length) ?_ fun b2 hb2 => ?_
  ·refine .ite (fun _ => ?_) fun h => .some fun _ e => absurd e h
   refine Tot.let fun v1 e1 => ?_
   rw [wr64 (by omega)] at e1
   exact .ite (fun _ => .some fun e => by cases e) fun h1 => .ite (fun _ => .some fun e => by cases e) fun h2 => .some fun _ _ => by omega
  refine .ite (fun _ => .some trivial) fun hb2' => ?_
  have hto := hb2 (by simpa using hb2')
  -- arrays
  let R : (List Int) × (List Int) → Prop := fun p => p.1.length = code.length ∧ p.2.length = code.length ∧ ∀ j : Nat, 0 < j → j < code.length → 0 ≤ gi p.2 j ∧ gi p.2 j < j
  have setf : ∀ (f : List Int) (t : Int), f.length = code.length → (i : Int) < t → t < code.length → (∀ j : Nat, 0 < j → j < code.length → 0 ≤ gi f j ∧ gi f j < j) → ∀ j : Nat, 0 < j → j < code.length → 0 ≤ gi (f.set t.toNat (i : Int)) j ∧ gi (f.set t.toNat (i : Int)) j < j := by
   intro f t hf h1 h2 h3 j h0 hj
   rw [gi_set (by omega) (by omega) (by omega)]
   by_cases e : (t.toNat : Int) = j
   ·rw [if_pos e]; omega
   ·rw [if_neg e]; exact h3 j h0 hj
  refine .bind (R := R) ?_ fun p hp => ?_
  ·refine .ite (fun h => ?_) fun _ => .some ⟨c1, c2, c3⟩
   have := hto h
   refine Tot.gd (by omega) ?_
   refine Tot.gd (by omega) ?_
   refine Tot.let fun v1 e1 => ?_
   refine Tot.let fun v2 e2 => ?_
   refine Tot.gd (by omega) ?_
   refine Tot.let fun v3 e3 => ?_
   refine .some ⟨by rw [e2]; simp [c1], by rw [e3]; simp [c2], ?_⟩
   subst e3
   exact setf f x.To c2 (by omega) (by omega) c3
  obtain ⟨p1, p2, p3⟩ := hp
  have hlast : ¬ x.Op = 18 → (i : Int) + 1 < code.length := by
   intro hne
   rcases Nat.lt_or_ge (i + 1) code.length with c | c
   ·omega
   ·exfalso
    apply hne
    rw [hx]
    rw [show ((i : Nat) : Int) = code.length - 1 by omega]
    exact h18
  refine .bind (R := R) ?_ fun q hq => ?_
  ·refine .ite (fun _ => .some ⟨p1, p2, p3⟩) fun h => ?_
   have := hlast h
   refine Tot.let fun v1 e1 => ?_
   rw [wr64 (by omega)] at e1
   refine Tot.gd (by omega) ?_
   refine Tot.gd (by omega) ?_
   refine Tot.let fun v2 e2 => ?_
   refine Tot.let fun v3 e3 => ?_
   refine Tot.let fun v4 e4 => ?_
   rw [wr64 (by omega)] at e4
   refine Tot.gd (by omega) ?_
   refine Tot.gd (by omega) ?_
   refine Tot.let fun v5 e5 => ?_
   refine .some ⟨by rw [e3]; simp [p1], by rw [e5]; simp [p2], ?_⟩
   subst e5
   simp only []
   exact setf p.2 v4 p2 (by omega) (by omega) p3
  obtain ⟨q1, q2, q3⟩ := hq
  have hmk : mks x = r.1.d := by rw [mks_shape, hr]
  refine .ite (fun hd => ?_) fun hd => ?_
  ·have hrng := temp_d ht hd
   cases hm : aget m x.D with
   | some v => exact .some trivial
   | none =>
    simp only []
    refine Tot.let fun v1 e1 => ?_
    refine Tot.let fun v2 e2 => ?_
    rw [wr64 (by omega)] at e2
    subst e1
    refine .some ⟨⟨q1, q2, q3, fun t v h => ?_, fun j hj hmj => ?_, fun j hj hmj => ?_⟩, by simp only []; omega⟩
    ·simp only [] at h
     rw [B.aget_aset] at h
     by_cases e : t = x.D
     ·rw [if_pos e] at h; cases h; exact ⟨i, by omega, rfl⟩
     ·rw [if_neg e] at h
      obtain ⟨j, hj, hv⟩ := c4 t v h
      exact ⟨j, by omega, hv⟩
    ·simp only []
     rw [B.aget_aset]
     by_cases e : (gi code j).D = x.D
     ·rw [if_pos e]; simp
     ·rw [if_neg e]
      have hji : j ≠ i := by rintro rfl; exact e (by rw [hx])
      exact c5 j (by omega) hmj
    ·by_cases e : j = i
     ·subst e
      rw [← hx]
      refine ⟨hrng.1, hrng.2, fun k hk hmk e => ?_⟩
      have := c5 k hk hmk
      rw [e, hm] at this
      exact this rfl
     ·exact c6 j (by omega) hmj
  ·refine Tot.let fun v1 e1 => ?_
   rw [wr64 (by omega)] at e1
   have hno : mks (gi code i) = false := by rw [← hx, hmk]; simpa using hd
   refine .some ⟨⟨q1, q2, q3, fun t v h => ?_, fun j hj hmj => ?_, fun j hj hmj => ?_⟩, by simp only []; omega⟩
   ·obtain ⟨j, hj, hv⟩ := c4 t v h
    exact ⟨j, by omega, hv⟩
   ·have hji : j ≠ i := by rintro rfl; rw [hno] at hmj; cases hmj
    exact c5 j (by omega) hmj
   ·have hji : j ≠ i := by rintro rfl; rw [hno] at hmj; cases hmj
    exact c6 j (by omega) hmj
 ·obtain ⟨w, f, m, k⟩ := s
  obtain ⟨hI, rfl⟩ := hs
  unfold tree_Right.l1
  refine .ff (by simp only []; omega) (.some hI)
 ·simp only []
  rw [gi_replicate (by omega) (by omega)]; omega
theorem above_T (t i : Int) (made : List (Int × Int)) (fr : List Int) (n : Nat) (hf : fr.length = n) (hi : 0 ≤ i ∧ i < n) (h1 : ∀ j : Nat, 0 < j → j < n → 0 ≤ gi fr j ∧ gi fr j < j) (h2 : ∀ v, aget made t = some v → 0 ≤ v) : Tot (fun _ => True) (tree_above.m t i made fr n) := by
 unfold tree_above.m
 cases hm : aget made t with
 | none => exact .some trivial
 | some v =>
  have hv := h2 v hm
  refine .bind (R := fun _ => True) ?_ fun o _ => by cases o <;> exact .some trivial
  refine loop_M (fun s => 0 ≤ s ∧ s < n) Int.toNat (fun s hs => ?_) hi
  unfold tree_above.l1
  refine .ite (fun h => ?_) fun h => .some trivial
  refine Tot.gd (by omega) ?_
  refine Tot.gd (by omega) ?_
  refine Tot.let fun w hw => ?_
  refine .ite (fun _ => .some trivial) fun _ => .some ?_
  have := h1 s.toNat (by omega) (by omega)
  rw [show ((s.toNat : Nat) : Int) = s by omega, ← hw] at this
  exact ⟨by omega, by omega⟩
theorem right_l2 (code : List api_Ins) (hn : code.length ≤ 400) (s : (List Int) × (List Int) × (List (Int × Int))) (h : RI code code.length s) :
 Tot (fun _ => True) (loop (tree_Right.l2 code s) ((code.length, 0) : Nat × Int)) := by
 refine loop_T code.length (fun i s => s.1 = code.length ∧ s.2 = (i : Int)) (fun i z hi hz => ?_) (fun z hz => ?_) ⟨rfl, rfl⟩
 ·obtain ⟨n, k⟩ := z
  obtain ⟨h0, rfl⟩ := hz
  simp only [] at h0
  subst h0
  have hab : ∀ t, Tot (fun _ => True) (tree_above.m t (i : Int) s.2.2 s.2.1 code.length) := fun t => above_T t i s.2.2 s.2.1 code.length h.l2 ⟨by omega, by omega⟩ h.fr fun v hv => by
   obtain ⟨j, _, rfl⟩ := h.md t v hv; omega
  have hl1 := h.l1
  unfold tree_Right.l2
  dsimp only
  refine .tt (by omega) ?_
  refine Tot.gd (by omega) ?_
  refine Tot.let fun x hx => ?_
  refine .bind (R := fun _ => True) ?_ fun b _ => ?_
  ·refine .ite (fun _ => ?_) fun _ => .some trivial
   refine Tot.gd (by omega) ?_
   refine Tot.gd (by omega) ?_
   refine Tot.let fun v hv => ?_
   exact .some trivial
  refine .ite (fun _ => .some trivial) fun _ => ?_
  refine Tot.let fun r hr => ?_
  refine .bind (R := fun _ => True) ?_ fun b _ => ?_
  ·exact .ite (fun _ => .bind (hab _) fun y _ => .ite (fun _ => .ite (fun _ => .bind (hab _) fun y _ => .some trivial) fun _ => .some trivial) fun _ => .some trivial) fun _ => .ite (fun _ => .bind (hab _) fun y _ => .some trivial) fun _ => .some trivial
  refine .ite (fun _ => .some trivial) fun _ => ?_
  refine Tot.let fun v hv => ?_
  rw [wr64 (by omega)] at hv
  exact .some ⟨rfl, by simp only []; omega⟩
 ·obtain ⟨n, k⟩ := z
  obtain ⟨h0, rfl⟩ := hz
  unfold tree_Right.l2
  exact .ff (by simp only []; omega) (.some trivial)
theorem right_T (code : List api_Ins) (l : List api_Loc) (hn : code.length ≤ 400) (hl : l.length ≤ 16) : Tot (fun b => b = true → Good code code.length) (tree_Right.m code l) := by
 unfold tree_Right.m
 refine .bind (R := fun b => b = false → 1 ≤ code.length ∧ (gi code (code.length - 1)).Op = 18) ?_ fun b hb => ?_
 ·refine .ite (fun _ => .some fun e => by cases e) fun h1 => .ite (fun _ => .some fun e => by cases e) fun h2 => ?_
  refine Tot.let fun v hv => ?_
  rw [wr64 (by omega)] at hv
  refine Tot.gd (by omega) ?_
  refine Tot.let fun w hw => ?_
  refine .some fun e => ⟨by omega, ?_⟩
  subst hv hw
  simpa using e
 refine .ite (fun _ => .some fun e => by cases e) fun h => ?_
 obtain ⟨h1, h2⟩ := hb (by simpa using h)
 refine Tot.gd (by omega) ?_
 refine Tot.let fun v hv => ?_
 refine Tot.let fun w hw => ?_
 simp only [Int.toNat_natCast] at hv hw
 subst hv hw
 refine .bind (right_l1 code l hn hl h2) fun o ho => ?_
 cases o with
 | inl o => exact .some fun e => by cases e
 | inr s =>
  simp only [Int.toNat_natCast]
  refine .bind (right_l2 code hn s ho) fun o _ => ?_
  cases o with
  | inl o => exact .some fun e => by cases e
  | inr o => exact .some fun _ => ho.gd
end Go.Proofs.Ytbhekpcimmaijaa.W
namespace Go.Proofs.Ytbhekpcimmaijaa.W
open Go Go.RowKit Go.Proofs.Ytbhekpcimmaijaa Go.Proofs.Ytbhekpcimmaijaa.X
open Go.Proofs.Ytbhekpcimmaijaa.B (wr aget aset loop loop_in loop_out loop_tot qf flt i2f feq fls isnan)

theorem gi_in {α : Type} [Inhabited α] {l : List α} {i : Nat} (h : i < l.length) : gi l i = l[i] := by simp [gi, h]
theorem gi_mem {α : Type} [Inhabited α] {l : List α} {i : Int} (h0 : 0 ≤ i) (h : i < l.length) : gi l i ∈ l := by
 have : i.toNat < l.length := by omega
 simp [gi, List.getD_eq_getElem?_getD, this]
theorem mem_gi {α : Type} [Inhabited α] {l : List α} {x : α} (h : x ∈ l) : ∃ i : Nat, i < l.length ∧ gi l i = x := by
 obtain ⟨i, hi, e⟩ := List.getElem_of_mem h
 exact ⟨i, hi, by rw [gi_in hi]; exact e⟩
theorem sub_len {α : Type} [BEq α] [LawfulBEq α] : ∀ {l m : List α}, l.Nodup → (∀ x ∈ l, x ∈ m) → l.length ≤ m.length
 | [], _, _, _ => by simp
 | a :: r, m, h, k => by
  rw [List.nodup_cons] at h
  have ha := k a (by simp)
  have := sub_len (m := m.erase a) h.2 fun x hx => (List.mem_erase_of_ne (fun e => h.1 (by rw [← e]; exact hx))).2 (k x (by simp [hx]))
  rw [List.length_erase_of_mem ha] at this
  have hm : 0 < m.length := List.length_pos_of_mem ha
  simp only [List.length_cons]; omega
def reg (out : List api_Home) (a : alloc_span) : Int := (gi out a.temp).Reg
def has (act : List alloc_span) (out : List api_Home) (r : Int) : Bool := act.any fun a => decide (reg out a = r)
def leastN (act : List alloc_span) (out : List api_Home) : Nat → Int → Int
 | 0, r => r
 | n + 1, r => if has act out r = true then leastN act out n (r + 1) else r
theorem contains_eq (act : List alloc_span) (r : Int) (out : List api_Home) (hb : ∀ a ∈ act, 0 ≤ a.temp ∧ a.temp < out.length) (hl : act.length ≤ 400) : slices_ContainsFunc_2.m act r out out.length = some (has act out r) := by
 unfold slices_ContainsFunc_2.m slices_IndexFunc_4.m
 obtain ⟨o, h1, h2⟩ := loop_find (f := slices_IndexFunc_4.l1 act r out out.length) act (fun a => decide (reg out a = r)) (fun i hi => by
  unfold slices_IndexFunc_4.l1 alloc_least_1_2.m
  rw [if_pos (by omega), if_pos (by omega)]
  have hm := hb _ (gi_mem (l := act) (i := (i : Int)) (by omega) (by omega))
  simp only [letC]
  rw [if_pos hm, if_pos hm, Option.bind_some, wr64 (by omega)]
  rfl) (by unfold slices_IndexFunc_4.l1; rw [if_neg (by omega)])
 rw [h1]
 rcases h2 with ⟨i, hi, rfl, hp, hq⟩ | ⟨rfl, hq⟩
 ·have : has act out r = true := List.any_eq_true.2 ⟨gi act i, gi_mem (by omega) (by omega), hp⟩
  simp [this]
 ·have : has act out r = false := by
   unfold has
   rw [List.any_eq_false]
   intro a ha
   obtain ⟨i, hi, rfl⟩ := mem_gi ha
   simpa using hq i hi
  simp [this]
theorem has_pig (act : List alloc_span) (out : List api_Home) (n : Nat) (h : ∀ m : Nat, m < n → has act out m = true) : n ≤ act.length := by
 have := sub_len (l := (List.range n).map fun m : Nat => (m : Int)) (m := act.map (reg out)) (by
  rw [List.nodup_iff_pairwise_ne]
  refine List.Pairwise.map _ (fun a b h => ?_) (List.nodup_iff_pairwise_ne.1 List.nodup_range)
  omega) (fun x hx => by
  obtain ⟨m, hm, rfl⟩ := List.mem_map.1 hx
  obtain ⟨a, ha, e⟩ := List.any_eq_true.1 (h m (List.mem_range.1 hm))
  exact List.mem_map.2 ⟨a, ha, of_decide_eq_true e⟩)
 simpa using this
theorem leastN_ok (act : List alloc_span) (out : List api_Home) : ∀ (n m : Nat), act.length < n + m → (∀ k : Nat, k < m → has act out k = true) →
 ∃ r : Nat, leastN act out n m = (r : Int) ∧ r ≤ act.length ∧ has act out r = false ∧ (∀ k : Nat, k < r → has act out k = true)
 | 0, m, h, k => by have := has_pig act out m k; omega
 | n + 1, m, h, k => by
  simp only [leastN]
  by_cases hm : has act out m = true
  ·rw [if_pos hm, show (m : Int) + 1 = ((m + 1 : Nat) : Int) by omega]
   exact leastN_ok act out n (m + 1) (by omega) fun j hj => by
    by_cases e : j = m
    ·subst e; exact hm
    ·exact k j (by omega)
  ·rw [if_neg hm]
   refine ⟨m, rfl, has_pig act out m k, by simpa using hm, k⟩
def least (act : List alloc_span) (out : List api_Home) : Int := leastN act out (act.length + 1) 0
theorem least_ok (act : List alloc_span) (out : List api_Home) : ∃ r : Nat, least act out = (r : Int) ∧ r ≤ act.length ∧ has act out r = false := by
 obtain ⟨r, h1, h2, h3, _⟩ := leastN_ok act out (act.length + 1) 0 (by omega) fun k hk => by omega
 exact ⟨r, h1, h2, h3⟩
theorem least_eq (act : List alloc_span) (out : List api_Home) (hb : ∀ a ∈ act, 0 ≤ a.temp ∧ a.temp < out.length) (hl : act.length ≤ 400) : alloc_least_2.m act out out.length = some (least act out) := by
 unfold alloc_least_2.m
 have key : ∀ (n m : Nat), act.length < n + m → (∀ k : Nat, k < m → has act out k = true) → loop (alloc_least_2.l1 act out out.length) (m : Int) = some (leastN act out n m) := by
  intro n
  induction n with
  | zero => intro m h k; have := has_pig act out m k; omega
  | succ n ih =>
   intro m h k
   have hml := has_pig act out m k
   have hf : alloc_least_2.l1 act out out.length (m : Int) = if has act out m = true then some (.inl ((m + 1 : Nat) : Int)) else some (.inr (m : Int)) := by
    unfold alloc_least_2.l1
    rw [contains_eq act m out hb hl, Option.bind_some, wr64 (by omega)]
    rfl
   simp only [leastN]
   by_cases hm : has act out m = true
   ·rw [if_pos hm] at hf ⊢
    rw [loop_in hf]
    exact ih (m + 1) (by omega) fun j hj => by
     by_cases e : j = m
     ·subst e; exact hm
     ·exact k j (by omega)
   ·rw [if_neg hm] at hf ⊢
    exact loop_out hf
 have := key (act.length + 1) 0 (by omega) fun k hk => by omega
 rw [show (0 : Int) = ((0 : Nat) : Int) from rfl, this]
 rfl
def live (now : Int) (a : alloc_span) : Bool := !decide (a.to_ < now)
theorem take_succ' {α : Type} [Inhabited α] {l : List α} {i : Nat} (h : i < l.length) : l.take (i + 1) = l.take i ++ [gi l i] := by
 rw [gi_in h]; exact (List.take_append_getElem h).symm
theorem del_eq (act : List alloc_span) (s : alloc_span) (hl : act.length ≤ 400) : slices_DeleteFunc.m act s = some (act.filter (live s.from_)) := by
 unfold slices_DeleteFunc.m slices_IndexFunc_2.m
 obtain ⟨o, h1, h2⟩ := loop_find (f := slices_IndexFunc_2.l1 act s) act (fun a => decide (a.to_ < s.from_)) (fun i hi => by
  unfold slices_IndexFunc_2.l1
  rw [if_pos (by omega), if_pos (by omega)]
  simp only [letC, decide_eq_true_eq]
  rw [wr64 (by omega)]
  rfl) (by unfold slices_IndexFunc_2.l1; rw [if_neg (by omega)])
 rw [h1]
 rcases h2 with ⟨i, hi, rfl, hp, hq⟩ | ⟨rfl, hq⟩
 ·have hkeep : ∀ n, n ≤ i → (act.take n).filter (live s.from_) = act.take n := by
   intro n hn
   rw [List.filter_eq_self]
   intro a ha
   obtain ⟨j, hj, rfl⟩ := mem_gi ha
   have hj2 : j < n := by have := hj; simp at this; omega
   have e : gi (act.take n) j = gi act j := by rw [gi_in hj, gi_in (by omega)]; simp
   rw [e]
   unfold live
   rw [hq j (by omega)]; rfl
  have hne : ¬ ((i : Int) = -1) := by omega
  show ((some (i : Int)).bind _) = _
  rw [Option.bind_some, if_neg hne]
  have main : Tot (fun o => ∃ w : Nat, o.2 = (w : Int) ∧ w ≤ act.length ∧ o.1.length = act.length ∧ o.1.take w = act.filter (live s.from_)) (loop (slices_DeleteFunc.l1 act s) ((act, (i : Int), (wr .i64 ((i : Int) + (1 : Int)))) : (List alloc_span) × Int × Int)) := by
   refine loop_T (act.length - (i + 1)) (fun k z => z.2.2 = ((i + 1 + k : Nat) : Int) ∧ z.1.length = act.length ∧ ∃ w : Nat, z.2.1 = (w : Int) ∧ w < i + 1 + k ∧ z.1.take w = (act.take (i + 1 + k)).filter (live s.from_) ∧ z.1.drop (i + 1 + k) = act.drop (i + 1 + k)) (fun k z hk hz => ?_) (fun z hz => ?_) ⟨by rw [wr64 (by omega)]; simp, rfl, i, rfl, by omega, ?_, rfl⟩
   ·obtain ⟨l, w, j⟩ := z
    obtain ⟨rfl, hl2, w, rfl, hw, ht, hd⟩ := hz
    simp only [] at hl2 ht hd
    have hx : gi l ((i + 1 + k : Nat) : Int) = gi act ((i + 1 + k : Nat) : Int) := by
     have e1 := congrArg (fun l => l[0]?) hd
     simp only [List.getElem?_drop, Nat.add_zero] at e1
     unfold gi
     rw [List.getD_eq_getElem?_getD, List.getD_eq_getElem?_getD, Int.toNat_natCast, e1]
    have hd2 : l.drop (i + 1 + (k + 1)) = act.drop (i + 1 + (k + 1)) := by
     have := congrArg (List.drop 1) hd
     simpa [List.drop_drop, Nat.add_assoc] using this
    have htk : act.take (i + 1 + (k + 1)) = act.take (i + 1 + k) ++ [gi act ((i + 1 + k : Nat) : Int)] := take_succ' (i := i + 1 + k) (by omega)
    unfold slices_DeleteFunc.l1
    dsimp only
    refine .tt (by omega) ?_
    refine Tot.gd (by omega) ?_
    refine Tot.gd (by omega) ?_
    refine Tot.let fun x hxx => ?_
    refine Tot.let fun r hr => ?_
    rw [hx] at hxx
    refine .ite (fun hlt => ?_) fun hge => ?_
    ·refine Tot.let fun v hv => ?_
     rw [wr64 (by omega)] at hv
     refine .some ⟨by simp only []; omega, hl2, w, rfl, by omega, ?_, hd2⟩
     simp only []
     rw [htk, List.filter_append, ht]
     have : live s.from_ x = false := by simp [live, hlt]
     rw [← hxx, List.filter_cons_of_neg (by simp [this])]; simp
    ·refine Tot.gd (by omega) ?_
     refine Tot.gd (by omega) ?_
     refine Tot.let fun u hu => ?_
     refine Tot.let fun v hv => ?_
     refine Tot.let fun v2 hv2 => ?_
     rw [wr64 (by omega)] at hv hv2
     rw [Int.toNat_natCast] at hu
     refine .some ⟨by simp only []; omega, by rw [hu]; simp [hl2], w + 1, by simp only []; omega, by omega, ?_, ?_⟩
     ·simp only []
      rw [htk, List.filter_append, ← hxx]
      have : live s.from_ x = true := by simp [live, hge]
      rw [List.filter_cons_of_pos this, List.filter_nil, hu, take_succ' (by simp; omega), List.take_set_of_le (Nat.le_refl _), ht, gi_set (by omega) (by omega) (by omega), if_pos rfl]
     ·simp only []
      rw [hu, List.drop_set_of_lt (by omega)]; exact hd2
   ·obtain ⟨l, w, j⟩ := z
    obtain ⟨rfl, hl2, w, rfl, hw, ht, hd⟩ := hz
    simp only [] at hl2 ht hd
    unfold slices_DeleteFunc.l1
    dsimp only
    refine .ff (by omega) (.some ⟨w, rfl, by omega, hl2, ?_⟩)
    simp only []
    rw [ht, List.take_of_length_le (by omega)]
   ·simp only []
    rw [take_succ' hi, List.filter_append, hkeep i (Nat.le_refl _)]
    have : live s.from_ (gi act i) = false := by
     have := of_decide_eq_true hp
     simp [live, this]
    rw [List.filter_cons_of_neg (by simp [this])]; simp
  obtain ⟨z, e, w, h3, h4, h5, h6⟩ := main
  rw [e, Option.bind_some, h3, if_pos (by omega)]
  simp only [letC]
  rw [if_pos (by omega)]
  simp only [Int.toNat_natCast, Nat.zero_add]
  congr 1
  rw [List.append_assoc, List.take_append_of_le_length (by simp; omega), List.take_take, Nat.min_self, h6]
 ·show ((some (-1 : Int)).bind _) = _
  rw [Option.bind_some, if_pos rfl]
  congr 1
  rw [List.take_length, eq_comm, List.filter_eq_self]
  intro a ha
  obtain ⟨j, hj, rfl⟩ := mem_gi ha
  unfold live
  rw [hq j hj]; rfl
theorem delete_eq (all : List alloc_span) (k : Nat) (hk : k < all.length) (hl : all.length ≤ 400) : slices_Delete.m (k : Int) (wr .i64 ((k : Int) + 1)) all = some (all.eraseIdx k) := by
 unfold slices_Delete.m
 rw [wr64 (by omega), if_pos (by omega), if_neg (by omega), if_pos (by omega), if_pos (by omega)]
 simp only [letC]
 rw [if_pos (by omega)]
 congr 1
 have e1 : ((k : Int) + 1).toNat = k + 1 := by omega
 simp only [Int.toNat_natCast, e1, Nat.zero_add]
 have e2 : k + (all.length - (k + 1)) = all.length - 1 := by omega
 rw [e2, List.append_assoc, List.append_assoc, List.eraseIdx_eq_take_drop_succ]
 have hlen : (all.take k ++ (all.drop (k + 1)).take (all.length - (k + 1))).length = all.length - 1 := by simp; omega
 have h1 : (all.take k ++ ((all.drop (k + 1)).take (all.length - (k + 1)) ++ all.drop (all.length - 1))).take (all.length - 1) = all.take k ++ (all.drop (k + 1)).take (all.length - (k + 1)) := by
  rw [← List.append_assoc, ← hlen]; exact List.take_left
 rw [h1, List.take_append_of_le_length (by rw [hlen]; exact Nat.le_refl _), List.take_of_length_le (by rw [hlen]; exact Nat.le_refl _), List.take_of_length_le (l := all.drop (k + 1)) (by simp <;> omega)]
theorem clone_eq (l : List alloc_span) (hl : l.length ≤ 400) : slices_Clone_4.m l = some l := by
 unfold slices_Clone_4.m slices_Clone_3.m
 rw [if_pos (by simp; omega)]
 rfl

theorem feq_num {a b : Nat} (h : feq a b = true) : isnan a = false := by
 cases hn : isnan a
 ·rfl
 ·unfold feq at h
  rw [B.ord_l hn] at h
  cases h
theorem less_T (a b : Nat) : Tot (fun _ => True) (weight_Less.m a b) := by
 unfold weight_Less.m
 refine .bind (R := fun o => o = true → feq a (flt 0) = true ∧ feq b (flt 0) = true) (.ite (fun h => .some fun e => ⟨h, e⟩) fun h => .some fun e => by cases e) fun o ho => .ite (fun h => ?_) fun h => ?_
 ·obtain ⟨h1, h2⟩ := ho h
  refine .bind (R := fun _ => True) ?_ fun _ _ => .ite (fun _ => .bind (R := fun _ => True) ?_ fun _ _ => .some trivial) fun _ => .some trivial
  ·exact .gd (feq_num h1) (.some trivial)
  ·exact .gd (feq_num h2) (.some trivial)
 ·refine Tot.let fun v hv => ?_
  exact .some trivial
def lessB (a b : Nat) : Bool := (weight_Less.m a b).getD false
theorem less_eq (a b : Nat) : weight_Less.m a b = some (lessB a b) := by
 obtain ⟨r, e, _⟩ := less_T a b
 unfold lessB
 rw [e]; rfl
def wt (s : alloc_span) : Nat := alloc_weightOf.m s
def lw (ws : List Nat) : Nat → Int
 | 0 => -1
 | i + 1 => if lw ws i < 0 then i else if lessB (gi ws i) (gi ws (lw ws i)) = true then i else lw ws i
theorem lw_b (ws : List Nat) : ∀ i, (i = 0 ∧ lw ws i = -1) ∨ (0 ≤ lw ws i ∧ lw ws i < i)
 | 0 => .inl ⟨rfl, rfl⟩
 | i + 1 => by
  right
  have := lw_b ws i
  simp only [lw]
  split
  ·omega
  ·split <;> omega
theorem least_w (ws : List Nat) (hl : ws.length ≤ 400) : weight_Least.m ws ws.length = some (lw ws ws.length) := by
 unfold weight_Least.m
 have := loop_st (f := weight_Least.l1 ws ws.length) ws.length (fun i => (lw ws i, (i : Int))) (lw ws ws.length) (fun i hi => ?_) ?_
 ·rw [show (((-1), 0) : Int × Int) = (lw ws 0, ((0 : Nat) : Int)) from rfl, this]; rfl
 ·have hb := lw_b ws i
  unfold weight_Least.l1
  dsimp only
  rw [if_pos (by omega), wr64 (by omega)]
  simp only [lw, letC]
  by_cases h0 : lw ws i < 0
  ·rw [if_pos h0, if_pos h0]; rfl
  ·rw [if_neg h0, if_neg h0, if_pos (by omega), if_pos (by omega), if_pos (by omega), if_pos (by omega), less_eq, Option.bind_some]
   cases lessB (gi ws i) (gi ws (lw ws i)) <;> rfl
 ·unfold weight_Least.l1
  dsimp only
  rw [if_neg (by omega)]
theorem weights_eq (l : List alloc_span) (hl : l.length ≤ 400) : loop (alloc_Homes.l3 l) ((List.replicate l.length (0 : Nat), 0) : (List Nat) × Int) = some (l.map wt) := by
 have := loop_st (f := alloc_Homes.l3 l) l.length (fun i => ((l.take i).map wt ++ List.replicate (l.length - i) 0, (i : Int))) (l.map wt) (fun i hi => ?_) ?_
 ·simpa using this
 ·unfold alloc_Homes.l3
  dsimp only
  have hlen : ((l.take i).map wt ++ List.replicate (l.length - i) 0).length = l.length := by simp; omega
  rw [if_pos (by omega), if_pos (by omega)]
  simp only [letC]
  rw [if_pos (by omega), if_pos (by omega), wr64 (by omega), Int.toNat_natCast]
  congr 3
  rw [take_succ' hi, List.map_append, List.set_append_right _ _ (by simp; omega)]
  simp only [List.length_map, List.length_take, Nat.min_eq_left (Nat.le_of_lt hi), Nat.sub_self]
  obtain ⟨m, hm⟩ : ∃ m, l.length - i = m + 1 := ⟨l.length - i - 1, by omega⟩
  rw [hm, List.replicate_succ, List.set_cons_zero, show l.length - (i + 1) = m by omega]
  simp [wt]
 ·unfold alloc_Homes.l3
  dsimp only
  rw [if_neg (by omega)]
  simp
def ext (out : List api_Home) (d : Int) : List api_Home := out ++ List.replicate ((d + 1).toNat - out.length) ⟨-1, -1⟩
theorem ext_len (out : List api_Home) (d : Int) (h0 : 0 ≤ d) : d < (ext out d).length := by unfold ext; simp; omega
theorem ext_eq (x : api_Ins) (out : List api_Home) (hd : 0 ≤ x.D ∧ x.D < 400) : loop (alloc_Homes.l2 x) ((out, out.length) : (List api_Home) × Nat) = some (ext out x.D, (ext out x.D).length) := by
 have := loop_st (f := alloc_Homes.l2 x) ((x.D + 1).toNat - out.length) (fun k => (out ++ List.replicate k ⟨-1, -1⟩, (out ++ List.replicate k (⟨-1, -1⟩ : api_Home)).length)) (ext out x.D, (ext out x.D).length) (fun k hk => ?_) ?_
 ·simpa using this
 ·unfold alloc_Homes.l2
  dsimp only
  have hl : (out ++ List.replicate k (⟨-1, -1⟩ : api_Home)).length = out.length + k := by simp
  rw [if_pos (by rw [hl]; omega), if_pos rfl, if_pos (by rw [hl]; simp; omega)]
  simp only [letC]
  rw [List.append_assoc, show List.replicate k (⟨-1, -1⟩ : api_Home) ++ [⟨-1, -1⟩] = List.replicate (k + 1) ⟨-1, -1⟩ from List.replicate_succ'.symm]
 ·unfold alloc_Homes.l2
  dsimp only
  rw [if_neg (by simp; omega)]
  rfl
structure HS where
 out : List api_Home
 act : List alloc_span
 slots : Int
def spn (code : List api_Ins) (j : Nat) : alloc_span := sp code (gi code j).D j
def hstep (code : List api_Ins) (regs : Int) (i : Nat) (st : HS) : HS :=
 if mks (gi code i) = true then
  let out := ext st.out (gi code i).D
  let act := st.act.filter (live (spn code i).from_)
  let all := act ++ [spn code i]
  if (act.length : Int) < regs then ⟨out.set (spn code i).temp.toNat ⟨least act out, 0⟩, all, st.slots⟩
  else
   let k := lw (all.map wt) all.length
   ⟨(out.set (spn code i).temp.toNat (gi out (gi all k).temp)).set (gi all k).temp.toNat ⟨-1, st.slots⟩, all.eraseIdx k.toNat, st.slots + 1⟩
 else st
def hs (code : List api_Ins) (regs : Int) : Nat → HS
 | 0 => ⟨[], [], 0⟩
 | i + 1 => hstep code regs i (hs code regs i)
theorem spn_t (code : List api_Ins) (j : Nat) : (spn code j).temp = (gi code j).D ∧ (spn code j).from_ = j ∧ (j : Int) ≤ (spn code j).to_ := by
 obtain ⟨h1, h2, _, _, h3, _⟩ := su_p code (gi code j).D j code.length
 exact ⟨h1, h2, h3⟩
def Over (code : List api_Ins) (regs : Int) (m : Nat) : Prop := ∃ l : List alloc_span, regs < (l.length : Int) ∧ (l.map (·.temp)).Nodup ∧ ∀ a ∈ l, ∃ j : Nat, j ≤ m ∧ mks (gi code j) = true ∧ a = spn code j ∧ (m : Int) ≤ a.to_
def inSlot (h : api_Home) : Bool := decide (h.Reg < 0) && decide (0 ≤ h.Slot)
def isSlot (s : Int) (h : api_Home) : Bool := decide (h.Reg < 0) && decide (h.Slot = s)
structure OI (code : List api_Ins) (regs : Int) (i : Nat) (out : List api_Home) (slots : Int) : Prop where
 o1 : out.length ≤ 400
 o2 : ∀ j : Nat, j < i → mks (gi code j) = true → (gi code j).D < out.length
 no : ∀ t : Int, 0 ≤ t → t < out.length → (∀ j : Nat, j < i → mks (gi code j) = true → (gi code j).D ≠ t) → gi out t = ⟨-1, -1⟩
 ye : ∀ j : Nat, j < i → mks (gi code j) = true → (0 ≤ (gi out (gi code j).D).Reg ∧ (gi out (gi code j).D).Reg < regs ∧ (gi out (gi code j).D).Slot = 0) ∨ ((gi out (gi code j).D).Reg = -1 ∧ 0 ≤ (gi out (gi code j).D).Slot ∧ (gi out (gi code j).D).Slot < slots)
 s0 : 0 ≤ slots ∧ slots ≤ i
 uq : ∀ t u : Int, 0 ≤ t → t < out.length → 0 ≤ u → u < out.length → (gi out t).Reg < 0 → (gi out u).Reg < 0 → (gi out t).Slot = (gi out u).Slot → 0 ≤ (gi out t).Slot → t = u
 ca : (out.countP inSlot : Int) = slots
 cs : ∀ s : Int, 0 ≤ s → s < slots → out.countP (isSlot s) = 1
structure AI (code : List api_Ins) (regs : Int) (i : Nat) (out : List api_Home) (act : List alloc_span) : Prop where
 ac : ∀ a ∈ act, ∃ j : Nat, j < i ∧ mks (gi code j) = true ∧ a = spn code j ∧ 0 ≤ reg out a
 al : (act.length : Int) ≤ regs
 nd : (act.map (·.temp)).Nodup
 rg : ∀ a ∈ act, ∀ b ∈ act, reg out a = reg out b → a = b
 ov : ∀ j : Nat, j < i → mks (gi code j) = true → 0 ≤ reg out (spn code j) → spn code j ∈ act ∨ (spn code j).to_ < i
 ap : ∀ j k : Nat, j < k → k < i → mks (gi code j) = true → mks (gi code k) = true → 0 ≤ reg out (spn code j) → reg out (spn code j) = reg out (spn code k) → (spn code j).to_ < k
structure HI (code : List api_Ins) (regs : Int) (i : Nat) (st : HS) : Prop where
 o : OI code regs i st.out st.slots
 a : AI code regs i st.out st.act
 en : st.slots = 0 ∨ ∃ m : Nat, m < i ∧ Over code regs m
theorem OI.lt {code : List api_Ins} {regs : Int} {i : Nat} {out : List api_Home} {slots : Int} (h : OI code regs i out slots) {t : Int} (h0 : 0 ≤ t) (h1 : t < out.length) (h2 : (gi out t).Reg < 0) : (gi out t).Slot < slots := by
 by_cases hc : ∀ j : Nat, j < i → mks (gi code j) = true → (gi code j).D ≠ t
 ·rw [h.no t h0 h1 hc]
  have := h.s0
  show (-1 : Int) < slots
  omega
 ·simp only [Classical.not_forall, Decidable.not_not] at hc
  obtain ⟨j, hj, hm, rfl⟩ := hc
  have := h.ye j hj hm
  omega
theorem OI.zero {code : List api_Ins} {regs : Int} {i : Nat} {out : List api_Home} {slots s : Int} (h : OI code regs i out slots) (hs : slots ≤ s) : out.countP (isSlot s) = 0 := by
 rw [List.countP_eq_zero]
 intro x hx
 obtain ⟨t, ht, rfl⟩ := mem_gi hx
 unfold isSlot
 intro e
 simp only [Bool.and_eq_true, decide_eq_true_eq] at e
 have := h.lt (t := t) (by omega) (by omega) e.1
 omega
theorem gi_ext {out : List api_Home} {d t : Int} (h0 : 0 ≤ t) : gi (ext out d) t = if t < out.length then gi out t else if t < (ext out d).length then ⟨-1, -1⟩ else default := by
 unfold ext gi
 simp only [List.getD_eq_getElem?_getD, List.getElem?_append]
 by_cases h : t < out.length
 ·rw [if_pos h, if_pos (by omega)]
 ·rw [if_neg h, if_neg (by omega), List.getElem?_replicate]
  by_cases h' : t < (out ++ List.replicate ((d + 1).toNat - out.length) (⟨-1, -1⟩ : api_Home)).length
  ·rw [if_pos h', if_pos (by simp at h'; omega)]; rfl
  ·rw [if_neg h', if_neg (by simp at h'; omega)]; rfl
theorem OI.ext {code : List api_Ins} {regs : Int} {i : Nat} {out : List api_Home} {slots d : Int} (h : OI code regs i out slots) (hg : Good code code.length) (hi : i ≤ code.length) (hd : 0 ≤ d ∧ d < 400) : OI code regs i (ext out d) slots := by
 have hle : out.length ≤ (W.ext out d).length := by unfold W.ext; simp
 have ho := h.o1
 have hlen : (W.ext out d).length ≤ 400 := by unfold W.ext; simp; omega
 have hold : ∀ {t : Int}, 0 ≤ t → t < out.length → gi (W.ext out d) t = gi out t := fun h0 h1 => by rw [gi_ext h0, if_pos h1]
 have hnew : ∀ {t : Int}, 0 ≤ t → ¬ t < out.length → t < (W.ext out d).length → gi (W.ext out d) t = ⟨-1, -1⟩ := fun h0 h1 h2 => by rw [gi_ext h0, if_neg h1, if_pos h2]
 refine ⟨hlen, fun j hj hm => by have := h.o2 j hj hm; omega, fun t h0 h1 hc => ?_, fun j hj hm => ?_, h.s0, fun t u t0 t1 u0 u1 ht hu he hs => ?_, ?_, fun s s0 s1 => ?_⟩
 ·by_cases c : t < out.length
  ·rw [hold h0 c]; exact h.no t h0 c hc
  ·exact hnew h0 c h1
 ·rw [hold (hg j (by omega) hm).1 (h.o2 j hj hm)]; exact h.ye j hj hm
 ·by_cases ct : t < out.length
  ·rw [hold t0 ct] at ht he hs
   by_cases cu : u < out.length
   ·rw [hold u0 cu] at hu he; exact h.uq t u t0 ct u0 cu ht hu he hs
   ·rw [hnew u0 cu u1] at he
    simp only [] at he; omega
  ·rw [hnew t0 ct t1] at hs
   simp only [] at hs; omega
 ·unfold W.ext
  rw [List.countP_append, List.countP_replicate]
  simpa [inSlot] using h.ca
 ·unfold W.ext
  rw [List.countP_append, List.countP_replicate, h.cs s s0 s1, if_neg (by simp [isSlot]; omega)]
theorem AI.ext {code : List api_Ins} {regs : Int} {i : Nat} {out : List api_Home} {act : List alloc_span} {slots d : Int} (h : AI code regs i out act) (ho : OI code regs i out slots) (hg : Good code code.length) (hi : i ≤ code.length) : AI code regs i (ext out d) act := by
 have hr : ∀ j : Nat, j < i → mks (gi code j) = true → reg (W.ext out d) (spn code j) = reg out (spn code j) := fun j hj hm => by
  unfold reg
  rw [(spn_t code j).1, gi_ext (hg j (by omega) hm).1, if_pos (ho.o2 j hj hm)]
 refine ⟨fun a ha => ?_, h.al, h.nd, fun a ha b hb e => ?_, fun j hj hm h0 => ?_, fun j k hjk hk hm hm' h0 e => ?_⟩
 ·obtain ⟨j, hj, hm, e, h0⟩ := h.ac a ha
  exact ⟨j, hj, hm, e, by rw [e, hr j hj hm, ← e]; exact h0⟩
 ·obtain ⟨j, hj, hm, e1, _⟩ := h.ac a ha
  obtain ⟨k, hk, hm', e2, _⟩ := h.ac b hb
  rw [e1, e2, hr j hj hm, hr k hk hm', ← e1, ← e2] at e
  exact h.rg a ha b hb e
 ·rw [hr j hj hm] at h0; exact h.ov j hj hm h0
 ·rw [hr j (by omega) hm] at h0 e
  rw [hr k hk hm'] at e
  exact h.ap j k hjk hk hm hm' h0 e
theorem AI.live {code : List api_Ins} {regs : Int} {i : Nat} {out : List api_Home} {act : List alloc_span} (h : AI code regs i out act) : AI code regs i out (act.filter (live i)) := by
 have hm : ∀ {a}, a ∈ act.filter (W.live i) → a ∈ act := fun h => (List.mem_filter.1 h).1
 have hl := (List.filter_sublist (p := W.live i) (l := act)).length_le
 refine ⟨fun a ha => h.ac a (hm ha), by have := h.al; omega, (List.filter_sublist.map _).nodup h.nd, fun a ha b hb e => h.rg a (hm ha) b (hm hb) e, fun j hj hmk h0 => ?_, h.ap⟩
 rcases h.ov j hj hmk h0 with c | c
 ·by_cases hlt : (spn code j).to_ < i
  ·exact .inr hlt
  ·exact .inl (List.mem_filter.2 ⟨c, by simp [W.live, hlt]⟩)
 ·exact .inr c
theorem er {all : List alloc_span} (hn : (all.map (·.temp)).Nodup) {k : Nat} (hk : k < all.length) (a : alloc_span) : a ∈ all.eraseIdx k ↔ a ∈ all ∧ a ≠ gi all k := by
 rw [List.mem_eraseIdx_iff_getElem, gi_in hk]
 constructor
 ·rintro ⟨i, hi, hne, rfl⟩
  refine ⟨List.getElem_mem hi, fun e => hne ?_⟩
  have h1 : (all.map (·.temp))[i]'(by simpa using hi) = (all.map (·.temp))[k]'(by simpa using hk) := by simp [e]
  exact (List.getElem_inj hn).1 h1
 ·rintro ⟨ha, hne⟩
  obtain ⟨i, hi, rfl⟩ := List.getElem_of_mem ha
  exact ⟨i, hi, fun e => hne (by subst e; rfl), rfl⟩

section
variable {code : List api_Ins} {regs : Int} {i : Nat}
structure Ahd (code : List api_Ins) (regs : Int) (i : Nat) (out : List api_Home) (act : List alloc_span) (slots : Int) : Prop where
 o : OI code regs i out slots
 a : AI code regs i out act
 en : slots = 0 ∨ ∃ m : Nat, m < i ∧ Over code regs m
 hi : i < code.length
 mm : mks (gi code i) = true
 dl : (gi code i).D < out.length
 lv : ∀ a ∈ act, (i : Int) ≤ a.to_
theorem pre_of {st : HS} (h : HI code regs i st) (hg : Good code code.length) (hi : i < code.length) (hm : mks (gi code i) = true) :
 Ahd code regs i (ext st.out (gi code i).D) (st.act.filter (live (spn code i).from_)) st.slots := by
 have hd := hg i hi hm
 refine ⟨h.o.ext hg (by omega) ⟨hd.1, hd.2.1⟩, ?_, h.en, hi, hm, ext_len _ _ hd.1, fun a ha => ?_⟩
 ·rw [(spn_t code i).2.1]; exact (h.a.ext h.o hg (by omega)).live
 ·have := (List.mem_filter.1 ha).2
  rw [(spn_t code i).2.1] at this
  simp only [live, Bool.not_eq_true', decide_eq_false_iff_not] at this
  omega
variable {out : List api_Home} {act : List alloc_span} {slots : Int}
theorem Ahd.ne (h : Ahd code regs i out act slots) (hg : Good code code.length) {j : Nat} (hj : j < i) (hm : mks (gi code j) = true) : (gi code j).D ≠ (gi code i).D := (hg i h.hi h.mm).2.2 j hj hm
theorem Ahd.inj (h : Ahd code regs i out act slots) (hg : Good code code.length) {j k : Nat} (hj : j ≤ i) (hk : k ≤ i) (hm : mks (gi code j) = true) (hm' : mks (gi code k) = true) (e : (gi code j).D = (gi code k).D) : j = k := by
 rcases Nat.lt_trichotomy j k with c | c | c
 ·exact absurd e ((hg k (by have := h.hi; omega) hm').2.2 j c hm)
 ·exact c
 ·exact absurd e.symm ((hg j (by have := h.hi; omega) hm).2.2 k c hm')
theorem Ahd.d (h : Ahd code regs i out act slots) (hg : Good code code.length) : 0 ≤ (gi code i).D ∧ (gi code i).D < 400 := ⟨(hg i h.hi h.mm).1, (hg i h.hi h.mm).2.1⟩
theorem Ahd.free (h : Ahd code regs i out act slots) (hg : Good code code.length) : gi out (gi code i).D = ⟨-1, -1⟩ := h.o.no _ (h.d hg).1 h.dl fun j hj hm => h.ne hg hj hm
theorem Ahd.nodup (h : Ahd code regs i out act slots) (hg : Good code code.length) : ((act ++ [spn code i]).map (·.temp)).Nodup := by
 rw [List.map_append, List.nodup_append]
 refine ⟨h.a.nd, by simp, fun t ht u hu e => ?_⟩
 obtain ⟨a, ha, rfl⟩ := List.mem_map.1 ht
 simp only [List.map_cons, List.map_nil, List.mem_singleton] at hu
 obtain ⟨j, hj, hm, ea, _⟩ := h.a.ac a ha
 rw [hu, ea, (spn_t code j).1, (spn_t code i).1] at e
 exact h.ne hg hj hm e
theorem Ahd.over (h : Ahd code regs i out act slots) (hg : Good code code.length) (hr : regs ≤ (act.length : Int)) : Over code regs i := by
 refine ⟨act ++ [spn code i], by simp; omega, h.nodup hg, fun a ha => ?_⟩
 rcases List.mem_append.1 ha with ha | ha
 ·obtain ⟨j, hj, hm, e, _⟩ := h.a.ac a ha
  exact ⟨j, by omega, hm, e, h.lv a ha⟩
 ·simp only [List.mem_singleton] at ha
  subst ha
  exact ⟨i, Nat.le_refl _, h.mm, rfl, (spn_t code i).2.2⟩
theorem gi_setD {l : List api_Home} {d t : Int} {x : api_Home} (h0 : 0 ≤ d) (h1 : d < l.length) (t0 : 0 ≤ t) (t1 : t < l.length) : gi (l.set d.toNat x) t = if t = d then x else gi l t := by
 rw [gi_set (by omega) t0 t1]
 by_cases e : t = d
 ·rw [if_pos e, if_pos (by omega)]
 ·rw [if_neg e, if_neg (by omega)]
theorem countD {l : List api_Home} {d : Int} {x : api_Home} {p : api_Home → Bool} (h0 : 0 ≤ d) (h1 : d < l.length) (hp : p (gi l d) = false) : (l.set d.toNat x).countP p = l.countP p + if p x = true then 1 else 0 := by
 have hl : d.toNat < l.length := by omega
 rw [List.countP_set hl]
 have : l[d.toNat] = gi l d := by rw [← gi_in hl]; congr 1; omega
 rw [this, hp]
 simp
theorem Ahd.stepA (h : Ahd code regs i out act slots) (hg : Good code code.length) (hr : (act.length : Int) < regs) :
 HI code regs (i + 1) ⟨out.set (spn code i).temp.toNat ⟨least act out, 0⟩, act ++ [spn code i], slots⟩ := by
 obtain ⟨r, er, rl, rh⟩ := least_ok act out
 obtain ⟨d0, d4⟩ := h.d hg
 have hdl := h.dl
 have hfree := h.free hg
 have hgi : ∀ {t : Int}, 0 ≤ t → t < out.length → gi (out.set (spn code i).temp.toNat ⟨least act out, 0⟩) t = if t = (gi code i).D then ⟨(r : Int), 0⟩ else gi out t := fun t0 t1 => by
  rw [(spn_t code i).1, gi_setD d0 hdl t0 t1, er]
 have hlen : (out.set (spn code i).temp.toNat ⟨least act out, 0⟩).length = out.length := by simp
 have hreg : ∀ {j : Nat}, j < i → mks (gi code j) = true → reg (out.set (spn code i).temp.toNat ⟨least act out, 0⟩) (spn code j) = reg out (spn code j) := fun {j} hj hm => by
  unfold reg
  rw [(spn_t code j).1, hgi (hg j (by have := h.hi; omega) hm).1 (h.o.o2 j hj hm), if_neg (h.ne hg hj hm)]
 have hregi : reg (out.set (spn code i).temp.toNat ⟨least act out, 0⟩) (spn code i) = r := by
  unfold reg
  rw [show (gi (out.set (spn code i).temp.toNat ⟨least act out, 0⟩) (spn code i).temp) = gi (out.set (spn code i).temp.toNat ⟨least act out, 0⟩) (gi code i).D by rw [(spn_t code i).1], hgi d0 hdl, if_pos rfl]
 have hno : ∀ a ∈ act, reg out a ≠ r := fun a ha e => by
  have : has act out r = true := List.any_eq_true.2 ⟨a, ha, by simp [e]⟩
  rw [rh] at this; cases this
 refine ⟨⟨by rw [hlen]; exact h.o.o1, fun j hj hm => ?_, fun t t0 t1 hc => ?_, fun j hj hm => ?_, by have := h.o.s0; simp only []; omega, fun t u t0 t1 u0 u1 ht hu e hs => ?_, ?_, fun s s0 s1 => ?_⟩, ⟨fun a ha => ?_, by simp; omega, h.nodup hg, fun a ha b hb e => ?_, fun j hj hm h0 => ?_, fun j k hjk hk hm hm' h0 e => ?_⟩, ?_⟩
 ·rw [hlen]
  by_cases e : j = i
  ·subst e; exact hdl
  ·exact h.o.o2 j (by omega) hm
 ·rw [hlen] at t1
  simp only []
  rw [hgi t0 t1, if_neg (fun e => hc i (by omega) h.mm e.symm)]
  exact h.o.no t t0 t1 fun j hj hm => hc j (by omega) hm
 ·simp only []
  by_cases e : j = i
  ·subst e
   rw [hgi d0 hdl, if_pos rfl]
   exact .inl ⟨by simp only []; omega, by simp only []; omega, rfl⟩
  ·rw [hgi (hg j (by have := h.hi; omega) hm).1 (h.o.o2 j (by omega) hm), if_neg (h.ne hg (by omega) hm)]
   exact h.o.ye j (by omega) hm
 ·simp only [] at t1 u1 ht hu e hs
  rw [hlen] at t1 u1
  rw [hgi t0 t1] at ht hs e
  rw [hgi u0 u1] at hu e
  by_cases c1 : t = (gi code i).D
  ·rw [if_pos c1] at ht; simp only [] at ht; omega
  ·by_cases c2 : u = (gi code i).D
   ·rw [if_pos c2] at hu; simp only [] at hu; omega
   ·rw [if_neg c1] at ht hs e
    rw [if_neg c2] at hu e
    exact h.o.uq t u t0 t1 u0 u1 ht hu e hs
 ·simp only []
  rw [(spn_t code i).1, er, countD d0 hdl (by rw [hfree]; rfl)]
  rw [if_neg (by simp [inSlot] <;> omega)]
  exact h.o.ca
 ·simp only [] at s1 ⊢
  rw [(spn_t code i).1, er, countD d0 hdl (by rw [hfree]; simp [isSlot]; omega), if_neg (by simp [isSlot]; omega)]
  exact h.o.cs s s0 s1
 ·rcases List.mem_append.1 ha with ha | ha
  ·obtain ⟨j, hj, hm, e, h0⟩ := h.a.ac a ha
   refine ⟨j, by omega, hm, e, ?_⟩
   simp only []
   rw [e, hreg hj hm, ← e]; exact h0
  ·simp only [List.mem_singleton] at ha
   subst ha
   exact ⟨i, by omega, h.mm, rfl, by simp only []; rw [hregi]; omega⟩
 ·simp only [] at e
  rcases List.mem_append.1 ha with ha | ha <;> rcases List.mem_append.1 hb with hb | hb
  ·obtain ⟨j, hj, hm, e1, _⟩ := h.a.ac a ha
   obtain ⟨k, hk, hm', e2, _⟩ := h.a.ac b hb
   rw [e1, e2, hreg hj hm, hreg hk hm', ← e1, ← e2] at e
   exact h.a.rg a ha b hb e
  ·simp only [List.mem_singleton] at hb
   obtain ⟨j, hj, hm, e1, _⟩ := h.a.ac a ha
   rw [e1, hb, hreg hj hm, hregi, ← e1] at e
   exact absurd e (hno a ha)
  ·simp only [List.mem_singleton] at ha
   obtain ⟨j, hj, hm, e1, _⟩ := h.a.ac b hb
   rw [e1, ha, hreg hj hm, hregi, ← e1] at e
   exact absurd e.symm (hno b hb)
  ·simp only [List.mem_singleton] at ha hb
   rw [ha, hb]
 ·simp only [] at h0 ⊢
  by_cases e : j = i
  ·subst e; exact .inl (by simp)
  ·rw [hreg (by omega) hm] at h0
   rcases h.a.ov j (by omega) hm h0 with c | c
   ·exact .inl (by simp [c])
   ·exact .inr (by omega)
 ·simp only [] at h0 e
  rw [hreg (by omega) hm] at h0 e
  by_cases c : k = i
  ·subst c
   rw [hregi] at e
   rcases h.a.ov j hjk hm h0 with c | c
   ·exact absurd e (hno _ c)
   ·exact c
  ·rw [hreg (by omega) hm'] at e
   exact h.a.ap j k hjk (by omega) hm hm' h0 e
 ·rcases h.en with c | ⟨m, hm, c⟩
  ·exact .inl c
  ·exact .inr ⟨m, by omega, c⟩
theorem Ahd.stepB (h : Ahd code regs i out act slots) (hg : Good code code.length) (hr : regs ≤ (act.length : Int)) {k : Nat} (hk : k < (act ++ [spn code i]).length) :
 HI code regs (i + 1) ⟨(out.set (spn code i).temp.toNat (gi out (gi (act ++ [spn code i]) k).temp)).set (gi (act ++ [spn code i]) k).temp.toNat ⟨-1, slots⟩, (act ++ [spn code i]).eraseIdx k, slots + 1⟩ := by
 obtain ⟨d0, d4⟩ := h.d hg
 have hdl := h.dl
 have hfree := h.free hg
 have hnd := h.nodup hg
 have hmem : gi (act ++ [spn code i]) k ∈ act ++ [spn code i] := gi_mem (by omega) (by omega)
 have her := er hnd hk
 generalize he : gi (act ++ [spn code i]) (k : Int) = e at *
 have hsl := h.o.s0
 -- which one it is
 obtain ⟨j0, hj0, hm0, e0, hcase⟩ : ∃ j0 : Nat, j0 ≤ i ∧ mks (gi code j0) = true ∧ e = spn code j0 ∧ ((j0 = i) ∨ (j0 < i ∧ e ∈ act ∧ 0 ≤ reg out e)) := by
  rcases List.mem_append.1 hmem with hm | hm
  ·obtain ⟨j, hj, hmk, e1, h0⟩ := h.a.ac e hm
   exact ⟨j, by omega, hmk, e1, .inr ⟨hj, hm, h0⟩⟩
  ·simp only [List.mem_singleton] at hm
   exact ⟨i, Nat.le_refl _, h.mm, hm, .inl rfl⟩
 have et : e.temp = (gi code j0).D := by rw [e0, (spn_t code j0).1]
 have g0 : 0 ≤ (gi code j0).D := (hg j0 (by have := h.hi; omega) hm0).1
 have g1 : (gi code j0).D < out.length := by
  rcases hcase with rfl | ⟨c, _⟩
  ·exact hdl
  ·exact h.o.o2 j0 c hm0
 have hs_t := (spn_t code i).1
 -- what stands there
 have hgi : ∀ {t : Int}, 0 ≤ t → t < out.length → gi ((out.set (spn code i).temp.toNat (gi out e.temp)).set e.temp.toNat ⟨-1, slots⟩) t = if t = (gi code j0).D then ⟨-1, slots⟩ else if t = (gi code i).D then gi out (gi code j0).D else gi out t := fun t0 t1 => by
  rw [et, hs_t, gi_setD g0 (by simpa using g1) t0 (by simpa using t1), gi_setD d0 hdl t0 t1]
 have hlen : ((out.set (spn code i).temp.toNat (gi out e.temp)).set e.temp.toNat ⟨-1, slots⟩).length = out.length := by simp
 generalize ho2 : (out.set (spn code i).temp.toNat (gi out e.temp)).set e.temp.toNat ⟨-1, slots⟩ = out2 at *
 have hne : j0 ≠ i → (gi code i).D ≠ (gi code j0).D := fun c e => h.ne hg (by omega : j0 < i) hm0 e.symm
 -- the count
 have hold : ∀ p : api_Home → Bool, p ⟨-1, -1⟩ = false → p (gi out (gi code j0).D) = false → out2.countP p = out.countP p + if p ⟨-1, slots⟩ = true then 1 else 0 := by
  intro p p1 p2
  rw [← ho2, et, hs_t, countD g0 (by simpa using g1), countD d0 hdl (by rw [hfree]; exact p1), p2]
  ·simp
  ·rw [gi_setD d0 hdl g0 g1]
   split <;> exact p2
 have hv : gi out (gi code j0).D = ⟨-1, -1⟩ ∨ (0 ≤ (gi out (gi code j0).D).Reg ∧ (gi out (gi code j0).D).Reg < regs ∧ (gi out (gi code j0).D).Slot = 0 ∧ j0 < i ∧ e ∈ act ∧ reg out e = (gi out (gi code j0).D).Reg) := by
  rcases hcase with rfl | ⟨c, hm, h0⟩
  ·exact .inl hfree
  ·right
   unfold reg at h0 ⊢
   rw [et] at h0 ⊢
   rcases h.o.ye j0 c hm0 with y | y
   ·exact ⟨y.1, y.2.1, y.2.2, c, hm, rfl⟩
   ·omega
 have hp : ∀ s : Int, 0 ≤ s → isSlot s (gi out (gi code j0).D) = false := fun s hs => by
  rcases hv with v | v
  ·rw [v]; simp [isSlot]; omega
  ·simp [isSlot]; omega
 have hpi : inSlot (gi out (gi code j0).D) = false := by
  rcases hv with v | v
  ·rw [v]; rfl
  ·simp [inSlot]; omega
 have hD : ∀ {j : Nat}, j ≤ i → mks (gi code j) = true → (gi code j).D < out.length := fun {j} hj hm => by
  by_cases c : j = i
  ·subst c; exact hdl
  ·exact h.o.o2 j (by omega) hm
 have hD0 : ∀ {j : Nat}, j ≤ i → mks (gi code j) = true → 0 ≤ (gi code j).D := fun {j} hj hm => (hg j (by have := h.hi; omega) hm).1
 have hreg : ∀ {j : Nat}, j ≤ i → mks (gi code j) = true → reg out2 (spn code j) = if j = j0 then -1 else if j = i then (gi out (gi code j0).D).Reg else reg out (spn code j) := fun {j} hj hm => by
  unfold reg
  rw [(spn_t code j).1, hgi (hD0 hj hm) (hD hj hm)]
  by_cases c : j = j0
  ·subst c; rw [if_pos rfl, if_pos rfl]
  ·rw [if_neg c, if_neg (fun e => c (h.inj hg hj hj0 hm hm0 e))]
   by_cases c2 : j = i
   ·subst c2; rw [if_pos rfl, if_pos rfl]
   ·rw [if_neg c2, if_neg (fun e => c2 (h.inj hg hj (Nat.le_refl _) hm h.mm e))]
 -- membership
 have hin : ∀ {a}, a ∈ (act ++ [spn code i]).eraseIdx k → ∃ j : Nat, j ≤ i ∧ mks (gi code j) = true ∧ a = spn code j ∧ j ≠ j0 ∧ (j = i ∨ (j < i ∧ a ∈ act ∧ 0 ≤ reg out a)) := fun {a} ha => by
  obtain ⟨h1, h2⟩ := (her a).1 ha
  rcases List.mem_append.1 h1 with hm | hm
  ·obtain ⟨j, hj, hmk, e1, h0⟩ := h.a.ac a hm
   exact ⟨j, by omega, hmk, e1, fun c => h2 (by rw [e1, c, ← e0]), .inr ⟨hj, hm, h0⟩⟩
  ·simp only [List.mem_singleton] at hm
   exact ⟨i, Nat.le_refl _, h.mm, hm, fun c => h2 (by rw [hm, c, ← e0]), .inl rfl⟩
 have hregA : ∀ {a}, a ∈ (act ++ [spn code i]).eraseIdx k → 0 ≤ reg out2 a := fun {a} ha => by
  obtain ⟨j, hj, hm, e1, hne', hc⟩ := hin ha
  rw [e1, hreg hj hm, if_neg hne']
  rcases hc with rfl | ⟨hji, ham, h0⟩
  ·rw [if_pos rfl]
   rcases hv with v | v
   ·rcases hcase with c | ⟨c, hm, h0⟩
    ·exact absurd c.symm hne'
    ·unfold reg at h0; rw [et, v] at h0; simp only [] at h0; omega
   ·exact v.1
  ·rw [if_neg (by omega), ← e1]; exact h0
 refine ⟨⟨by rw [hlen]; exact h.o.o1, fun j hj hm => by rw [hlen]; exact hD (by omega) hm, fun t t0 t1 hc => ?_, fun j hj hm => ?_, by simp only []; omega, fun t u t0 t1 u0 u1 ht hu e' hs => ?_, ?_, fun s s0 s1 => ?_⟩, ⟨fun a ha => ?_, ?_, ?_, fun a ha b hb e' => ?_, fun j hj hm h0 => ?_, fun j k' hjk hk' hm hm' h0 e' => ?_⟩, .inr ⟨i, by omega, h.over hg hr⟩⟩
 ·simp only [] at t1 ⊢
  rw [hlen] at t1
  rw [hgi t0 t1, if_neg (fun c => hc j0 (by omega) hm0 c.symm), if_neg (fun c => hc i (by omega) h.mm c.symm)]
  exact h.o.no t t0 t1 fun j hj hm => hc j (by omega) hm
 ·simp only []
  rw [hgi (hD0 (by omega) hm) (hD (by omega) hm)]
  by_cases c : (gi code j).D = (gi code j0).D
  ·rw [if_pos c]
   exact .inr ⟨rfl, by simp only []; omega, by simp only []; omega⟩
  ·rw [if_neg c]
   by_cases c2 : (gi code j).D = (gi code i).D
   ·rw [if_pos c2]
    rcases hv with v | v
    ·exfalso
     rcases hcase with c3 | ⟨c3, hme, h0⟩
     ·exact c (by rw [c2, c3])
     ·unfold reg at h0; rw [et, v] at h0; simp only [] at h0; omega
    ·exact .inl ⟨v.1, v.2.1, v.2.2.1⟩
   ·rw [if_neg c2]
    have hji : j ≠ i := fun c => c2 (by rw [c])
    rcases h.o.ye j (by omega) hm with y | y
    ·exact .inl y
    ·exact .inr ⟨y.1, y.2.1, by omega⟩
 ·simp only [] at t1 u1 ht hu e' hs
  rw [hlen] at t1 u1
  rw [hgi t0 t1] at ht hs e'
  rw [hgi u0 u1] at hu e'
  have key : ∀ {u : Int}, 0 ≤ u → u < out.length → u ≠ (gi code j0).D → (if u = (gi code i).D then gi out (gi code j0).D else gi out u).Reg < 0 → 0 ≤ (if u = (gi code i).D then gi out (gi code j0).D else gi out u).Slot → (if u = (gi code i).D then gi out (gi code j0).D else gi out u).Slot < slots ∧ u ≠ (gi code i).D := by
   intro u u0 u1 hu0 h1 h2
   by_cases c : u = (gi code i).D
   ·rw [if_pos c] at h1 h2
    rcases hv with v | v
    ·rw [v] at h2; simp only [] at h2; omega
    ·omega
   ·rw [if_neg c] at h1 ⊢
    exact ⟨h.o.lt u0 u1 h1, c⟩
  by_cases c1 : t = (gi code j0).D <;> by_cases c2 : u = (gi code j0).D
  ·rw [c1, c2]
  ·rw [if_pos c1] at hs e'
   rw [if_neg c2] at hu e'
   simp only [] at e' hs
   have := key u0 u1 c2 hu (by omega)
   omega
  ·rw [if_neg c1] at ht hs e'
   rw [if_pos c2] at e'
   simp only [] at e'
   have := key t0 t1 c1 ht hs
   omega
  ·rw [if_neg c1] at ht hs e'
   rw [if_neg c2] at hu e'
   have k1 := key t0 t1 c1 ht hs
   have k2 := key u0 u1 c2 hu (by omega)
   rw [if_neg k1.2] at ht hs e'
   rw [if_neg k2.2] at hu e'
   exact h.o.uq t u t0 t1 u0 u1 ht hu e' hs
 ·simp only []
  rw [hold inSlot rfl hpi, if_pos (by simp [inSlot]; omega)]
  have := h.o.ca
  omega
 ·simp only [] at s1 ⊢
  rw [hold (isSlot s) (by simp [isSlot]; omega) (hp s s0)]
  by_cases c : s = slots
  ·subst c
   rw [h.o.zero (Int.le_refl _), if_pos (by simp [isSlot])]
  ·rw [h.o.cs s s0 (by omega), if_neg (by simp [isSlot]; omega)]
 ·obtain ⟨j, hj, hm, e1, _, _⟩ := hin ha
  exact ⟨j, by omega, hm, e1, hregA ha⟩
 ·simp only []
  rw [List.length_eraseIdx, if_pos hk]
  have := h.a.al
  simp; omega
 ·exact ((List.eraseIdx_sublist _ _).map _).nodup hnd
 ·simp only [] at e'
  obtain ⟨j, hj, hm, e1, n1, c1⟩ := hin ha
  obtain ⟨l, hl, hm', e2, n2, c2⟩ := hin hb
  rw [e1, e2, hreg hj hm, hreg hl hm', if_neg n1, if_neg n2] at e'
  have bad : ∀ {b : alloc_span} {l : Nat}, b = spn code l → l ≠ j0 → b ∈ act → j0 ≠ i → (gi out (gi code j0).D).Reg ≠ reg out b := fun {b l} e2 n2 hb hji e' => by
   rcases hcase with c | ⟨c, hme, h0⟩
   ·exact hji c
   ·have : reg out e = reg out b := by rw [← e']; unfold reg; rw [et]
    have := h.a.rg e hme b hb this
    rw [e0, e2] at this
    have h1 := congrArg alloc_span.from_ this
    rw [(spn_t code j0).2.1, (spn_t code l).2.1] at h1
    exact n2 (by omega)
  rcases c1 with rfl | ⟨hji, ham, _⟩ <;> rcases c2 with rfl | ⟨hli, hbm, _⟩
  ·rw [e1, e2]
  ·rw [if_pos rfl, if_neg (by omega), ← e2] at e'
   exact absurd e' (bad e2 n2 hbm (fun c => n1 c.symm))
  ·rw [if_neg (by omega), if_pos rfl, ← e1] at e'
   exact absurd e'.symm (bad e1 n1 ham (fun c => n2 c.symm))
  ·rw [if_neg (by omega), if_neg (by omega), ← e1, ← e2] at e'
   exact h.a.rg a ham b hbm e'
 ·simp only [] at h0 ⊢
  rw [hreg (by omega) hm] at h0
  by_cases c : j = j0
  ·rw [if_pos c] at h0; omega
  ·rw [if_neg c] at h0
   have hnot : spn code j ≠ e := fun c2 => by
    rw [e0] at c2
    have h1 := congrArg alloc_span.from_ c2
    rw [(spn_t code j0).2.1, (spn_t code j).2.1] at h1
    exact c (by omega)
   by_cases c2 : j = i
   ·subst c2; exact .inl ((her _).2 ⟨by simp, hnot⟩)
   ·rw [if_neg c2] at h0
    rcases h.a.ov j (by omega) hm h0 with c3 | c3
    ·exact .inl ((her _).2 ⟨by simp [c3], hnot⟩)
    ·exact .inr (by omega)
 ·simp only [] at h0 e'
  rw [hreg (by omega) hm] at h0 e'
  rw [hreg (by omega) hm'] at e'
  by_cases c : j = j0
  ·rw [if_pos c] at h0; omega
  ·rw [if_neg c, if_neg (by omega)] at h0 e'
   by_cases c2 : k' = j0
   ·rw [if_pos c2] at e'; omega
   ·rw [if_neg c2] at e'
    by_cases c3 : k' = i
    ·subst c3
     rw [if_pos rfl] at e'
     rcases hcase with c4 | ⟨c4, hme, h0e⟩
     ·exact absurd c4.symm c2
     ·rcases h.a.ov j hjk hm h0 with c5 | c5
      ·exfalso
       have : reg out (spn code j) = reg out e := by rw [e']; unfold reg; rw [et]
       have := h.a.rg _ c5 e hme this
       rw [e0] at this
       have h1 := congrArg alloc_span.from_ this
       rw [(spn_t code j0).2.1, (spn_t code j).2.1] at h1
       exact c (by omega)
      ·exact c5
    ·rw [if_neg c3] at e'
     exact h.a.ap j k' hjk (by omega) hm hm' h0 e'
end

def stT (code : List api_Ins) (regs : Int) (i : Nat) : (List api_Home) × Nat × (List alloc_span) × Int × Int := ((hs code regs i).out, (hs code regs i).out.length, (hs code regs i).act, (hs code regs i).slots, (i : Int))
theorem homes_step {code : List api_Ins} {regs : Int} (hn : code.length ≤ 400) (hg : Good code code.length) (hr : 1 ≤ regs ∧ regs ≤ 8) {i : Nat} (hi : i < code.length) (h : HI code regs i (hs code regs i)) :
 alloc_Homes.l1 code regs (stT code regs i) = some (.inl (stT code regs (i + 1))) ∧ HI code regs (i + 1) (hs code regs (i + 1)) := by
 have hst : hs code regs (i + 1) = hstep code regs i (hs code regs i) := rfl
 unfold stT
 rw [hst]
 generalize hs code regs i = st at *
 unfold alloc_Homes.l1
 dsimp only
 rw [if_pos (by omega), if_pos (by omega)]
 simp only [letC]
 rw [show alloc_makes.m (gi code i) = mks (gi code i) from rfl]
 by_cases hm : mks (gi code i) = true
 ·have hp := pre_of h hg hi hm
  have hat : At code (gi code i).D i := by
   refine ⟨hi, by simp [mkt, hm], fun j hj => ?_⟩
   cases hmj : mks (gi code j)
   ·simp [mkt, hmj]
   ·have := hp.ne hg hj hmj
    simp [mkt, hmj, this]
  have hspan : alloc_spanOf.m code (gi code i).D = some (spn code i, true) := by
   rcases span_eq code (gi code i).D hn with ⟨k, hk, e⟩ | ⟨hk, _⟩
   ·rw [e, hk.uniq hat]; rfl
   ·have := hk i hi; rw [hat.2.1] at this; cases this
  have hact := h.a.al
  rw [if_pos hm, ext_eq _ _ (hp.d hg), Option.bind_some]
  dsimp only
  rw [hspan, Option.bind_some, del_eq _ _ (by omega), Option.bind_some]
  unfold hstep
  rw [if_pos hm]
  dsimp only
  have hal := hp.a.al
  have hol := hp.o.o1
  have hdl := hp.dl
  have hd := hp.d hg
  have hnd := hp.nodup hg
  have hac := hp.a.ac
  have hstA := hp.stepA hg
  have hstB := hp.stepB hg
  have ht := (spn_t code i).1
  have hfree := hp.free hg
  have hbt : ∀ a ∈ st.act.filter (live (spn code i).from_), 0 ≤ a.temp ∧ a.temp < (ext st.out (gi code i).D).length := fun a ha => by
   obtain ⟨j, hj, hmj, e, _⟩ := hac a ha
   rw [e, (spn_t code j).1]
   exact ⟨(hg j (by omega) hmj).1, hp.o.o2 j hj hmj⟩
  generalize ho : ext st.out (gi code i).D = out at *
  generalize hac' : st.act.filter (live (spn code i).from_) = act at *
  rw [clone_eq _ (by omega), Option.bind_some, if_pos (by simp; omega)]
  by_cases hf : (act.length : Int) < regs
  ·rw [if_pos hf, if_pos hf, least_eq act out hbt (by omega), Option.bind_some, if_pos (by rw [ht]; omega), if_pos (by rw [ht]; omega), wr64 (by omega)]
   exact ⟨by simp, hstA hf⟩
  ·rw [if_neg hf, if_neg hf]
   have hal1 : (act ++ [spn code i]).length = act.length + 1 := by simp
   generalize hall : act ++ [spn code i] = all at *
   have hw := weights_eq all (by omega)
   have hlw := least_w (all.map wt) (by simp; omega)
   have hb := lw_b (all.map wt) all.length
   simp only [List.length_map] at hlw
   have hk0 : 0 ≤ lw (all.map wt) all.length ∧ lw (all.map wt) all.length < all.length := by omega
   generalize lw (all.map wt) all.length = k at *
   obtain ⟨k, rfl⟩ : ∃ n : Nat, k = n := ⟨k.toNat, by omega⟩
   have hmem : gi all (k : Int) ∈ all := gi_mem (by omega) (by omega)
   have hbe : 0 ≤ (gi all (k : Int)).temp ∧ (gi all (k : Int)).temp < out.length := by
    rw [← hall] at hmem
    rcases List.mem_append.1 hmem with h1 | h1
    ·rw [hall] at h1; exact hbt _ h1
    ·simp only [List.mem_singleton] at h1
     rw [← hall, h1, ht]; omega
   have hsl := h.o.s0
   rw [if_pos (by omega), Int.toNat_natCast, hw, Option.bind_some, hlw, Option.bind_some, if_pos (by omega), if_pos hbe, if_pos hbe, if_pos (by rw [ht]; omega), if_pos (by rw [ht]; omega), if_pos hbe, if_pos (by simpa using hbe), delete_eq all k (by omega) (by omega), Option.bind_some, wr64 (by omega), wr64 (by omega), Int.toNat_natCast]
   exact ⟨by simp, hstB (by omega) (by omega)⟩
 ·rw [if_neg hm]
  unfold hstep
  rw [if_neg hm, wr64 (by omega)]
  refine ⟨rfl, ⟨⟨h.o.o1, fun j hj hmj => ?_, fun t t0 t1 hc => h.o.no t t0 t1 fun j hj => hc j (by omega), fun j hj hmj => ?_, by have := h.o.s0; omega, h.o.uq, h.o.ca, h.o.cs⟩, ⟨fun a ha => ?_, h.a.al, h.a.nd, h.a.rg, fun j hj hmj h0 => ?_, fun j k hjk hk hmj hmk h0 e => ?_⟩, ?_⟩⟩
  ·have : j ≠ i := by rintro rfl; exact hm hmj
   exact h.o.o2 j (by omega) hmj
  ·have : j ≠ i := by rintro rfl; exact hm hmj
   exact h.o.ye j (by omega) hmj
  ·obtain ⟨j, hj, r⟩ := h.a.ac a ha
   exact ⟨j, by omega, r⟩
  ·have : j ≠ i := by rintro rfl; exact hm hmj
   rcases h.a.ov j (by omega) hmj h0 with c | c
   ·exact .inl c
   ·exact .inr (by omega)
  ·have : k ≠ i := by rintro rfl; exact hm hmk
   exact h.a.ap j k hjk (by omega) hmj hmk h0 e
  ·rcases h.en with c | ⟨m, hm', c⟩
   ·exact .inl c
   ·exact .inr ⟨m, by omega, c⟩
theorem hs_ok {code : List api_Ins} {regs : Int} (hn : code.length ≤ 400) (hg : Good code code.length) (hr : 1 ≤ regs ∧ regs ≤ 8) : ∀ i, i ≤ code.length → HI code regs i (hs code regs i)
 | 0, _ => ⟨⟨by simp [hs], fun j hj => by omega, fun t t0 t1 => by simp [hs] at t1; omega, fun j hj => by omega, by simp [hs], fun t u t0 t1 => by simp [hs] at t1; omega, by simp [hs], fun s s0 s1 => by simp [hs] at s1; omega⟩,
  ⟨fun a ha => by simp [hs] at ha, by simp [hs]; omega, by simp [hs], fun a ha => by simp [hs] at ha, fun j hj => by omega, fun j k hjk hk => by omega⟩, .inl rfl⟩
 | i + 1, hi => (homes_step hn hg hr (by omega) (hs_ok hn hg hr i (by omega))).2
theorem homes_T (code : List api_Ins) (l : List api_Loc) (regs : Int) (hn : code.length ≤ 400) (hl : l.length ≤ 16) :
 Tot (fun r => match r with
  | .inl n => n = 1 ∨ n = 3
  | .inr z => Good code code.length ∧ 1 ≤ regs ∧ regs ≤ 8 ∧ z = ((hs code regs code.length).out, (hs code regs code.length).out.length) ∧ HI code regs code.length (hs code regs code.length)) (alloc_Homes.m code l regs) := by
 unfold alloc_Homes.m
 refine .bind (right_T code l hn hl) fun b hb => .ite (fun hbt => ?_) fun _ => .some (.inr rfl)
 have hg := hb hbt
 refine .bind (R := fun b => b = false → 1 ≤ regs ∧ regs ≤ 8) (.ite (fun _ => .some fun e => by cases e) fun h1 => .some fun e => ?_) fun b hb => .ite (fun _ => .some (.inl rfl)) fun hbf => ?_
 ·have := of_decide_eq_false e
  omega
 ·have hr := hb (by simpa using hbf)
  have := loop_st (f := alloc_Homes.l1 code regs) code.length (stT code regs) ((hs code regs code.length).out, (hs code regs code.length).out.length) (fun i hi => (homes_step hn hg hr hi (hs_ok hn hg hr i (by omega))).1) (by
   unfold stT alloc_Homes.l1
   dsimp only
   rw [if_neg (by omega)])
  exact .bindE (y := ((hs code regs code.length).out, (hs code regs code.length).out.length)) this (.some ⟨hg, hr.1, hr.2, rfl, hs_ok hn hg hr _ (Nat.le_refl _)⟩)

def alloc_Span.m (code : List api_Ins) (t : Int) : Option (Int × Int × Bool) := (alloc_spanOf.m code t).bind fun r => some (r.1.from_, r.1.to_, r.2)
theorem span_c {code : List api_Ins} (hn : code.length ≤ 400) (t : Int) :
 (∃ j : Nat, j < code.length ∧ mks (gi code j) = true ∧ (gi code j).D = t ∧ alloc_Span.m code t = some ((j : Int), (spn code j).to_, true)) ∨
 ((∀ j : Nat, j < code.length → mks (gi code j) = true → (gi code j).D ≠ t) ∧ alloc_Span.m code t = some (0, 0, false)) := by
 unfold alloc_Span.m
 rcases span_eq code t hn with ⟨j, hj, e⟩ | ⟨hj, e⟩
 ·have hm := hj.2.1
  simp only [mkt, Bool.and_eq_true, decide_eq_true_eq] at hm
  refine .inl ⟨j, hj.1, hm.1, hm.2, ?_⟩
  rw [e, Option.bind_some, ← hm.2]
  have := (spn_t code j).2.1
  unfold spn at this ⊢
  rw [this]
 ·refine .inr ⟨fun j hj' hm e' => ?_, by rw [e]; rfl⟩
  have := hj j hj'
  simp [mkt, hm, e'] at this
end Go.Proofs.Ytbhekpcimmaijaa.W
namespace Go.Proofs.Ytbhekpcimmaijaa.W
open Go Go.RowKit Go.Proofs.Ytbhekpcimmaijaa Go.Proofs.Ytbhekpcimmaijaa.X
open Go.Proofs.Ytbhekpcimmaijaa.B (wr aget aset loop loop_in loop_out loop_tot)

def sh (op : Int) : tree_uses := (tree_shape.m op).1
def isOp (op : Int) : Bool := (tree_shape.m op).2
theorem has_a (op : Int) : selvageref10_Has.m op 97 = some (sh op).a := by
 unfold sh; rcases ops_c op with h | h
 ·rcases h with rfl | rfl | rfl | rfl | rfl | rfl | rfl | rfl | rfl | rfl | rfl | rfl | rfl | rfl | rfl | rfl | rfl | rfl <;> exact OLe.to (selvageref10_Has.k_le _ _) (by kernel_rfl)
 ·have e : selvageref10_letters.m op = ⟨#[]⟩ := by simp [selvageref10_letters.m, letC, h]
  have e2 : tree_shape.m op = (⟨false, false, false, false, false, false, false, false⟩, false) := by simp [tree_shape.m, letC, h]
  unfold selvageref10_Has.m
  rw [e, e2]
  simp only [letC]
  rw [loop_out (f := selvageref10_Has.l1 _ ⟨#[]⟩) (o := .inr ()) (by kernel_rfl)]
  rfl
theorem has_b (op : Int) : selvageref10_Has.m op 98 = some (sh op).b := by
 unfold sh; rcases ops_c op with h | h
 ·rcases h with rfl | rfl | rfl | rfl | rfl | rfl | rfl | rfl | rfl | rfl | rfl | rfl | rfl | rfl | rfl | rfl | rfl | rfl <;> exact OLe.to (selvageref10_Has.k_le _ _) (by kernel_rfl)
 ·have e : selvageref10_letters.m op = ⟨#[]⟩ := by simp [selvageref10_letters.m, letC, h]
  have e2 : tree_shape.m op = (⟨false, false, false, false, false, false, false, false⟩, false) := by simp [tree_shape.m, letC, h]
  unfold selvageref10_Has.m
  rw [e, e2]
  simp only [letC]
  rw [loop_out (f := selvageref10_Has.l1 _ ⟨#[]⟩) (o := .inr ()) (by kernel_rfl)]
  rfl
theorem has_d (op : Int) : selvageref10_Has.m op 100 = some (sh op).d := by
 unfold sh; rcases ops_c op with h | h
 ·rcases h with rfl | rfl | rfl | rfl | rfl | rfl | rfl | rfl | rfl | rfl | rfl | rfl | rfl | rfl | rfl | rfl | rfl | rfl <;> exact OLe.to (selvageref10_Has.k_le _ _) (by kernel_rfl)
 ·have e : selvageref10_letters.m op = ⟨#[]⟩ := by simp [selvageref10_letters.m, letC, h]
  have e2 : tree_shape.m op = (⟨false, false, false, false, false, false, false, false⟩, false) := by simp [tree_shape.m, letC, h]
  unfold selvageref10_Has.m
  rw [e, e2]
  simp only [letC]
  rw [loop_out (f := selvageref10_Has.l1 _ ⟨#[]⟩) (o := .inr ()) (by kernel_rfl)]
  rfl
theorem has_k (op : Int) : selvageref10_Has.m op 107 = some (sh op).k := by
 unfold sh; rcases ops_c op with h | h
 ·rcases h with rfl | rfl | rfl | rfl | rfl | rfl | rfl | rfl | rfl | rfl | rfl | rfl | rfl | rfl | rfl | rfl | rfl | rfl <;> exact OLe.to (selvageref10_Has.k_le _ _) (by kernel_rfl)
 ·have e : selvageref10_letters.m op = ⟨#[]⟩ := by simp [selvageref10_letters.m, letC, h]
  have e2 : tree_shape.m op = (⟨false, false, false, false, false, false, false, false⟩, false) := by simp [tree_shape.m, letC, h]
  unfold selvageref10_Has.m
  rw [e, e2]
  simp only [letC]
  rw [loop_out (f := selvageref10_Has.l1 _ ⟨#[]⟩) (o := .inr ()) (by kernel_rfl)]
  rfl
theorem has_t (op : Int) : selvageref10_Has.m op 116 = some (sh op).to_ := by
 unfold sh; rcases ops_c op with h | h
 ·rcases h with rfl | rfl | rfl | rfl | rfl | rfl | rfl | rfl | rfl | rfl | rfl | rfl | rfl | rfl | rfl | rfl | rfl | rfl <;> exact OLe.to (selvageref10_Has.k_le _ _) (by kernel_rfl)
 ·have e : selvageref10_letters.m op = ⟨#[]⟩ := by simp [selvageref10_letters.m, letC, h]
  have e2 : tree_shape.m op = (⟨false, false, false, false, false, false, false, false⟩, false) := by simp [tree_shape.m, letC, h]
  unfold selvageref10_Has.m
  rw [e, e2]
  simp only [letC]
  rw [loop_out (f := selvageref10_Has.l1 _ ⟨#[]⟩) (o := .inr ()) (by kernel_rfl)]
  rfl
theorem has_m (op : Int) : selvageref10_Has.m op 109 = some (sh op).atomic := by
 unfold sh; rcases ops_c op with h | h
 ·rcases h with rfl | rfl | rfl | rfl | rfl | rfl | rfl | rfl | rfl | rfl | rfl | rfl | rfl | rfl | rfl | rfl | rfl | rfl <;> exact OLe.to (selvageref10_Has.k_le _ _) (by kernel_rfl)
 ·have e : selvageref10_letters.m op = ⟨#[]⟩ := by simp [selvageref10_letters.m, letC, h]
  have e2 : tree_shape.m op = (⟨false, false, false, false, false, false, false, false⟩, false) := by simp [tree_shape.m, letC, h]
  unfold selvageref10_Has.m
  rw [e, e2]
  simp only [letC]
  rw [loop_out (f := selvageref10_Has.l1 _ ⟨#[]⟩) (o := .inr ()) (by kernel_rfl)]
  rfl
theorem has_r (op : Int) : selvageref10_Has.m op 114 = some (sh op).row := by
 unfold sh; rcases ops_c op with h | h
 ·rcases h with rfl | rfl | rfl | rfl | rfl | rfl | rfl | rfl | rfl | rfl | rfl | rfl | rfl | rfl | rfl | rfl | rfl | rfl <;> exact OLe.to (selvageref10_Has.k_le _ _) (by kernel_rfl)
 ·have e : selvageref10_letters.m op = ⟨#[]⟩ := by simp [selvageref10_letters.m, letC, h]
  have e2 : tree_shape.m op = (⟨false, false, false, false, false, false, false, false⟩, false) := by simp [tree_shape.m, letC, h]
  unfold selvageref10_Has.m
  rw [e, e2]
  simp only [letC]
  rw [loop_out (f := selvageref10_Has.l1 _ ⟨#[]⟩) (o := .inr ()) (by kernel_rfl)]
  rfl
theorem has_l (op : Int) : selvageref10_Has.m op 108 = some ((sh op).place && !(sh op).atomic && !(sh op).row) := by
 unfold sh; rcases ops_c op with h | h
 ·rcases h with rfl | rfl | rfl | rfl | rfl | rfl | rfl | rfl | rfl | rfl | rfl | rfl | rfl | rfl | rfl | rfl | rfl | rfl <;> exact OLe.to (selvageref10_Has.k_le _ _) (by kernel_rfl)
 ·have e : selvageref10_letters.m op = ⟨#[]⟩ := by simp [selvageref10_letters.m, letC, h]
  have e2 : tree_shape.m op = (⟨false, false, false, false, false, false, false, false⟩, false) := by simp [tree_shape.m, letC, h]
  unfold selvageref10_Has.m
  rw [e, e2]
  simp only [letC]
  rw [loop_out (f := selvageref10_Has.l1 _ ⟨#[]⟩) (o := .inr ()) (by kernel_rfl)]
  rfl
theorem sh_place (op : Int) : ((sh op).row = true → (sh op).place = true) ∧ ((sh op).atomic = true → (sh op).place = true) ∧ ((sh op).row = true → (sh op).atomic = false) := by
 unfold sh
 rcases ops_c op with h | h
 ·rcases h with rfl | rfl | rfl | rfl | rfl | rfl | rfl | rfl | rfl | rfl | rfl | rfl | rfl | rfl | rfl | rfl | rfl | rfl <;> exact ⟨by decide, by decide, by decide⟩
 ·have e2 : tree_shape.m op = (⟨false, false, false, false, false, false, false, false⟩, false) := by simp [tree_shape.m, letC, h]
  rw [e2]; exact ⟨by decide, by decide, by decide⟩
theorem letters_e (op : Int) : ((selvageref10_letters.m op).toList == (⟨#[]⟩ : ByteArray).toList) = !isOp op := by
 unfold isOp
 rcases ops_c op with h | h
 ·rcases h with rfl | rfl | rfl | rfl | rfl | rfl | rfl | rfl | rfl | rfl | rfl | rfl | rfl | rfl | rfl | rfl | rfl | rfl <;> kernel_rfl
 ·have e : selvageref10_letters.m op = ⟨#[]⟩ := by simp [selvageref10_letters.m, letC, h]
  have e2 : tree_shape.m op = (⟨false, false, false, false, false, false, false, false⟩, false) := by simp [tree_shape.m, letC, h]
  rw [e, e2]; simp
theorem mks_sh (x : api_Ins) : mks x = (sh x.Op).d := mks_shape x
theorem nds_sh (x : api_Ins) (t : Int) : nds x t = ((sh x.Op).a && decide (x.A = t) || (sh x.Op).b && decide (x.B = t)) := by
 unfold nds alloc_needs.m sh tree_shape.m letC
 generalize x.Op = op
 rcases ops_c op with h | h
 ·rcases h with rfl | rfl | rfl | rfl | rfl | rfl | rfl | rfl | rfl | rfl | rfl | rfl | rfl | rfl | rfl | rfl | rfl | rfl <;> simp <;> by_cases h1 : x.A = t <;> simp [h1]
 ·simp [h]
def TempP (u : Bool) (n : Int) : Prop := (u = true → 0 ≤ n ∧ n < 400) ∧ (u = false → n = 0)
theorem temp_iff (u : Bool) (n : Int) : tree_temp.m u n = true ↔ TempP u n := by
 unfold tree_temp.m TempP
 cases u
 ·simp
 ·by_cases h1 : n ≥ 0 <;> by_cases h2 : n < 400 <;> simp [h1, h2] <;> omega
theorem field_iff (u : Bool) (n : Int) : selvageref10_field.m u n = true ↔ TempP u n := by
 unfold selvageref10_field.m TempP
 cases u
 ·simp
 ·by_cases h1 : n ≥ 0 <;> simp [h1] <;> omega
def wid (u : tree_uses) (x : api_Ins) : Int := if u.row = true then x.Len else 1
def PlP (u : tree_uses) (x : api_Ins) (l : List api_Loc) : Prop :=
 (u.place = true → (u.row = false → x.Len = 0) ∧ 1 ≤ wid u x ∧ 0 ≤ x.Loc ∧ x.Loc + wid u x ≤ l.length ∧ ∀ k : Int, x.Loc ≤ k → k < x.Loc + wid u x → (gi l k).Atomic = u.atomic) ∧ (u.place = false → x.Loc = 0 ∧ x.Len = 0)
theorem gi_part {α : Type} [Inhabited α] {l : List α} {o n : Nat} {i : Int} (h0 : 0 ≤ i) (h1 : i < n) : gi ((l.drop o).take n) i = gi l (o + i) := by
 unfold gi
 rw [List.getD_eq_getElem?_getD, List.getD_eq_getElem?_getD, List.getElem?_take, if_pos (by omega), List.getElem?_drop]
 congr 2; omega
theorem places_iff (u : tree_uses) (x : api_Ins) (l : List api_Loc) (hl : l.length ≤ 16) : Tot (fun b => b = true ↔ PlP u x l) (tree_places.m u x l) := by
 unfold tree_places.m PlP
 refine .ite (fun hp => ?_) fun hp => .ite (fun h => .some ?_) fun h => .some ?_
 ·refine .bind (R := fun o => match o with | .inl n => n = wid u x ∧ (u.row = false → x.Len = 0) | .inr _ => u.row = false ∧ x.Len ≠ 0) ?_ fun o ho => ?_
  ·unfold wid
   exact .ite (fun h => .some ⟨by rw [if_pos h], fun e => by rw [h] at e; cases e⟩) fun h => .ite (fun h2 => .some ⟨by rw [if_neg h], fun _ => h2⟩) fun h2 => .some ⟨by simpa using h, h2⟩
  cases o with
  | inr o => exact .some (by simp only [hp]; simp; intro h; exact absurd (h ho.1) ho.2)
  | inl n =>
   obtain ⟨hn, hlen⟩ := ho
   rw [← hn]
   refine .bind (R := fun b => (b = false ↔ 1 ≤ n ∧ n ≤ l.length ∧ 0 ≤ x.Loc ∧ x.Loc + n ≤ l.length)) ?_ fun b hb => ?_
   ·refine .ite (fun h1 => .some (by simp; omega)) fun h1 => .ite (fun h2 => .some (by simp; omega)) fun h2 => .ite (fun h3 => .some (by simp; omega)) fun h3 => .let fun v hv => ?_
    rw [wr64 (by omega)] at hv
    refine .some ?_
    rw [decide_eq_false_iff_not]; omega
   ·refine .ite (fun h => .some ?_) fun h => ?_
    ·simp only [hp]
     have : ¬ (1 ≤ n ∧ n ≤ l.length ∧ 0 ≤ x.Loc ∧ x.Loc + n ≤ l.length) := fun c => by have := hb.2 c; rw [h] at this; cases this
     simp; intro _ h1 h2 h3
     exact absurd ⟨h1, by omega, h2, h3⟩ this
    ·obtain ⟨b1, b2, b3, b4⟩ := hb.1 (by simpa using h)
     rw [wr64 (by omega)]
     refine Tot.gd (by omega) ?_
     refine Tot.let fun v hv => ?_
     have hvl : v.length = n.toNat := by rw [hv]; simp; omega
     have hvi : ∀ i : Nat, i < n.toNat → gi v i = gi l (x.Loc + i) := fun i hi => by
      rw [hv, gi_part (by omega) (by omega)]; congr 1; omega
     refine .bind (R := fun o => (o = .inr () ↔ ∀ k : Int, x.Loc ≤ k → k < x.Loc + n → (gi l k).Atomic = u.atomic)) ?_ fun o ho => ?_
     ·refine loop_T (f := tree_places.l1 u v) v.length (fun i s => s = (i : Int) ∧ ∀ j : Nat, j < i → (gi l (x.Loc + j)).Atomic = u.atomic) (fun i s hi hs => ?_) (fun s hs => ?_) ⟨rfl, fun j hj => by omega⟩
      ·obtain ⟨rfl, hs⟩ := hs
       unfold tree_places.l1
       refine .tt (by omega) ?_
       refine Tot.gd (by omega) ?_
       refine Tot.let fun w hw => ?_
       rw [hvi i (by omega)] at hw
       refine .ite (fun he => .some ⟨by rw [wr64 (by omega)]; rfl, fun j hj => ?_⟩) fun he => .some ?_
       ·by_cases e : j = i
        ·subst e; rw [← hw]; simpa using he
        ·exact hs j (by omega)
       ·simp only [reduceCtorEq, false_iff]
        intro c
        have := c (x.Loc + i) (by omega) (by omega)
        rw [← hw] at this
        exact he (by simpa using this)
      ·obtain ⟨rfl, hs⟩ := hs
       unfold tree_places.l1
       refine .ff (by omega) (.some ?_)
       simp only [true_iff]
       intro k h1 h2
       have := hs (k - x.Loc).toNat (by omega)
       rw [← this]; congr 1; congr 1; omega
     ·have key : ∀ c : Prop, (c ↔ ∀ k : Int, x.Loc ≤ k → k < x.Loc + n → (gi l k).Atomic = u.atomic) → (c ↔ (u.place = true → (u.row = false → x.Len = 0) ∧ 1 ≤ n ∧ 0 ≤ x.Loc ∧ x.Loc + n ≤ l.length ∧ ∀ k : Int, x.Loc ≤ k → k < x.Loc + n → (gi l k).Atomic = u.atomic) ∧ (u.place = false → x.Loc = 0 ∧ x.Len = 0)) := fun c hc => by
       rw [hc]
       constructor
       ·exact fun h => ⟨fun _ => ⟨hlen, b1, b3, b4, h⟩, fun e => by rw [hp] at e; cases e⟩
       ·exact fun h => (h.1 hp).2.2.2.2
      cases o with
      | inl o => exact .some (key _ (by rw [← ho]; simp))
      | inr o => exact .some (key _ (by rw [← ho]; simp))
 ·have hp : u.place = false := by simpa using hp
  simp [hp, h]
 ·have hp : u.place = false := by simpa using hp
  simp [hp, h]
structure PP (x : api_Ins) (i n : Int) (l : List api_Loc) : Prop where
 op : isOp x.Op = true
 d : TempP (sh x.Op).d x.D
 a : TempP (sh x.Op).a x.A
 b : TempP (sh x.Op).b x.B
 k : (sh x.Op).k = false → x.K = 0
 pl : PlP (sh x.Op) x l
 to1 : (sh x.Op).to_ = true → i + 1 < x.To ∧ x.To < n
 to0 : (sh x.Op).to_ = false → x.To = 0
theorem plain_iff (x : api_Ins) (i n : Int) (l : List api_Loc) (hi : 0 ≤ i ∧ i < n) (hn : n ≤ 400) (hl : l.length ≤ 16) : Tot (fun b => b = true ↔ PP x i n l) (selvageref10_plain.m x i n l) := by
 unfold selvageref10_plain.m
 refine .bind (R := fun b => b = false ↔ (isOp x.Op = true ∧ TempP (sh x.Op).d x.D ∧ TempP (sh x.Op).a x.A ∧ TempP (sh x.Op).b x.B ∧ ((sh x.Op).k = false → x.K = 0))) ?_ fun b1 hb1 => ?_
 ·simp only [letC]
  rw [letters_e, has_d, has_a, has_b, has_k]
  simp only [Option.bind_some]
  refine .ite (fun h => .some ?_) fun h0 => .ite (fun h1 => .ite (fun h2 => .ite (fun h3 => .ite (fun h4 => .some ?_) fun h4 => .some ?_) fun h3 => .some ?_) fun h2 => .some ?_) fun h1 => .some ?_
  ·simp at h; simp [h]
  ·rw [field_iff] at h1 h2 h3; simp at h0; simp [h0, h1, h2, h3, h4]
  ·rw [field_iff] at h1 h2 h3; simp at h0; simp [h0, h1, h2, h3, h4]
  ·rw [field_iff] at h1 h2 h3; simp [h3]
  ·rw [field_iff] at h1 h2; simp [h2]
  ·rw [field_iff] at h1; simp [h1]
 refine .ite (fun h => .some ⟨fun e => (by cases e), fun p => ?_⟩) fun h => ?_
 ·have := hb1.2 ⟨p.op, p.d, p.a, p.b, p.k⟩; rw [h] at this; cases this
 obtain ⟨q1, q2, q3, q4, q5⟩ := hb1.1 (by simpa using h)
 rw [has_t]
 simp only [Option.bind_some]
 refine .bind (R := fun o => o = .inr () ↔ (((sh x.Op).to_ = true → i + 1 < x.To ∧ x.To < n) ∧ ((sh x.Op).to_ = false → x.To = 0))) ?_ fun o ho => ?_
 ·rw [wr64 (by omega), wr64 (by omega)]
  refine .ite (fun h1 => .ite (fun h2 => .some ?_) fun h2 => .ite (fun h3 => .some ?_) fun h3 => .some ?_) fun h1 => .ite (fun h2 => .some ?_) fun h2 => .some ?_
  ·simp [h1]; omega
  ·simp [h1]; omega
  ·simp [h1]; omega
  ·simp [h1, h2]
  ·simp [h1, h2]
 cases o with
 | inl o => exact .some ⟨fun e => (by cases e), fun p => by have := ho.2 ⟨p.to1, p.to0⟩; cases this⟩
 | inr o =>
  obtain ⟨q6, q7⟩ := ho.1 rfl
  have fin : ∀ c : Prop, (c ↔ PlP (sh x.Op) x l) → (c ↔ PP x i n l) := fun c hc => by
   rw [hc]; exact ⟨fun h => ⟨q1, q2, q3, q4, q5, h, q6, q7⟩, fun h => h.pl⟩
  dsimp only
  rw [has_l, has_m, has_r]
  simp only [Option.bind_some]
  obtain ⟨s1, s2, s3⟩ := sh_place x.Op
  refine .mono (Q := fun b => b = true ↔ PlP (sh x.Op) x l) ?_ fun b hb => fin _ hb
  generalize sh x.Op = u at *
  unfold PlP
  refine .bind (R := fun b => b = false ↔ ((u.row = true → 1 ≤ x.Len ∧ x.Len ≤ 16) ∧ (u.row = false → x.Len = 0))) ?_ fun b hb => ?_
  ·refine .ite (fun h1 => .ite (fun h2 => .some ?_) fun h2 => .some ?_) fun h1 => .ite (fun h2 => .some ?_) fun h2 => .some ?_
   ·simp [h1]; omega
   ·rw [decide_eq_false_iff_not]; simp [h1]; omega
   ·simp [h1, h2]
   ·simp [h1, h2]
  have hw0 : u.row = false → wid u x = 1 := fun h => by unfold wid; rw [h]; simp
  have hw1 : u.row = true → wid u x = x.Len := fun h => by unfold wid; rw [if_pos h]
  refine .ite (fun h => .some ⟨fun e => (by cases e), fun p => ?_⟩) fun h => ?_
  ·have : b = false := hb.2 (by
    cases hr : u.row
    ·refine ⟨fun e => (by cases e), fun _ => ?_⟩
     cases hp : u.place
     ·exact (p.2 hp).2
     ·exact (p.1 hp).1 hr
    ·refine ⟨fun _ => ?_, fun e => (by cases e)⟩
     have := p.1 (s1 hr)
     rw [hw1 hr] at this
     omega)
   rw [h] at this; cases this
  obtain ⟨r1, r2⟩ := hb.1 (by simpa using h)
  refine .bind (R := fun b => b = true ↔ u.place = false) ?_ fun b hb => ?_
  ·refine .ite (fun h1 => .some ?_) fun h1 => .ite (fun h2 => .some ?_) fun h2 => .some ?_
   ·simp only [Bool.and_eq_true] at h1; simp [h1.1.1]
   ·simp [s2 h2]
   ·cases hr : u.row
    ·cases hp : u.place
     ·simp
     ·exfalso; apply h1; simp [hp, hr]; simpa using h2
    ·simp [s1 hr]
  refine .ite (fun h => .some ?_) fun h => ?_
  ·have hp := hb.1 h
   have hr : u.row = false := by
    cases hr : u.row
    ·rfl
    ·have := s1 hr; rw [hp] at this; cases this
   simp [hp, r2 hr]
  ·have hp : u.place = true := by
    cases hp : u.place
    ·exact absurd (hb.2 hp) h
    ·rfl
   have hwid : 1 ≤ wid u x ∧ wid u x ≤ 16 := by
    cases hr : u.row
    ·rw [hw0 hr]; omega
    ·rw [hw1 hr]; exact r1 hr
   refine .bind (R := fun b => b = false ↔ (0 ≤ x.Loc ∧ x.Loc < l.length)) (.ite (fun h1 => .some (by simp; omega)) fun h1 => .some (by rw [decide_eq_false_iff_not]; omega)) fun b hb => ?_
   refine .ite (fun h => .some ⟨fun e => (by cases e), fun p => ?_⟩) fun h => ?_
   ·have := p.1 hp
    have : b = false := hb.2 ⟨by omega, by omega⟩
    rw [h] at this; cases this
   obtain ⟨l1, l2⟩ := hb.1 (by simpa using h)
   refine .bind (R := fun o => o = x.Loc + wid u x - 1) ?_ fun o ho => ?_
   ·refine .ite (fun hr => ?_) fun hr => .some (by rw [hw0 (by simpa using hr)]; omega)
    simp only [letC]
    rw [hw1 hr] at hwid ⊢
    rw [wr64 (x := x.Loc + x.Len) (by omega), wr64 (by omega)]
    exact .some rfl
   subst ho
   have main : Tot (fun o => (o = .inr () ↔ (x.Loc + wid u x ≤ l.length ∧ ∀ k : Int, x.Loc ≤ k → k < x.Loc + wid u x → (gi l k).Atomic = u.atomic))) (loop (selvageref10_plain.l1 l u.atomic (x.Loc + wid u x - 1)) x.Loc) := by
    refine loop_T (wid u x).toNat (fun i s => s = x.Loc + i ∧ (0 < i → x.Loc + i ≤ l.length) ∧ ∀ k : Int, x.Loc ≤ k → k < x.Loc + i → (gi l k).Atomic = u.atomic) (fun i s hi hs => ?_) (fun s hs => ?_) ⟨by omega, fun h => by omega, fun k _ _ => by omega⟩
    ·obtain ⟨rfl, hb0, hs⟩ := hs
     unfold selvageref10_plain.l1
     refine .tt (by omega) (.ite (fun hge => .some ?_) fun hge => ?_)
     ·simp only [reduceCtorEq, false_iff]; intro c; omega
     refine Tot.gd (by omega) ?_
     refine Tot.let fun w hw => ?_
     refine .ite (fun he => .some ⟨by rw [wr64 (by omega)]; omega, fun _ => by omega, fun k k0 k1 => ?_⟩) fun he => .some ?_
     ·by_cases e : k = x.Loc + i
      ·rw [e, ← hw]; simpa using he
      ·exact hs k k0 (by omega)
     ·simp only [reduceCtorEq, false_iff]
      intro c
      have := c.2 (x.Loc + i) (by omega) (by omega)
      rw [← hw] at this
      exact he (by simpa using this)
    ·obtain ⟨rfl, hb0, hs⟩ := hs
     unfold selvageref10_plain.l1
     refine .ff (by omega) (.some ?_)
     simp only [true_iff]
     exact ⟨by have := hb0 (by omega); omega, fun k k0 k1 => hs k k0 (by omega)⟩
   refine .bind main fun o ho => ?_
   have key : ∀ c : Prop, (c ↔ (x.Loc + wid u x ≤ l.length ∧ ∀ k : Int, x.Loc ≤ k → k < x.Loc + wid u x → (gi l k).Atomic = u.atomic)) → (c ↔ (u.place = true → (u.row = false → x.Len = 0) ∧ 1 ≤ wid u x ∧ 0 ≤ x.Loc ∧ x.Loc + wid u x ≤ l.length ∧ ∀ k : Int, x.Loc ≤ k → k < x.Loc + wid u x → (gi l k).Atomic = u.atomic) ∧ (u.place = false → x.Loc = 0 ∧ x.Len = 0)) := fun c hc => by
    rw [hc]
    constructor
    ·exact fun h => ⟨fun _ => ⟨r2, hwid.1, l1, h.1, h.2⟩, fun e => by rw [hp] at e; cases e⟩
    ·exact fun h => ⟨(h.1 hp).2.2.2.1, (h.1 hp).2.2.2.2⟩
   cases o with
   | inl o => exact .some (key _ (by rw [← ho]; simp))
   | inr o => exact .some (key _ (by rw [← ho]; simp))

def isP (code : List api_Ins) (k j : Nat) : Bool := decide (k + 1 = j ∧ (gi code k).Op ≠ 18) || ((sh (gi code k).Op).to_ && decide ((gi code k).To = (j : Int)))
def preds (code : List api_Ins) (i : Nat) : List Nat := (List.range i).filter fun k => isP code k i
inductive Anc (code : List api_Ins) : Nat → Nat → Prop
 | one {i k : Nat} (h : preds code i = [k]) : Anc code i k
 | step {i j k : Nat} (h : preds code i = [j]) (r : Anc code j k) : Anc code i k
theorem preds_lt {code : List api_Ins} {i k : Nat} {r : List Nat} (h : preds code i = k :: r) : k < i := by
 have : k ∈ preds code i := by rw [h]; simp
 exact List.mem_range.1 (List.mem_filter.1 this).1
theorem Anc.lt {code : List api_Ins} {i k : Nat} (h : Anc code i k) : k < i := by
 induction h with
 | one h => exact preds_lt h
 | step h _ ih => have := preds_lt h; omega
theorem Anc.iff {code : List api_Ins} {i p : Nat} (h : preds code i = [p]) (k : Nat) : Anc code i k ↔ p = k ∨ Anc code p k := by
 constructor
 ·intro c
  cases c with
  | one h' => rw [h] at h'; exact .inl (by simpa using h')
  | @step _ j _ h' r =>
   rw [h] at h'
   have e : p = j := by simpa using h'
   subst e
   exact .inr r
 ·rintro (rfl | c)
  ·exact .one h
  ·exact .step h c
def UA (code : List api_Ins) (i : Nat) (t : Int) : Prop := ∃ k, Anc code i k ∧ mks (gi code k) = true ∧ (gi code k).D = t
theorem UA.iff {code : List api_Ins} {i p : Nat} (h : preds code i = [p]) (t : Int) : UA code i t ↔ (mks (gi code p) = true ∧ (gi code p).D = t) ∨ UA code p t := by
 unfold UA
 constructor
 ·rintro ⟨k, hk, h1, h2⟩
  rcases (Anc.iff h k).1 hk with rfl | c
  ·exact .inl ⟨h1, h2⟩
  ·exact .inr ⟨k, c, h1, h2⟩
 ·rintro (⟨h1, h2⟩ | ⟨k, hk, h1, h2⟩)
  ·exact ⟨p, .one h, h1, h2⟩
  ·exact ⟨k, .step h hk, h1, h2⟩
theorem UA.zero (code : List api_Ins) (t : Int) : ¬ UA code 0 t := by
 rintro ⟨k, hk, _⟩
 have := hk.lt
 omega
def AP (code : List api_Ins) (l : List api_Loc) (i : Nat) : Prop := PP (gi code i) i code.length l ∧ (mks (gi code i) = true → ∀ j : Nat, j < i → mks (gi code j) = true → (gi code j).D ≠ (gi code i).D)
def AW (code : List api_Ins) (i : Nat) : Prop := (0 < i → (preds code i).length = 1) ∧ ((sh (gi code i).Op).a = true → UA code i (gi code i).A) ∧ ((sh (gi code i).Op).b = true → UA code i (gi code i).B)
structure RP (code : List api_Ins) (l : List api_Loc) : Prop where
 n : 1 ≤ code.length ∧ code.length ≤ 400
 z : (gi code (code.length - 1)).Op = 18
 p : ∀ i : Nat, i < code.length → AP code l i
 w : ∀ i : Nat, i < code.length → AW code i
theorem RP.good {code : List api_Ins} {l : List api_Loc} (h : RP code l) : Good code code.length := fun i hi hm => by
 have := (h.p i hi).1.d.1 (by rw [← mks_sh]; exact hm)
 exact ⟨this.1, this.2, (h.p i hi).2 hm⟩
theorem before_eq (code : List api_Ins) (i : Nat) (hi : i ≤ code.length) (hn : code.length ≤ 400) : selvageref10_Before.m code i = some ((preds code i).map fun k : Nat => (k : Int)) := by
 unfold selvageref10_Before.m
 have := loop_st (f := selvageref10_Before.l1 code i) i (fun k => (((List.range k).filter fun k => isP code k i).map fun k : Nat => (k : Int), (k : Int))) ((preds code i).map fun k : Nat => (k : Int)) (fun k hk => ?_) ?_
 ·rw [show ((([] : List Int), 0) : (List Int) × Int) = ((((List.range 0).filter fun k => isP code k i).map fun k : Nat => (k : Int)), ((0 : Nat) : Int)) from rfl, this]; rfl
 ·unfold selvageref10_Before.l1
  dsimp only
  have hlen : (((List.range k).filter fun k => isP code k i).map fun k : Nat => (k : Int)).length ≤ k := by
   have := List.length_filter_le (fun k => isP code k i) (List.range k)
   simp at this ⊢; exact this
  rw [if_pos (by omega), Option.bind_some, if_pos (by simp; omega)]
  have g : 0 ≤ (k : Int) ∧ (k : Int) < (code.length : Int) := by omega
  have w1 : wr .i64 ((i : Int) - 1) = (i : Int) - 1 := wr64 (by omega)
  have w2 : wr .i64 ((k : Int) + 1) = (k : Int) + 1 := wr64 (by omega)
  simp only [letC, has_t, Option.bind_some, if_pos g, w1, w2]
  have e : (if (k : Int) = (i : Int) - 1 then (if (gi code (k : Int)).Op = 18 then (if (sh (gi code (k : Int)).Op).to_ = true then some (decide ((gi code (k : Int)).To = (i : Int))) else some false) else some true) else (if (sh (gi code (k : Int)).Op).to_ = true then some (decide ((gi code (k : Int)).To = (i : Int))) else some false)) = some (isP code k i) := by
   unfold isP
   by_cases h1 : (k : Int) = (i : Int) - 1
   ·have h1' : k + 1 = i := by omega
    rw [if_pos h1]
    generalize gi code (k : Int) = x
    by_cases h2 : x.Op = 18
    ·rw [if_pos h2]
     cases h3 : (sh x.Op).to_ <;> simp [h2]
    ·simp [h1', h2]
   ·have h1' : ¬ k + 1 = i := by omega
    rw [if_neg h1]
    generalize gi code (k : Int) = x
    cases h3 : (sh x.Op).to_ <;> simp [h1']
  rw [e, Option.bind_some, List.range_succ, List.filter_append]
  by_cases hp : isP code k i = true
  ·rw [if_pos hp, if_pos (by simp at hlen ⊢; omega), List.filter_cons_of_pos (p := fun k => isP code k i) hp]; simp
  ·rw [if_neg hp, List.filter_cons_of_neg (p := fun k => isP code k i) hp]; simp
 ·unfold selvageref10_Before.l1
  dsimp only
  have e : (if (i : Int) < (code.length : Int) then (some ((decide ((i : Int) < (i : Int))) : Bool)) else (some (false : Bool))) = some false := by
   split
   ·simp
   ·rfl
  rw [e, Option.bind_some, if_neg (by simp)]
  rfl
theorem last_T (code : List api_Ins) (h : code.length ≤ 400) : Tot (fun b => b = false ↔ (1 ≤ code.length ∧ code.length ≤ 400 ∧ (gi code (code.length - 1)).Op = 18)) (if (code.length : Int) < (1 : Int) then (some (true : Bool)) else (if (code.length : Int) > (400 : Int) then (some (true : Bool)) else (letC (wr .i64 ((code.length : Int) - (1 : Int))) fun v_8 => if 0 ≤ v_8 ∧ v_8 < (code.length : Int) then (letC (gi code v_8) fun v_10 => some ((!(decide (v_10.Op = (18 : Int)))) : Bool)) else none)) : Option Bool) := by
 refine .ite (fun h1 => .some (by simp; omega)) fun h1 => .ite (fun h2 => .some (by simp; omega)) fun h2 => ?_
 refine Tot.let fun v hv => ?_
 rw [wr64 (by omega)] at hv
 refine Tot.gd (by omega) ?_
 refine Tot.let fun w hw => ?_
 refine .some ?_
 subst hv hw
 have : 1 ≤ code.length := by omega
 simp [this, h]
theorem l4_eq {code : List api_Ins} {i : Nat} (hn : code.length ≤ 400) (hi : i < code.length) : ∀ k : Nat, k ≤ i → (∀ j : Nat, 0 < j → j ≤ k → (preds code j).length = 1) → ∀ a b : Bool,
 Tot (fun o => (o.1 = true ↔ (a = true ∨ UA code k (gi code i).A)) ∧ (o.2 = true ↔ (b = true ∨ UA code k (gi code i).B))) (loop (selvageref10_Right.l4 code i) ((a, b, (k : Int)) : Bool × Bool × Int)) := by
 intro k
 induction k using Nat.strongRecOn with
 | ind k ih =>
  intro hk hw a b
  rcases Nat.eq_zero_or_pos k with h0 | h0
  ·subst h0
   rw [loop_out (o := (a, b)) (by unfold selvageref10_Right.l4; dsimp only; rw [if_neg (by omega)])]
   exact .some ⟨by simp [UA.zero], by simp [UA.zero]⟩
  ·obtain ⟨p, hp⟩ : ∃ p, preds code k = [p] := by
    have := hw k h0 (Nat.le_refl _)
    match preds code k, this with
    | [p], _ => exact ⟨p, rfl⟩
   have hpk := preds_lt hp
   have hf : selvageref10_Right.l4 code i (a, b, (k : Int)) = some (.inl (if mks (gi code p) = true then a || decide ((gi code p).D = (gi code i).A) else a, if mks (gi code p) = true then b || decide ((gi code p).D = (gi code i).B) else b, (p : Int))) := by
    unfold selvageref10_Right.l4
    dsimp only
    rw [if_pos (by omega), before_eq code k (by omega) hn, Option.bind_some, hp, if_pos (by simp)]
    simp only [letC]
    rw [show gi (List.map (fun k : Nat => (k : Int)) [p]) 0 = (p : Int) from rfl, if_pos (by omega), has_d, Option.bind_some, ← mks_sh]
    by_cases hm : mks (gi code p) = true
    ·have g : 0 ≤ (i : Int) ∧ (i : Int) < (code.length : Int) := by omega
     rw [if_pos hm, if_pos hm, if_pos hm]
     simp only [if_pos g]
     cases a <;> cases b <;> simp
    ·rw [if_neg hm, if_neg hm, if_neg hm]
   rw [loop_in hf]
   refine (ih p hpk (by omega) (fun j j0 j1 => hw j j0 (by omega)) _ _).mono fun o ho => ?_
   rw [ho.1, ho.2, UA.iff hp, UA.iff hp]
   by_cases hm : mks (gi code p) = true
   ·simp only [hm, if_true, Bool.or_eq_true, decide_eq_true_eq, true_and]
    exact ⟨by rw [or_assoc], by rw [or_assoc]⟩
   ·simp [hm]
theorem ref_right (code : List api_Ins) (l : List api_Loc) (hn : code.length ≤ 400) (hl : l.length ≤ 16) : Tot (fun b => b = true ↔ RP code l) (selvageref10_Right.m code l) := by
 unfold selvageref10_Right.m
 refine .bind (last_T code hn) fun b hb => .ite (fun h => .some ⟨fun e => (by cases e), fun p => ?_⟩) fun h => ?_
 ·have := hb.2 ⟨p.n.1, p.n.2, p.z⟩; rw [h] at this; cases this
 obtain ⟨n1, n4, hz⟩ := hb.1 (by simpa using h)
 refine .bind (R := fun o => o = .inr () ↔ ∀ i : Nat, i < code.length → AP code l i) ?_ fun o ho => ?_
 ·refine loop_T code.length (fun i s => s = (i : Int) ∧ ∀ j : Nat, j < i → AP code l j) (fun i s hi hs => ?_) (fun s hs => ?_) ⟨rfl, fun j hj => by omega⟩
  ·obtain ⟨rfl, hs⟩ := hs
   unfold selvageref10_Right.l1
   refine .tt (by omega) ?_
   refine Tot.gd (by omega) ?_
   refine Tot.let fun x hx => ?_
   subst hx
   refine .bind (plain_iff _ _ _ l ⟨by omega, by omega⟩ (by omega) hl) fun b hb => .ite (fun h => ?_) fun h => .some ?_
   ·refine .bind (R := fun o => o = .inr () ↔ (mks (gi code i) = true → ∀ j : Nat, j < i → mks (gi code j) = true → (gi code j).D ≠ (gi code i).D)) ?_ fun o ho => ?_
    ·refine loop_T i (fun j s => s = (j : Int) ∧ (mks (gi code i) = true → ∀ k : Nat, k < j → mks (gi code k) = true → (gi code k).D ≠ (gi code i).D)) (fun j s hj hs => ?_) (fun s hs => ?_) ⟨rfl, fun _ k hk => by omega⟩
     ·obtain ⟨rfl, hs⟩ := hs
      unfold selvageref10_Right.l2
      refine .tt (by omega) ?_
      refine .bind (R := fun b => b = false ↔ (mks (gi code i) = true → mks (gi code j) = true → (gi code j).D ≠ (gi code i).D)) ?_ fun b hb => ?_
      ·refine Tot.gd (by omega) ?_
       simp only [letC]
       rw [has_d, has_d, ← mks_sh, ← mks_sh]
       simp only [Option.bind_some]
       refine .ite (fun h1 => ?_) fun h1 => .some (by simp [h1])
       refine Tot.gd (by omega) ?_
       refine .ite (fun h2 => .some ?_) fun h2 => .some (by simp [h2])
       rw [decide_eq_false_iff_not]
       exact ⟨fun c _ _ e => c e.symm, fun c e => c h1 h2 e.symm⟩
      ·refine .ite (fun h => .some ?_) fun h => .some ⟨by rw [wr64 (by omega)]; rfl, fun h1 k hk h2 => ?_⟩
       ·simp only [reduceCtorEq, false_iff]
        intro c
        have := hb.2 fun h1 h2 => c h1 j hj h2
        rw [h] at this; cases this
       ·by_cases e : k = j
        ·subst e; exact hb.1 (by simpa using h) h1 h2
        ·exact hs h1 k (by omega) h2
     ·obtain ⟨rfl, hs⟩ := hs
      unfold selvageref10_Right.l2
      exact .ff (by omega) (.some (by simp only [true_iff]; exact hs))
    ·cases o with
     | inl o =>
      refine .some ?_
      simp only [reduceCtorEq, false_iff]
      intro c
      have := ho.2 (c i hi).2
      cases this
     | inr o =>
      refine .some ⟨by rw [wr64 (by omega)]; rfl, fun j hj => ?_⟩
      by_cases e : j = i
      ·subst e; exact ⟨hb.1 h, ho.1 rfl⟩
      ·exact hs j (by omega)
   ·simp only [reduceCtorEq, false_iff]
    intro c
    exact h (hb.2 (c i hi).1)
  ·obtain ⟨rfl, hs⟩ := hs
   unfold selvageref10_Right.l1
   exact .ff (by omega) (.some (by simp only [true_iff]; exact hs))
 cases o with
 | inl o => exact .some ⟨fun e => (by cases e), fun p => by have := ho.2 p.p; cases this⟩
 | inr o =>
  have hap := ho.1 rfl
  dsimp only
  refine .bind (R := fun o => o = .inr () ↔ ∀ i : Nat, i < code.length → AW code i) ?_ fun o ho => ?_
  ·refine loop_T code.length (fun i s => s = (i : Int) ∧ ∀ j : Nat, j < i → AW code j) (fun i s hi hs => ?_) (fun s hs => ?_) ⟨rfl, fun j hj => by omega⟩
   ·obtain ⟨rfl, hs⟩ := hs
    unfold selvageref10_Right.l3
    refine .tt (by omega) ?_
    refine .bind (R := fun b => b = false ↔ (0 < i → (preds code i).length = 1)) ?_ fun b hb => ?_
    ·refine .ite (fun h => ?_) fun h => .some ⟨fun _ c => by omega, fun _ => rfl⟩
     refine .bindE (before_eq code i (by omega) hn) (.some ?_)
     simp only [List.length_map, Bool.not_eq_false', decide_eq_true_eq]
     exact ⟨fun c _ => by omega, fun c => by have := c (by omega); omega⟩
    refine .ite (fun h => .some ?_) fun h => ?_
    ·simp only [reduceCtorEq, false_iff]
     intro c
     have := hb.2 (c i hi).1
     rw [h] at this; cases this
    have h1 := hb.1 (by simpa using h)
    refine Tot.gd (by omega) ?_
    simp only [letC]
    rw [has_a, has_b]
    simp only [Option.bind_some]
    refine .bind (l4_eq hn hi i (Nat.le_refl _) (fun j j0 j1 => ?_) _ _) fun o ho => ?_
    ·by_cases e : j = i
     ·subst e; exact h1 j0
     ·exact (hs j (by omega)).1 j0
    have hA : o.1 = true ↔ ((sh (gi code i).Op).a = true → UA code i (gi code i).A) := by
     rw [ho.1]; cases (sh (gi code (i : Int)).Op).a <;> simp
    have hB : o.2 = true ↔ ((sh (gi code i).Op).b = true → UA code i (gi code i).B) := by
     rw [ho.2]; cases (sh (gi code (i : Int)).Op).b <;> simp
    refine .ite (fun h2 => .ite (fun h3 => .some ⟨by rw [wr64 (by omega)]; rfl, fun j hj => ?_⟩) fun h3 => .some ?_) fun h2 => .some ?_
    ·by_cases e : j = i
     ·subst e; exact ⟨h1, hA.1 h2, hB.1 h3⟩
     ·exact hs j (by omega)
    ·simp only [reduceCtorEq, false_iff]
     intro c
     exact h3 (hB.2 (c i hi).2.2)
    ·simp only [reduceCtorEq, false_iff]
     intro c
     exact h2 (hA.2 (c i hi).2.1)
   ·obtain ⟨rfl, hs⟩ := hs
    unfold selvageref10_Right.l3
    exact .ff (by omega) (.some (by simp only [true_iff]; exact hs))
  cases o with
  | inl o => exact .some ⟨fun e => (by cases e), fun p => by have := ho.2 p.w; cases this⟩
  | inr o => exact .some ⟨fun _ => ⟨⟨n1, n4⟩, hz, hap, ho.1 rfl⟩, fun _ => rfl⟩

def proc (code : List api_Ins) (i j : Nat) : List Nat := (List.range i).filter fun k => isP code k j
theorem proc_succ (code : List api_Ins) (i j : Nat) : proc code (i + 1) j = proc code i j ++ if isP code i j = true then [i] else [] := by
 unfold proc
 rw [List.range_succ, List.filter_append]
 congr 1
 by_cases h : isP code i j = true
 ·rw [if_pos h, List.filter_cons_of_pos (p := fun k => isP code k j) h]; rfl
 ·rw [if_neg h, List.filter_cons_of_neg (p := fun k => isP code k j) h]; rfl
theorem proc_len (code : List api_Ins) (i j : Nat) : (proc code i j).length ≤ i := by
 have := List.length_filter_le (fun k => isP code k j) (List.range i)
 simpa [proc] using this
theorem proc_preds {code : List api_Ins} {i : Nat} : ∀ {n : Nat}, i ≤ n → (∀ k : Nat, i ≤ k → k < n → isP code k i = false) → proc code n i = preds code i
 | n, h, hk => by
  induction n with
  | zero =>
   have : i = 0 := by omega
   subst this; rfl
  | succ n ih =>
   by_cases e : i = n + 1
   ·subst e; rfl
   ·rw [proc_succ, hk n (by omega) (by omega), ih (by omega) fun k h1 h2 => hk k h1 (by omega)]; simp
structure RJ (code : List api_Ins) (l : List api_Loc) (i : Nat) (s : (List Int) × (List Int) × (List (Int × Int))) : Prop where
 l1 : s.1.length = code.length
 l2 : s.2.1.length = code.length
 ap : ∀ j : Nat, j < i → AP code l j
 wy : ∀ j : Nat, j < code.length → gi s.1 j = (proc code i j).length
 fr : ∀ j : Nat, j < code.length → ∀ k : Nat, (proc code i j).getLast? = some k → gi s.2.1 j = (k : Int)
 m1 : ∀ t v, aget s.2.2 t = some v → ∃ j : Nat, j < i ∧ mks (gi code j) = true ∧ (gi code j).D = t ∧ v = (j : Int)
 m2 : ∀ j : Nat, j < i → mks (gi code j) = true → aget s.2.2 (gi code j).D ≠ none
theorem tree_l1 (code : List api_Ins) (l : List api_Loc) (hn : code.length ≤ 400) (hl : l.length ≤ 16) (h18 : (gi code (code.length - 1)).Op = 18) :
 Tot (fun o => match o with | .inl _ => ¬ ∀ i : Nat, i < code.length → AP code l i | .inr s => RJ code l code.length s) (loop (tree_Right.l1 code l) ((List.replicate code.length (0 : Int), List.replicate code.length (0 : Int), ([] : List (Int × Int)), 0) : (List Int) × (List Int) × (List (Int × Int)) × Int)) := by
 refine loop_T code.length (fun i s => RJ code l i (s.1, s.2.1, s.2.2.1) ∧ s.2.2.2 = (i : Int)) (fun i s hi hs => ?_) (fun s hs => ?_) ⟨⟨by simp, by simp, fun j hj => by omega, fun j hj => ?_, fun j hj k hk => (by simp [proc] at hk), fun t v h => (by cases h), fun j hj => by omega⟩, rfl⟩
 ·obtain ⟨w, f, m, k⟩ := s
  obtain ⟨hI, rfl⟩ := hs
  obtain ⟨c1, c2, c3, c4, c5, c6, c7⟩ := hI
  simp only [] at c1 c2 c3 c4 c5 c6 c7
  unfold tree_Right.l1
  dsimp only
  refine .tt (by omega) ?_
  refine Tot.gd (by omega) ?_
  refine Tot.let fun x hx => ?_
  refine Tot.let fun r hr => ?_
  have hsh : r.1 = sh x.Op := by rw [hr]; rfl
  have hop : r.2 = isOp x.Op := by rw [hr]; rfl
  refine .bind (R := fun b => b = false ↔ (isOp x.Op = true ∧ TempP (sh x.Op).d x.D ∧ TempP (sh x.Op).a x.A ∧ TempP (sh x.Op).b x.B ∧ ((sh x.Op).k = false → x.K = 0) ∧ PlP (sh x.Op) x l)) ?_ fun b1 hb1 => ?_
  ·simp only [letC]
   rw [hsh, hop]
   have hp := places_iff (sh x.Op) x l hl
   refine .ite (fun h0 => .ite (fun h1 => .ite (fun h2 => .ite (fun h3 => ?_) fun h3 => .some ?_) fun h2 => .some ?_) fun h1 => .some ?_) fun h0 => .some ?_
   ·rw [temp_iff] at h1 h2 h3
    refine .ite (fun h4 => .bind hp fun y hy => .some ?_) fun h4 => .ite (fun h5 => .bind hp fun y hy => .some ?_) fun h5 => .some ?_
    ·simp only [h0, h1, h2, h3, h4, true_and, ← hy]; cases y <;> simp
    ·simp only [h0, h1, h2, h3, h5, true_and, implies_true, ← hy]; cases y <;> simp
    ·simp [h0, h4, h5]
   ·rw [temp_iff] at h3; simp [h3]
   ·rw [temp_iff] at h2; simp [h2]
   ·rw [temp_iff] at h1; simp [h1]
   ·simp [h0]
  refine .ite (fun h => .some ?_) fun h => ?_
  ·simp only []
   intro c
   have p := (c i hi).1
   rw [← hx] at p
   have := hb1.2 ⟨p.op, p.d, p.a, p.b, p.k, p.pl⟩
   rw [h] at this; cases this
  obtain ⟨q1, q2, q3, q4, q5, q6⟩ := hb1.1 (by simpa using h)
  rw [hsh]
  refine .bind (R := fun b => b = false ↔ (((sh x.Op).to_ = true → (i : Int) + 1 < x.To ∧ x.To < code.length) ∧ ((sh x.Op).to_ = false → x.To = 0))) ?_ fun b2 hb2 => ?_
  ·refine .ite (fun h => ?_) fun h => .some ?_
   ·refine Tot.let fun v1 e1 => ?_
    rw [wr64 (by omega)] at e1
    refine .ite (fun h1 => .some ?_) fun h1 => .ite (fun h2 => .some ?_) fun h2 => .some ?_
    ·simp [h]; omega
    ·simp [h]; omega
    ·simp [h]; omega
   ·simp [h]
  refine .ite (fun h => .some ?_) fun h => ?_
  ·simp only []
   intro c
   have p := (c i hi).1
   rw [← hx] at p
   have := hb2.2 ⟨p.to1, p.to0⟩
   rw [h] at this; cases this
  obtain ⟨q7, q8⟩ := hb2.1 (by simpa using h)
  have hPP : PP (gi code i) i code.length l := by rw [← hx]; exact ⟨q1, q2, q3, q4, q5, q6, q7, q8⟩
  -- arrays
  let T : Nat → Prop := fun j => (sh x.Op).to_ = true ∧ x.To = (j : Int)
  have hP : ∀ j : Nat, isP code i j = true ↔ ((i + 1 = j ∧ x.Op ≠ 18) ∨ T j) := fun j => by
   unfold isP
   rw [← hx]
   simp [T]
  refine .bind (R := fun p : (List Int) × (List Int) => p.1.length = code.length ∧ p.2.length = code.length ∧ ∀ j : Nat, j < code.length → (T j → gi p.1 j = (proc code i j).length + 1 ∧ gi p.2 j = i) ∧ (¬ T j → gi p.1 j = (proc code i j).length ∧ gi p.2 j = gi f j)) ?_ fun p hp => ?_
  ·refine .ite (fun h => ?_) fun h => .some ⟨c1, c2, fun j hj => ⟨fun t => absurd t.1 h, fun _ => ⟨c4 j hj, rfl⟩⟩⟩
   have := q7 h
   refine Tot.gd (by omega) ?_
   refine Tot.gd (by omega) ?_
   refine Tot.let fun v1 e1 => ?_
   refine Tot.let fun v2 e2 => ?_
   refine Tot.gd (by omega) ?_
   refine Tot.let fun v3 e3 => ?_
   have hw := c4 x.To.toNat (by omega)
   rw [show ((x.To.toNat : Nat) : Int) = x.To by omega] at hw
   have hpl := proc_len code i x.To.toNat
   rw [hw] at e1
   rw [wr64 (by omega)] at e2
   refine .some ⟨by rw [e2]; simp [c1], by rw [e3]; simp [c2], fun j hj => ?_⟩
   rw [e2, e3]
   simp only []
   rw [gi_set (by omega) (by omega) (by omega), gi_set (by omega) (by omega) (by omega)]
   constructor
   ·intro t
    have : ((x.To.toNat : Nat) : Int) = (j : Int) := by have := t.2; omega
    rw [if_pos this, if_pos this, e1]
    have e : x.To.toNat = j := by omega
    rw [e]; exact ⟨rfl, rfl⟩
   ·intro t
    have : ¬ ((x.To.toNat : Nat) : Int) = (j : Int) := fun e => t ⟨h, by omega⟩
    rw [if_neg this, if_neg this]
    exact ⟨c4 j hj, rfl⟩
  obtain ⟨p1, p2, p3⟩ := hp
  have hlast : ¬ x.Op = 18 → (i : Int) + 1 < code.length := by
   intro hne
   rcases Nat.lt_or_ge (i + 1) code.length with c | c
   ·omega
   ·exfalso
    apply hne
    rw [hx, show ((i : Nat) : Int) = code.length - 1 by omega]
    exact h18
  refine .bind (R := fun p : (List Int) × (List Int) => p.1.length = code.length ∧ p.2.length = code.length ∧ ∀ j : Nat, j < code.length → (isP code i j = true → gi p.1 j = (proc code i j).length + 1 ∧ gi p.2 j = i) ∧ (¬ isP code i j = true → gi p.1 j = (proc code i j).length ∧ gi p.2 j = gi f j)) ?_ fun q hq => ?_
  ·refine .ite (fun h => .some ⟨p1, p2, fun j hj => ?_⟩) fun h => ?_
   ·have : isP code i j = true ↔ T j := by rw [hP]; simp [h]
    rw [this]; exact p3 j hj
   have := hlast h
   have hnT : ¬ T (i + 1) := fun t => by have := q7 t.1; have := t.2; omega
   refine Tot.let fun v1 e1 => ?_
   rw [wr64 (by omega)] at e1
   refine Tot.gd (by omega) ?_
   refine Tot.gd (by omega) ?_
   refine Tot.let fun v2 e2 => ?_
   refine Tot.let fun v3 e3 => ?_
   refine Tot.let fun v4 e4 => ?_
   rw [wr64 (by omega)] at e4
   refine Tot.gd (by omega) ?_
   refine Tot.gd (by omega) ?_
   refine Tot.let fun v5 e5 => ?_
   have hw := ((p3 (i + 1) (by omega)).2 hnT).1
   have hpl := proc_len code i (i + 1)
   rw [e1, show (i : Int) + 1 = ((i + 1 : Nat) : Int) by omega, hw] at e2
   rw [wr64 (by omega)] at e3
   refine .some ⟨by rw [e3]; simp [p1], by rw [e5]; simp [p2], fun j hj => ?_⟩
   rw [e3, e5, e1, e4]
   simp only []
   rw [gi_set (by omega) (by omega) (by omega), gi_set (by omega) (by omega) (by omega)]
   by_cases e : i + 1 = j
   ·have c : ((((i : Int) + 1).toNat : Nat) : Int) = (j : Int) := by omega
    rw [if_pos c, if_pos c, e2]
    subst e
    exact ⟨fun _ => ⟨rfl, rfl⟩, fun n => absurd ((hP _).2 (.inl ⟨rfl, h⟩)) n⟩
   ·have c : ¬ ((((i : Int) + 1).toNat : Nat) : Int) = (j : Int) := by omega
    rw [if_neg c, if_neg c]
    have : isP code i j = true ↔ T j := by rw [hP]; simp [e]
    rw [this]; exact p3 j hj
  obtain ⟨r1, r2, r3⟩ := hq
  have hmk : mks x = (sh x.Op).d := mks_sh x
  have wyN : ∀ j : Nat, j < code.length → gi q.1 j = (proc code (i + 1) j).length := fun j hj => by
   rw [proc_succ, List.length_append]
   by_cases h : isP code i j = true
   ·rw [if_pos h, ((r3 j hj).1 h).1]; simp
   ·rw [if_neg h, ((r3 j hj).2 h).1]; simp
  have frN : ∀ j : Nat, j < code.length → ∀ k : Nat, (proc code (i + 1) j).getLast? = some k → gi q.2 j = (k : Int) := fun j hj k hk => by
   rw [proc_succ] at hk
   by_cases h : isP code i j = true
   ·rw [if_pos h] at hk
    simp at hk; subst hk
    exact ((r3 j hj).1 h).2
   ·rw [if_neg h, List.append_nil] at hk
    rw [((r3 j hj).2 h).2]; exact c5 j hj k hk
  refine .ite (fun hd => ?_) fun hd => ?_
  ·cases hm : aget m x.D with
   | some v =>
    refine .some ?_
    simp only []
    intro c
    obtain ⟨j, hj, hmj, hD, _⟩ := c6 _ _ hm
    exact (c i hi).2 (by rw [← hx, hmk]; exact hd) j hj hmj (by rw [hD, hx])
   | none =>
    simp only []
    refine Tot.let fun v1 e1 => ?_
    refine Tot.let fun v2 e2 => ?_
    rw [wr64 (by omega)] at e2
    subst e1
    refine .some ⟨⟨r1, r2, fun j hj => ?_, wyN, frN, fun t v h => ?_, fun j hj hmj => ?_⟩, by simp only []; omega⟩
    ·by_cases e : j = i
     ·subst e
      refine ⟨hPP, fun _ k hk hmk e => ?_⟩
      have := c7 k hk hmk
      rw [e, ← hx, hm] at this
      exact this rfl
     ·exact c3 j (by omega)
    ·simp only [] at h
     rw [B.aget_aset] at h
     by_cases e : t = x.D
     ·rw [if_pos e] at h; cases h; exact ⟨i, by omega, by rw [← hx, hmk]; exact hd, by rw [← hx, e], rfl⟩
     ·rw [if_neg e] at h
      obtain ⟨j, hj, hv⟩ := c6 t v h
      exact ⟨j, by omega, hv⟩
    ·simp only []
     rw [B.aget_aset]
     by_cases e : (gi code j).D = x.D
     ·rw [if_pos e]; simp
     ·rw [if_neg e]
      have hji : j ≠ i := by rintro rfl; exact e (by rw [hx])
      exact c7 j (by omega) hmj
  ·refine Tot.let fun v1 e1 => ?_
   rw [wr64 (by omega)] at e1
   have hno : mks (gi code i) = false := by rw [← hx, hmk]; simpa using hd
   refine .some ⟨⟨r1, r2, fun j hj => ?_, wyN, frN, fun t v h => ?_, fun j hj hmj => ?_⟩, by simp only []; omega⟩
   ·by_cases e : j = i
    ·subst e; exact ⟨hPP, fun c => by rw [hno] at c; cases c⟩
    ·exact c3 j (by omega)
   ·obtain ⟨j, hj, hv⟩ := c6 t v h
    exact ⟨j, by omega, hv⟩
   ·have hji : j ≠ i := by rintro rfl; rw [hno] at hmj; cases hmj
    exact c7 j (by omega) hmj
 ·obtain ⟨w, f, m, k⟩ := s
  obtain ⟨hI, rfl⟩ := hs
  unfold tree_Right.l1
  refine .ff (by simp only []; omega) (.some hI)
 ·simp only []
  rw [gi_replicate (by omega) (by omega)]; rfl
theorem above_iff {code : List api_Ins} {l : List api_Loc} {s : (List Int) × (List Int) × (List (Int × Int))} (hn : code.length ≤ 400) (h : RJ code l code.length s) (hpr : ∀ i : Nat, i < code.length → proc code code.length i = preds code i) {i : Nat} (hi : i < code.length) (hw : ∀ j : Nat, 0 < j → j ≤ i → (preds code j).length = 1) (t : Int) :
 Tot (fun b => b = true ↔ UA code i t) (tree_above.m t (i : Int) s.2.2 s.2.1 code.length) := by
 unfold tree_above.m
 cases hm : aget s.2.2 t with
 | none =>
  refine .some ⟨fun e => (by cases e), fun ⟨k, hk, hmk, hD⟩ => ?_⟩
  have := hk.lt
  have := h.m2 k (by omega) hmk
  rw [hD, hm] at this
  exact absurd rfl this
 | some v =>
  obtain ⟨j, hj, hmj, hD, rfl⟩ := h.m1 t v hm
  have hua : UA code i t ↔ Anc code i j := by
   constructor
   ·rintro ⟨k, hk, hmk, hD'⟩
    have := hk.lt
    have : k = j := by
     rcases Nat.lt_trichotomy k j with c | c | c
     ·exact absurd (hD'.trans hD.symm) ((h.ap j hj).2 hmj k c hmk)
     ·exact c
     ·exact absurd (hD.trans hD'.symm) ((h.ap k (by omega)).2 hmk j c hmj)
    subst this; exact hk
   ·exact fun c => ⟨j, c, hmj, hD⟩
  have hl2 := h.l2
  have key : ∀ q : Nat, q ≤ i → Tot (fun o => o = .inl () ↔ Anc code q j) (loop (tree_above.l1 s.2.1 code.length (j : Int)) (q : Int)) := by
   intro q
   induction q using Nat.strongRecOn with
   | ind q ih =>
    intro hq
    rcases Nat.lt_or_ge j q with hlt | hge
    ·obtain ⟨p, hp⟩ : ∃ p, preds code q = [p] := by
      have := hw q (by omega) hq
      match preds code q, this with
      | [p], _ => exact ⟨p, rfl⟩
     have hpq := preds_lt hp
     have hfr := h.fr q (by omega) p (by rw [hpr q (by omega), hp]; rfl)
     have hf : tree_above.l1 s.2.1 code.length (j : Int) (q : Int) = if p = j then some (.inr (.inl ())) else some (.inl (p : Int)) := by
      unfold tree_above.l1
      rw [if_pos (by omega), if_pos (by omega), if_pos (by omega)]
      simp only [letC]
      rw [hfr]
      by_cases e : p = j
      ·rw [if_pos e, if_pos (by omega)]
      ·rw [if_neg e, if_neg (by omega)]
     by_cases e : p = j
     ·rw [if_pos e] at hf
      rw [loop_out hf]
      exact .some ⟨fun _ => (Anc.iff hp j).2 (.inl e), fun _ => rfl⟩
     ·rw [if_neg e] at hf
      rw [loop_in hf]
      refine (ih p hpq (by omega)).mono fun o ho => ?_
      rw [ho, Anc.iff hp]
      simp [e]
    ·rw [loop_out (o := .inr ()) (by unfold tree_above.l1; rw [if_neg (by omega)])]
     exact .some ⟨fun e => (by cases e), fun c => by have := c.lt; omega⟩
  refine .bind (key i (Nat.le_refl _)) fun o ho => ?_
  rw [hua, ← ho]
  cases o with
  | inl o => exact .some (by simp)
  | inr o => exact .some (by simp)
theorem tree_right (code : List api_Ins) (l : List api_Loc) (hn : code.length ≤ 400) (hl : l.length ≤ 16) : Tot (fun b => b = true ↔ RP code l) (tree_Right.m code l) := by
 unfold tree_Right.m
 refine .bind (last_T code hn) fun b hb => .ite (fun h => .some ⟨fun e => (by cases e), fun p => ?_⟩) fun h => ?_
 ·have := hb.2 ⟨p.n.1, p.n.2, p.z⟩; rw [h] at this; cases this
 obtain ⟨n1, n4, hz⟩ := hb.1 (by simpa using h)
 refine Tot.gd (by omega) ?_
 refine Tot.let fun v hv => ?_
 refine Tot.let fun w hw => ?_
 simp only [Int.toNat_natCast] at hv hw
 subst hv hw
 refine .bind (tree_l1 code l hn hl hz) fun o ho => ?_
 cases o with
 | inl o => exact .some ⟨fun e => (by cases e), fun p => absurd p.p ho⟩
 | inr s =>
  simp only [] at ho
  simp only [Int.toNat_natCast]
  have hpr : ∀ i : Nat, i < code.length → proc code code.length i = preds code i := fun i hi => proc_preds (by omega) fun k h1 h2 => by
   have p := (ho.ap k h2).1
   cases hp : isP code k i
   ·rfl
   ·unfold isP at hp
    simp only [Bool.or_eq_true, Bool.and_eq_true, decide_eq_true_eq] at hp
    rcases hp with c | c
    ·omega
    ·have := p.to1 c.1; omega
  have hl1 := ho.l1
  refine .bind (R := fun o => o = .inr () ↔ ∀ i : Nat, i < code.length → AW code i) ?_ fun o hoo => ?_
  ·refine loop_T code.length (fun i z => z.1 = code.length ∧ z.2 = (i : Int) ∧ ∀ j : Nat, j < i → AW code j) (fun i z hi hz => ?_) (fun z hz => ?_) ⟨rfl, rfl, fun j hj => by omega⟩
   ·obtain ⟨n, k⟩ := z
    obtain ⟨h0, rfl, hs⟩ := hz
    simp only [] at h0
    subst h0
    unfold tree_Right.l2
    dsimp only
    refine .tt (by omega) ?_
    refine Tot.gd (by omega) ?_
    refine Tot.let fun x hx => ?_
    refine .bind (R := fun b => b = false ↔ (0 < i → (preds code i).length = 1)) ?_ fun b hb => ?_
    ·refine .ite (fun h => ?_) fun h => .some ⟨fun _ c => by omega, fun _ => rfl⟩
     refine Tot.gd (by omega) ?_
     refine Tot.gd (by omega) ?_
     refine Tot.let fun v hv => ?_
     rw [ho.wy i hi, hpr i hi] at hv
     refine .some ?_
     simp only [Bool.not_eq_false', decide_eq_true_eq]
     exact ⟨fun c _ => by omega, fun c => by have := c (by omega); omega⟩
    refine .ite (fun h => .some ?_) fun h => ?_
    ·simp only [reduceCtorEq, false_iff]
     intro c
     have := hb.2 (c i hi).1
     rw [h] at this; cases this
    have h1 := hb.1 (by simpa using h)
    have hab := above_iff hn ho hpr hi (fun j j0 j1 => by
     by_cases e : j = i
     ·subst e; exact h1 j0
     ·exact (hs j (by omega)).1 j0)
    refine Tot.let fun r hr => ?_
    have hsh : r.1 = sh (gi code i).Op := by rw [hr, hx]; rfl
    rw [hsh, hx]
    refine .bind (R := fun b => b = false ↔ (((sh (gi code i).Op).a = true → UA code i (gi code i).A) ∧ ((sh (gi code i).Op).b = true → UA code i (gi code i).B))) ?_ fun b hb => ?_
    ·refine .ite (fun ha => .bind (hab _) fun y hy => .ite (fun h2 => .ite (fun hbb => .bind (hab _) fun z hz => .some ?_) fun hbb => .some ?_) fun h2 => .some ?_) fun ha => .ite (fun hbb => .bind (hab _) fun z hz => .some ?_) fun hbb => .some ?_
     ·have := hy.1 h2
      simp only [ha, hbb, this, true_and, forall_const, ← hz]; cases z <;> simp
     ·have := hy.1 h2
      simp [ha, hbb, this]
     ·have : ¬ UA code i (gi code i).A := fun c => h2 (hy.2 c)
      simp [ha, this]
     ·simp only [ha, hbb, true_and, forall_const, ← hz]; cases z <;> simp
     ·simp [ha, hbb]
    refine .ite (fun h => .some ?_) fun h => ?_
    ·simp only [reduceCtorEq, false_iff]
     intro c
     have := hb.2 ⟨(c i hi).2.1, (c i hi).2.2⟩
     rw [h] at this; cases this
    have h2 := hb.1 (by simpa using h)
    refine Tot.let fun v hv => ?_
    rw [wr64 (by omega)] at hv
    refine .some ⟨rfl, by simp only []; omega, fun j hj => ?_⟩
    by_cases e : j = i
    ·subst e; exact ⟨h1, h2.1, h2.2⟩
    ·exact hs j (by omega)
   ·obtain ⟨n, k⟩ := z
    obtain ⟨h0, rfl, hs⟩ := hz
    unfold tree_Right.l2
    exact .ff (by simp only []; omega) (.some (by simp only [true_iff]; exact hs))
  cases o with
  | inl o => exact .some ⟨fun e => (by cases e), fun p => by have := hoo.2 p.w; cases this⟩
  | inr o => exact .some ⟨fun _ => ⟨⟨n1, n4⟩, hz, ho.ap, hoo.1 rfl⟩, fun _ => rfl⟩
theorem right_same (code : List api_Ins) (l : List api_Loc) (hn : code.length ≤ 400) (hl : l.length ≤ 16) : ∃ b, tree_Right.m code l = some b ∧ selvageref10_Right.m code l = some b ∧ (b = true → RP code l) := by
 obtain ⟨b, e, hb⟩ := tree_right code l hn hl
 obtain ⟨c, e', hc⟩ := ref_right code l hn hl
 have : b = c := by
  cases b <;> cases c
  ·rfl
  ·exact hb.2 (hc.1 rfl)
  ·exact (hc.2 (hb.1 rfl)).symm
  ·rfl
 subst this
 exact ⟨b, e, e', hb.1⟩
end Go.Proofs.Ytbhekpcimmaijaa.W
namespace Go.Proofs.Ytbhekpcimmaijaa.W
open Go Go.RowKit Go.Proofs.Ytbhekpcimmaijaa Go.Proofs.Ytbhekpcimmaijaa.X
open Go.Proofs.Ytbhekpcimmaijaa.B (wr aget aset loop loop_in loop_out loop_tot qf flt i2f feq fls isnan)

def ex (r : Nat) : Nat := r / 4503599627370496 - 1
def mg (r : Nat) : Nat := if r < 4503599627370496 then r else 4503599627370496 + r % 4503599627370496
def vl (r : Nat) : Nat := mg r * 2 ^ ex r
theorem vl_succ (r : Nat) : vl r < vl (r + 1) := by
 unfold vl
 have hp : 0 < 2 ^ ex r := Nat.two_pow_pos _
 by_cases h : ex (r + 1) = ex r
 ·rw [h]
  refine Nat.mul_lt_mul_of_pos_right ?_ hp
  unfold ex at h
  unfold mg
  split <;> split <;> omega
 ·have h1 : ex (r + 1) = ex r + 1 := by unfold ex at h ⊢; omega
  have h2 : mg r = 9007199254740991 ∧ mg (r + 1) = 4503599627370496 := by
   unfold ex at h h1
   unfold mg
   constructor
   ·split <;> omega
   ·split <;> omega
  rw [h1, h2.1, h2.2, Nat.pow_succ]
  omega
theorem vl_lt {a b : Nat} (h : a < b) : vl a < vl b := by
 induction b with
 | zero => omega
 | succ b ih =>
  rcases Nat.lt_or_ge a b with c | c
  ·exact Nat.lt_trans (ih c) (vl_succ b)
  ·have : a = b := by omega
   subst this; exact vl_succ a
theorem vl_cmp (a b : Nat) : compare (vl a) (vl b) = compare a b := by
 rcases Nat.lt_trichotomy a b with c | c | c
 ·rw [Nat.compare_eq_lt.2 c, Nat.compare_eq_lt.2 (vl_lt c)]
 ·subst c; simp
 ·rw [Nat.compare_eq_gt.2 c, Nat.compare_eq_gt.2 (vl_lt c)]
theorem scale_cmp (m n e : Nat) : compare (m * 2 ^ e) (n * 2 ^ e) = compare m n := by
 have hp : 0 < 2 ^ e := Nat.two_pow_pos _
 rcases Nat.lt_trichotomy m n with c | c | c
 ·rw [Nat.compare_eq_lt.2 c, Nat.compare_eq_lt.2 (Nat.mul_lt_mul_of_pos_right c hp)]
 ·subst c; simp
 ·rw [Nat.compare_eq_gt.2 c, Nat.compare_eq_gt.2 (Nat.mul_lt_mul_of_pos_right c hp)]
theorem read_pos {a : Nat} (h : a < 9223372036854775808) : Ieee.double.read a = if a < 9218868437227405312 then .number false (mg a) (Ieee.double.leastPlace + (ex a : Nat)) else if a = 9218868437227405312 then .infinity false else .nan false (a - 9218868437227405312) := by
 unfold Ieee.Format.read
 simp only [show Ieee.double.signWeight = 9223372036854775808 from rfl, show Ieee.double.binade = 4503599627370496 from rfl, show Ieee.double.infRung = 9218868437227405312 from rfl]
 have e1 : a / 9223372036854775808 = 0 := Nat.div_eq_of_lt h
 rw [e1, Nat.mod_eq_of_lt h]
 simp only [Nat.zero_mod]
 unfold mg ex
 by_cases h1 : a < 4503599627370496
 ·rw [if_pos h1, if_pos (by omega), if_pos h1, Nat.div_eq_of_lt h1]
  simp
 ·rw [if_neg h1]
  by_cases h2 : a < 9218868437227405312
  ·rw [if_pos h2, if_pos h2, if_neg h1]; rfl
  ·rw [if_neg h2, if_neg h2]; rfl
theorem isnan_pos {a : Nat} (h : a < 9223372036854775808) : isnan a = decide (9218868437227405312 < a) := by
 unfold isnan
 rw [read_pos h]
 by_cases h1 : a < 9218868437227405312
 ·rw [if_pos h1]; symm; simp [Ieee.Datum.isNaN]; omega
 ·rw [if_neg h1]
  by_cases h2 : a = 9218868437227405312
  ·rw [if_pos h2]; symm; simp [Ieee.Datum.isNaN]; omega
  ·rw [if_neg h2]; symm; simp [Ieee.Datum.isNaN]; omega
theorem int_cmp (m n : Nat) : compare (m : Int) (n : Int) = compare m n := by
 rcases Nat.lt_trichotomy m n with c | c | c
 ·rw [Nat.compare_eq_lt.2 c, Int.compare_eq_lt.2 (by omega)]
 ·subst c; simp
 ·rw [Nat.compare_eq_gt.2 c, Int.compare_eq_gt.2 (by omega)]
theorem order_pos {a b : Nat} (ha : a ≤ 9218868437227405312) (hb : b ≤ 9218868437227405312) : Ieee.double.order a b = some (compare a b) := by
 unfold Ieee.Format.order
 rw [read_pos (by omega), read_pos (by omega)]
 by_cases h1 : a < 9218868437227405312
 ·rw [if_pos h1]
  by_cases h2 : b < 9218868437227405312
  ·rw [if_pos h2]
   simp only [Ieee.Datum.order, Ieee.signed]
   congr 1
   simp only [Bool.false_eq_true, if_false]
   rw [int_cmp, Nat.shiftLeft_eq, Nat.shiftLeft_eq]
   have e1 : (Ieee.double.leastPlace + (ex a : Nat) - min (Ieee.double.leastPlace + (ex a : Nat)) (Ieee.double.leastPlace + (ex b : Nat))).toNat = ex a - min (ex a) (ex b) := by omega
   have e2 : (Ieee.double.leastPlace + (ex b : Nat) - min (Ieee.double.leastPlace + (ex a : Nat)) (Ieee.double.leastPlace + (ex b : Nat))).toNat = ex b - min (ex a) (ex b) := by omega
   rw [e1, e2, ← scale_cmp _ _ (min (ex a) (ex b)), Nat.mul_assoc, Nat.mul_assoc, ← Nat.pow_add, ← Nat.pow_add, Nat.sub_add_cancel (Nat.min_le_left _ _), Nat.sub_add_cancel (Nat.min_le_right _ _)]
   exact vl_cmp a b
  ·rw [if_neg h2, if_pos (by omega)]
   simp only [Ieee.Datum.order]
   rw [Nat.compare_eq_lt.2 (by omega)]; rfl
 ·rw [if_neg h1, if_pos (by omega)]
  by_cases h2 : b < 9218868437227405312
  ·rw [if_pos h2]
   simp only [Ieee.Datum.order]
   rw [Nat.compare_eq_gt.2 (by omega)]; rfl
  ·rw [if_neg h2, if_pos (by omega)]
   simp only [Ieee.Datum.order]
   have : a = b := by omega
   subst this; simp
theorem fls_pos {a b : Nat} (ha : a ≤ 9218868437227405312) (hb : b ≤ 9218868437227405312) : fls a b = decide (a < b) := by
 unfold fls
 rw [order_pos ha hb]
 rcases Nat.lt_trichotomy a b with c | c | c
 ·rw [Nat.compare_eq_lt.2 c]; simp [c]
 ·subst c; simp
 ·rw [Nat.compare_eq_gt.2 c]; symm; rw [decide_eq_false_iff_not.2 (by omega)]; rfl
theorem feq_pos {a b : Nat} (ha : a ≤ 9218868437227405312) (hb : b ≤ 9218868437227405312) : feq a b = decide (a = b) := by
 unfold feq
 rw [order_pos ha hb]
 rcases Nat.lt_trichotomy a b with c | c | c
 ·rw [Nat.compare_eq_lt.2 c]; symm; rw [decide_eq_false_iff_not.2 (by omega)]; rfl
 ·subst c; simp
 ·rw [Nat.compare_eq_gt.2 c]; symm; rw [decide_eq_false_iff_not.2 (by omega)]; rfl
theorem fls_nan {a b : Nat} (h : isnan a = true ∨ isnan b = true) : fls a b = false := by
 unfold fls
 rcases h with h | h
 ·rw [B.ord_l h]; rfl
 ·rw [B.ord_r h]; rfl
theorem feq_nan {a b : Nat} (h : isnan a = true ∨ isnan b = true) : feq a b = false := by
 unfold feq
 rcases h with h | h
 ·rw [B.ord_l h]; rfl
 ·rw [B.ord_r h]; rfl
def rk (a : Nat) : Int := if isnan a = true then 0 else (a : Int) + 9223372036854775808
theorem less_rk {a b : Nat} (ha : a < 9223372036854775808) (hb : b < 9223372036854775808) : lessB a b = decide (rk a < rk b) := by
 unfold lessB weight_Less.m rk
 have h0 : flt 0 = 0 := B.flt0
 rw [h0]
 have na := isnan_pos ha
 have nb := isnan_pos hb
 cases ea : isnan a
 ·rw [ea] at na
  have ha' : a ≤ 9218868437227405312 := by have := decide_eq_false_iff_not.1 na.symm; omega
  rw [feq_pos ha' (by omega)]
  cases eb : isnan b
  ·rw [eb] at nb
   have hb' : b ≤ 9218868437227405312 := by have := decide_eq_false_iff_not.1 nb.symm; omega
   rw [feq_pos hb' (by omega)]
   by_cases h1 : a = 0
   ·by_cases h2 : b = 0
    ·subst h1 h2
     simp only [decide_true, if_true, Option.bind_some, math_Signbit.m, ea]
     rfl
    ·simp only [h1, h2, decide_true, decide_false, if_true, Option.bind_some, Bool.false_eq_true, if_false, letC, cmp_Less.m]
     rw [feq_pos (by omega) (by omega), fls_pos (by omega) hb']
     simp <;> omega
   ·simp only [h1, decide_false, Bool.false_eq_true, if_false, Option.bind_some, letC, cmp_Less.m]
    rw [feq_pos ha' ha', fls_pos ha' hb']
    simp
  ·rw [eb] at nb
   have hbn : feq b 0 = false := feq_nan (.inl eb)
   have key : cmp_Less.m a b = false := by
    unfold cmp_Less.m
    simp only [letC]
    rw [feq_pos ha' ha', fls_nan (.inr eb)]
    simp
   have : (if decide (a = 0) = true then some (feq b 0) else some false : Option Bool) = some false := by rw [hbn]; split <;> rfl
   rw [this]
   simp only [Option.bind_some, Bool.false_eq_true, if_false, letC, key]
   symm
   simp
   omega
 ·have han : feq a 0 = false := feq_nan (.inl ea)
  rw [han]
  simp only [Bool.false_eq_true, if_false, Option.bind_some, letC, cmp_Less.m]
  rw [feq_nan (a := a) (b := a) (.inl ea)]
  cases eb : isnan b
  ·rw [eb] at nb
   have hb' : b ≤ 9218868437227405312 := by have := decide_eq_false_iff_not.1 nb.symm; omega
   rw [feq_pos hb' hb']
   simp
   omega
  ·rw [feq_nan (a := b) (b := b) (.inl eb), fls_nan (.inl ea)]
   simp
theorem word_pos (r : Nat) (h : r ≤ 9218868437227405312) : Ieee.double.word false r < 9223372036854775808 := by
 unfold Ieee.Format.word
 simp; omega
theorem nearest_pos (m : Nat) (p : Int) : Ieee.double.nearest false m p < 9223372036854775808 := by
 unfold Ieee.Format.nearest
 split
 ·exact word_pos 0 (by omega)
 ·exact word_pos _ (Nat.min_le_right _ _)
theorem flt_pos {b : Nat} (h : b < 9223372036854775808) : flt b < 9223372036854775808 := by
 unfold flt
 split
 ·decide
 ·exact h
theorem i2f_pos {n : Int} (h : 0 ≤ n) : flt (i2f n) < 9223372036854775808 := by
 refine flt_pos ?_
 unfold i2f floatOfInt
 have : ¬ n < 0 := by omega
 simp only [FloatKind.nearest, FloatKind.encode, FloatKind.format, Ieee.Format.write, this, decide_false]
 exact nearest_pos _ _
theorem qf_pos {a b : Nat} (ha : a < 9223372036854775808) (hb : b < 9223372036854775808) : qf a b < 9223372036854775808 := by
 have nn : B.nan64 < 9223372036854775808 := by decide
 have main : ∀ d : Option Ieee.Datum, (∀ x, d = some x → (∃ m p, x = .number false m p) ∨ x = .infinity false) → (match d.map Ieee.double.write with | some r => flt r | none => B.nan64) < 9223372036854775808 := by
  intro d hd
  cases d with
  | none => exact nn
  | some x =>
   rcases hd x rfl with ⟨m, p, rfl⟩ | rfl
   ·exact flt_pos (nearest_pos m p)
   ·exact flt_pos (word_pos _ (Nat.le_refl _))
 unfold qf Ieee.Format.div
 refine main _ fun x hx => ?_
 rw [read_pos ha, read_pos hb] at hx
 by_cases a1 : a < 9218868437227405312
 ·rw [if_pos a1] at hx
  by_cases b1 : b < 9218868437227405312
  ·rw [if_pos b1] at hx
   simp only [Ieee.Datum.quotient, Bool.xor_false] at hx
   split at hx
   ·split at hx
    ·cases hx
    ·cases hx; exact .inr rfl
   ·cases hx; exact .inl ⟨_, _, rfl⟩
  ·rw [if_neg b1] at hx
   split at hx
   ·cases hx; exact .inl ⟨_, _, rfl⟩
   ·cases hx
 ·rw [if_neg a1] at hx
  by_cases a2 : a = 9218868437227405312
  ·rw [if_pos a2] at hx
   by_cases b1 : b < 9218868437227405312
   ·rw [if_pos b1] at hx; cases hx; exact .inr rfl
   ·rw [if_neg b1] at hx
    split at hx <;> cases hx
  ·rw [if_neg a2] at hx; cases hx
theorem wt_pos {s : alloc_span} (h0 : 0 ≤ s.uses) (h1 : s.from_ ≤ s.to_) (h2 : s.to_ ≤ 400 ∧ 0 ≤ s.from_) : wt s < 9223372036854775808 := by
 unfold wt alloc_weightOf.m weight_Of.m
 simp only [letC]
 rw [wr64 (by omega)]
 exact qf_pos (i2f_pos h0) (i2f_pos (by omega))
theorem rank_eq {a : Nat} (h : a < 9223372036854775808) : selvageref03_Rank.m a = some (rk a) := by
 unfold selvageref03_Rank.m selvageref03_NaN_3.m rk
 simp only [letC]
 cases e : isnan a
 ·simp only [Bool.false_eq_true, if_false, if_true]
  have e1 : ((a : Int) / 2 ^ (min (63 : Int).toNat 64)) = 0 := by
   simp only [show ((2 : Int) ^ (min (63 : Int).toNat 64)) = 9223372036854775808 from rfl]
   omega
  rw [e1, if_neg (by omega)]
  congr 1
  have : bits .or .u64 (a : Int) 9223372036854775808 = (a : Int) + 9223372036854775808 := by
   rw [u64_or _ _ (by omega) (by omega) (by omega) (by omega)]
   have e2 : (a : Int).toNat = a := by omega
   have e3 : (9223372036854775808 : Int).toNat = 2 ^ 63 * 1 := rfl
   rw [e2, e3, Nat.or_comm, ← Nat.two_pow_add_eq_or_of_lt (i := 63) (by omega) 1]
   omega
  exact this
 ·simp

theorem uses_eq (x : api_Ins) (t : Int) : selvageref14_Uses.m x t = some (nds x t) := by
 unfold selvageref14_Uses.m
 rw [has_a, has_b, nds_sh]
 simp only [Option.bind_some]
 cases (sh x.Op).a <;> cases (sh x.Op).b <;> simp
 all_goals by_cases h : x.A = t <;> simp [h]
theorem rspan_eq {code : List api_Ins} (hn : code.length ≤ 400) (t : Int) : selvageref14_Span.m code t = alloc_Span.m code t := by
 have hl2 : ∀ i0 : Nat, i0 < code.length → loop (selvageref14_Span.l2 code t) (((i0 : Int), 0) : Int × Int) = some (sp code t i0).to_ := fun i0 h0 => by
  refine loop_st (f := selvageref14_Span.l2 code t) code.length (fun i => ((su code t i0 i).to_, (i : Int))) _ (fun i hi => ?_) ?_
  ·unfold selvageref14_Span.l2
   dsimp only
   rw [if_pos (by omega), if_pos (by omega)]
   simp only [letC, su]
   rw [uses_eq, Option.bind_some, wr64 (by omega)]
   by_cases hd : nds (gi code i) t = true
   ·rw [if_pos hd, if_pos hd]
    by_cases hg : (i : Int) > (su code t i0 i).to_
    ·rw [if_pos hg]; simp only []; rw [if_pos hg]; rfl
    ·rw [if_neg hg]; simp only []; rw [if_neg hg]; rfl
   ·rw [if_neg hd, if_neg hd]; rfl
  ·unfold selvageref14_Span.l2
   dsimp only
   rw [if_neg (by omega)]
   rfl
 have main : Tot (fun o => (∃ i : Nat, At code t i ∧ o = .inl ((i : Int), (sp code t i).to_)) ∨ ((∀ j : Nat, j < code.length → mkt t (gi code j) = false) ∧ o = .inr ())) (loop (selvageref14_Span.l1 code t) (0 : Int)) := by
  refine loop_T code.length (fun i s => s = (i : Int) ∧ ∀ j : Nat, j < i → mkt t (gi code j) = false) (fun i s hi hs => ?_) (fun s hs => ?_) ⟨rfl, fun j hj => by omega⟩
  ·obtain ⟨rfl, hs⟩ := hs
   unfold selvageref14_Span.l1
   refine .tt (by omega) ?_
   have e : (if 0 ≤ (i : Int) ∧ (i : Int) < (code.length : Int) then (letC (gi code (i : Int)) fun v_16 => (selvageref10_Has.m v_16.Op 100).bind fun r_17 => if r_17 = true then (letC (gi code (i : Int)) fun v_20 => some ((!(decide (v_20.D = t))) : Bool)) else (some (true : Bool))) else none : Option Bool) = some (!(mkt t (gi code i))) := by
    rw [if_pos (by omega)]
    simp only [letC]
    rw [has_d, Option.bind_some]
    unfold mkt
    rw [mks_sh]
    cases (sh (gi code (i : Int)).Op).d <;> simp
   refine .bindE e (.ite (fun h => .some ⟨by rw [wr64 (by omega)]; rfl, fun j hj => ?_⟩) fun h => ?_)
   ·by_cases e : j = i
    ·subst e; simpa using h
    ·exact hs j (by omega)
   ·refine .bindE (hl2 i hi) (.some (.inl ⟨i, ⟨hi, by simpa using h, hs⟩, rfl⟩))
  ·obtain ⟨rfl, hs⟩ := hs
   unfold selvageref14_Span.l1
   exact .ff (by omega) (.some (.inr ⟨hs, rfl⟩))
 unfold selvageref14_Span.m alloc_Span.m
 obtain ⟨o, e, ho⟩ := main
 rw [e, Option.bind_some]
 rcases ho with ⟨i, hat, rfl⟩ | ⟨hno, rfl⟩
 ·rcases span_eq code t hn with ⟨j, hj, e2⟩ | ⟨hj, _⟩
  ·have := hj.uniq hat
   subst this
   rw [e2, Option.bind_some]
   obtain ⟨_, h2, _⟩ := su_p code t j code.length
   have h2' : (sp code t j).from_ = (j : Int) := h2
   simp only [h2']
  ·have := hj i hat.1; rw [hat.2.1] at this; cases this
 ·rcases span_eq code t hn with ⟨j, hj, _⟩ | ⟨_, e2⟩
  ·have := hno j hj.1; rw [hj.2.1] at this; cases this
  ·rw [e2]; rfl
theorem rweight_eq {code : List api_Ins} (hn : code.length ≤ 400) {j : Nat} (hj : j < code.length) (hg : Good code code.length) (hm : mks (gi code j) = true) : selvageref14_weightOf.m code (gi code j).D = some (wt (spn code j)) := by
 unfold selvageref14_weightOf.m
 rw [rspan_eq hn]
 rcases span_c hn (gi code j).D with ⟨k, hk, hm', hD, e⟩ | ⟨hno, _⟩
 ·have hkj : k = j := by
   rcases Nat.lt_trichotomy k j with c | c | c
   ·exact absurd hD ((hg j hj hm).2.2 k c hm')
   ·exact c
   ·exact absurd hD.symm ((hg k hk hm').2.2 j c hm)
  subst hkj
  rw [e, Option.bind_some]
  have hl : loop (selvageref14_weightOf.l1 code (gi code k).D) ((0, 0) : Int × Int) = some (spn code k).uses := by
   refine loop_st (f := selvageref14_weightOf.l1 code (gi code k).D) code.length (fun i => ((su code (gi code k).D k i).uses, (i : Int))) _ (fun i hi => ?_) ?_
   ·unfold selvageref14_weightOf.l1
    dsimp only
    obtain ⟨_, _, h3, h4, _⟩ := su_p code (gi code k).D k i
    rw [if_pos (by omega), if_pos (by omega)]
    simp only [letC, su]
    rw [uses_eq, Option.bind_some, wr64 (by omega), wr64 (by omega)]
    by_cases hd : nds (gi code i) (gi code k).D = true
    ·rw [if_pos hd, if_pos hd]; rfl
    ·rw [if_neg hd, if_neg hd]; rfl
   ·unfold selvageref14_weightOf.l1
    dsimp only
    rw [if_neg (by omega)]
    rfl
  rw [hl, Option.bind_some]
  simp only [letC, wt, alloc_weightOf.m, weight_Of.m]
  rw [(spn_t code k).2.1]
 ·exact absurd rfl (hno j hj hm)

section
variable {code : List api_Ins} {regs : Int} {i : Nat}
def Ord (act : List alloc_span) : Prop := act.Pairwise fun a b => a.from_ < b.from_
structure TB (code : List api_Ins) (regs : Int) (i : Nat) (now : Int) (tab : List Int) (out : List api_Home) (act : List alloc_span) : Prop where
 l : tab.length = 8
 h0 : ∀ r : Nat, r < 8 → regs ≤ (r : Int) → gi tab r = -1
 h1 : ∀ r : Nat, r < 8 → gi tab r = -1 ∨ ∃ j : Nat, j < i ∧ mks (gi code j) = true ∧ gi tab r = (gi code j).D ∧ ((spn code j ∈ act ∧ reg out (spn code j) = (r : Int)) ∨ (spn code j).to_ < now)
 h2 : ∀ a ∈ act, gi tab (reg out a) = a.temp
theorem ord_app {act : List alloc_span} {s : alloc_span} (h : Ord act) (hs : ∀ a ∈ act, a.from_ < s.from_) : Ord (act ++ [s]) := by
 unfold Ord at *
 rw [List.pairwise_append]
 refine ⟨h, by simp, fun a ha b hb => ?_⟩
 simp only [List.mem_singleton] at hb
 subst hb; exact hs a ha
theorem hs_ord (hn : code.length ≤ 400) (hg : Good code code.length) (hr : 1 ≤ regs ∧ regs ≤ 8) : ∀ i, i ≤ code.length → Ord (hs code regs i).act
 | 0, _ => by simp [hs, Ord]
 | i + 1, hi => by
  have ih := hs_ord hn hg hr i (by omega)
  have hI := hs_ok hn hg hr i (by omega)
  show Ord (hstep code regs i (hs code regs i)).act
  unfold hstep
  by_cases hm : mks (gi code i) = true
  ·rw [if_pos hm]
   dsimp only
   have hp := pre_of hI hg (by omega) hm
   have hf : Ord ((hs code regs i).act.filter (live (spn code i).from_)) := ih.sublist List.filter_sublist
   have happ : Ord ((hs code regs i).act.filter (live (spn code i).from_) ++ [spn code i]) := ord_app hf fun a ha => by
    obtain ⟨j, hj, _, e, _⟩ := hp.a.ac a ha
    rw [e, (spn_t code j).2.1, (spn_t code i).2.1]; omega
   split
   ·exact happ
   ·exact happ.sublist (List.eraseIdx_sublist _ _)
  ·rw [if_neg hm]; exact ih
variable {out : List api_Home} {act : List alloc_span} {slots : Int}
theorem Ahd.full (h : Ahd code regs i out act slots) (hr : regs ≤ (act.length : Int)) (h1 : 1 ≤ regs) {r : Nat} (hrr : (r : Int) < regs) : has act out r = true := by
 have hal := h.a.al
 cases hq : has act out r
 ·exfalso
  have := sub_len (l := act.map (reg out)) (m := ((List.range regs.toNat).map fun m : Nat => (m : Int)).erase (r : Int)) (by
   have key : ∀ l : List alloc_span, (l.map (·.temp)).Nodup → (∀ a ∈ l, ∀ b ∈ l, reg out a = reg out b → a = b) → (l.map (reg out)).Nodup := by
    intro l
    induction l with
    | nil => intro _ _; simp
    | cons a l ih =>
     intro hn hrg
     simp only [List.map_cons, List.nodup_cons] at hn ⊢
     refine ⟨fun c => ?_, ih hn.2 fun a ha b hb => hrg a (by simp [ha]) b (by simp [hb])⟩
     obtain ⟨b, hb, e⟩ := List.mem_map.1 c
     have := hrg b (by simp [hb]) a (by simp) e
     exact hn.1 (List.mem_map.2 ⟨b, hb, by rw [this]⟩)
   exact key act h.a.nd h.a.rg) (fun x hx => by
   obtain ⟨a, ha, rfl⟩ := List.mem_map.1 hx
   obtain ⟨j, hj, hm, e, h0⟩ := h.a.ac a ha
   have hy := h.o.ye j hj hm
   have hrg : reg out a = (gi out (gi code j).D).Reg := by unfold reg; rw [e, (spn_t code j).1]
   rw [← hrg] at hy
   have hne : reg out a ≠ (r : Int) := fun c => by
    have : has act out r = true := List.any_eq_true.2 ⟨a, ha, by simp [c]⟩
    rw [hq] at this; cases this
   refine (List.mem_erase_of_ne hne).2 (List.mem_map.2 ⟨(reg out a).toNat, List.mem_range.2 (by omega), by omega⟩))
  rw [List.length_map, List.length_erase_of_mem (List.mem_map.2 ⟨r, List.mem_range.2 (by omega), rfl⟩), List.length_map, List.length_range] at this
  omega
 ·rfl
theorem sweep {tab : List Int} {S : (List Int) × (List api_Home) × Nat × Int × Int} {act0 : List alloc_span} (hn : code.length ≤ 400) (hr : 1 ≤ regs ∧ regs ≤ 8) (h : Ahd code regs i out (act0.filter (live (i : Int))) slots) (hg : Good code code.length)
 (hS : S.2.2.2.2 = (i : Int)) (hT : TB code regs i (i : Int) tab out act0) (ha0 : ∀ a ∈ act0, ∃ j : Nat, j < i ∧ mks (gi code j) = true ∧ a = spn code j ∧ 0 ≤ reg out a ∧ reg out a < regs) :
 ∃ tab', loop (selvageref14_Homes.l4 code S) ((tab, (-1), (wr .i64 (regs - (1 : Int)))) : (List Int) × Int × Int) = some (tab', if ((act0.filter (live (i : Int))).length : Int) < regs then least (act0.filter (live (i : Int))) out else -1) ∧
  TB code regs i (-1) tab' out (act0.filter (live (i : Int))) := by
 have hspan : ∀ j : Nat, j < i → mks (gi code j) = true → ∃ b, selvageref14_Span.m code (gi code j).D = some ((j : Int), (spn code j).to_, b) := fun j hj hm => by
  rw [rspan_eq hn]
  rcases span_c hn (gi code j).D with ⟨k, hk, hm', hD, e⟩ | ⟨hno, _⟩
  ·have hkj : k = j := by
    have := h.hi
    rcases Nat.lt_trichotomy k j with c | c | c
    ·exact absurd hD ((hg j (by omega) hm).2.2 k c hm')
    ·exact c
    ·exact absurd hD.symm ((hg k hk hm').2.2 j c hm)
   subst hkj
   exact ⟨true, e⟩
  ·exact absurd rfl (hno j (by have := h.hi; omega) hm)
 have hDi : ∀ j : Nat, j < i → mks (gi code j) = true → 0 ≤ (gi code j).D := fun j hj hm => (hg j (by have := h.hi; omega) hm).1
 generalize hact : act0.filter (live (i : Int)) = act at *
 have hin : ∀ a, a ∈ act ↔ a ∈ act0 ∧ ¬ a.to_ < (i : Int) := fun a => by
  rw [← hact, List.mem_filter]; simp [live]
 -- what one entry becomes
 let new : Nat → Int := fun r => if has act out r = true then gi tab r else -1
 have hnew : ∀ r : Nat, (r : Int) < regs → (gi tab r = -1 ∧ new r = -1 ∧ has act out r = false) ∨ (∃ j : Nat, j < i ∧ mks (gi code j) = true ∧ gi tab r = (gi code j).D ∧ (if (spn code j).to_ < (i : Int) then new r = -1 ∧ has act out r = false else new r = gi tab r ∧ has act out r = true ∧ spn code j ∈ act ∧ reg out (spn code j) = (r : Int))) := fun r hrr => by
  have hfalse : (∀ a ∈ act, gi tab r ≠ a.temp) → has act out r = false := fun hno => by
   cases hq : has act out r
   ·rfl
   ·exfalso
    obtain ⟨a, ha, e⟩ := List.any_eq_true.1 hq
    have e := of_decide_eq_true e
    have := hT.h2 a ((hin a).1 ha).1
    rw [e] at this
    exact hno a ha this
  rcases hT.h1 r (by omega) with c | ⟨j, hj, hm, e, c⟩
  ·left
   have hf := hfalse fun a ha => by
    obtain ⟨j, hj, hm, ea, _⟩ := ha0 a ((hin a).1 ha).1
    have := hDi j hj hm
    rw [c, ea, (spn_t code j).1]; omega
   exact ⟨c, by simp only [new, hf]; rfl, hf⟩
  ·right
   refine ⟨j, hj, hm, e, ?_⟩
   by_cases hlt : (spn code j).to_ < (i : Int)
   ·rw [if_pos hlt]
    have hf := hfalse fun a ha ea => by
     obtain ⟨k, hk, hmk, ek, _⟩ := ha0 a ((hin a).1 ha).1
     rw [e, ek, (spn_t code k).1] at ea
     have : j = k := h.inj hg (by omega) (by omega) hm hmk ea
     subst this
     rw [ek] at ha
     exact ((hin _).1 ha).2 hlt
    exact ⟨by simp only [new, hf]; rfl, hf⟩
   ·rw [if_neg hlt]
    rcases c with ⟨c1, c2⟩ | c
    ·have ha : spn code j ∈ act := (hin _).2 ⟨c1, hlt⟩
     have ht : has act out r = true := List.any_eq_true.2 ⟨_, ha, by simp [c2]⟩
     exact ⟨by simp only [new, ht]; rfl, ht, ha, c2⟩
    ·exact absurd c hlt
 have hw : wr .i64 (regs - (1 : Int)) = regs - 1 := wr64 (by omega)
 rw [hw]
 have main : Tot (fun o : (List Int) × Int => o.1.length = 8 ∧ (∀ q : Nat, q < 8 → gi o.1 q = if (q : Int) < regs then new q else gi tab q) ∧ ((o.2 = -1 ∧ ∀ q : Nat, (q : Int) < regs → has act out q = true) ∨ ∃ q : Nat, (q : Int) < regs ∧ o.2 = (q : Int) ∧ has act out q = false ∧ ∀ p : Nat, p < q → has act out p = true)) (loop (selvageref14_Homes.l4 code S) ((tab, (-1), regs - 1) : (List Int) × Int × Int)) := by
  refine loop_T regs.toNat (fun k z => z.1.length = 8 ∧ z.2.2 = regs - 1 - (k : Int) ∧ (∀ q : Nat, q < 8 → gi z.1 q = if (q : Int) < regs ∧ regs - (k : Int) ≤ (q : Int) then new q else gi tab q) ∧ ((z.2.1 = -1 ∧ ∀ q : Nat, (q : Int) < regs → regs - (k : Int) ≤ (q : Int) → has act out q = true) ∨ ∃ q : Nat, (q : Int) < regs ∧ regs - (k : Int) ≤ (q : Int) ∧ z.2.1 = (q : Int) ∧ has act out q = false ∧ ∀ p : Nat, p < q → regs - (k : Int) ≤ (p : Int) → has act out p = true)) (fun k z hk hz => ?_) (fun z hz => ?_) ⟨hT.l, by simp only []; omega, fun q hq => by simp only []; rw [if_neg (by omega)], .inl ⟨rfl, fun q h1 h2 => by omega⟩⟩
  ·obtain ⟨t, f, r⟩ := z
   obtain ⟨z1, z2, z3, z4⟩ := hz
   simp only [] at z1 z2 z3 z4
   obtain ⟨r0, rfl⟩ : ∃ n : Nat, r = n := ⟨r.toNat, by omega⟩
   have hr0 : (r0 : Int) < regs := by omega
   have hcur : gi t (r0 : Int) = gi tab r0 := by rw [z3 r0 (by omega), if_neg (by omega)]
   unfold selvageref14_Homes.l4
   dsimp only
   refine .tt (by omega) ?_
   refine Tot.gd (by omega) ?_
   refine Tot.gd (by omega) ?_
   refine Tot.let fun v hv => ?_
   rw [hcur] at hv
   refine .bind (R := fun t' => t'.length = 8 ∧ gi t' (r0 : Int) = new r0 ∧ ∀ q : Nat, q < 8 → q ≠ r0 → gi t' q = gi t q) ?_ fun t' ht' => ?_
   ·rcases hnew r0 hr0 with ⟨c1, c2, c3⟩ | ⟨j, hj, hm, e, c⟩
    ·exact .ff (by omega) (.some ⟨z1, by rw [hcur, c1, c2], fun _ _ _ => rfl⟩)
    ·have := hDi j hj hm
     refine .tt (by omega) ?_
     refine Tot.let fun u hu => ?_
     obtain ⟨b, hb⟩ := hspan j hj hm
     refine .bindE (by rw [hu, hcur, e]; exact hb) ?_
     simp only []
     rw [hS]
     by_cases hlt : (spn code j).to_ < (i : Int)
     ·rw [if_pos hlt] at c ⊢
      simp only [letC]
      refine .some ⟨by simp [z1], ?_, fun q hq hne => ?_⟩
      ·rw [gi_set (by omega) (by omega) (by omega), if_pos (by omega)]; exact c.1.symm
      ·rw [gi_set (by omega) (by omega) (by omega), if_neg (by omega)]
     ·rw [if_neg hlt] at c ⊢
      exact .some ⟨z1, by rw [hcur]; exact c.1.symm, fun _ _ _ => rfl⟩
   ·obtain ⟨y1, y2, y3⟩ := ht'
    refine Tot.gd (by omega) ?_
    refine Tot.let fun u hu => ?_
    rw [y2] at hu
    have hfree : u < 0 ↔ has act out r0 = false := by
     rw [hu]
     rcases hnew r0 hr0 with ⟨c1, c2, c3⟩ | ⟨j, hj, hm, e, c⟩
     ·rw [c2]; simp [c3]
     ·have := hDi j hj hm
      by_cases hlt : (spn code j).to_ < (i : Int)
      ·rw [if_pos hlt] at c; rw [c.1]; simp [c.2]
      ·rw [if_neg hlt] at c; rw [c.1, e, c.2.1]; simp; omega
    have tabN : ∀ q : Nat, q < 8 → gi t' q = if (q : Int) < regs ∧ regs - ((k + 1 : Nat) : Int) ≤ (q : Int) then new q else gi tab q := fun q hq => by
     by_cases e : q = r0
     ·subst e; rw [y2, if_pos (by omega)]
     ·rw [y3 q hq e, z3 q hq]
      by_cases c : (q : Int) < regs ∧ regs - (k : Int) ≤ (q : Int)
      ·rw [if_pos c, if_pos (by omega)]
      ·rw [if_neg c, if_neg (by omega)]
    refine .ite (fun hlt => ?_) fun hge => ?_
    ·refine Tot.let fun v2 hv2 => ?_
     rw [wr64 (by omega)] at hv2
     exact .some ⟨y1, by simp only []; omega, tabN, .inr ⟨r0, hr0, by omega, rfl, hfree.1 hlt, fun p hp hp2 => by omega⟩⟩
    ·refine Tot.let fun v2 hv2 => ?_
     rw [wr64 (by omega)] at hv2
     have ht : has act out r0 = true := by
      cases hq : has act out r0
      ·exact absurd (hfree.2 hq) hge
      ·rfl
     refine .some ⟨y1, by simp only []; omega, tabN, ?_⟩
     simp only []
     rcases z4 with ⟨c1, c2⟩ | ⟨q, q1, q2, q3, q4, q5⟩
     ·refine .inl ⟨c1, fun q h1 h2 => ?_⟩
      by_cases e : q = r0
      ·subst e; exact ht
      ·exact c2 q h1 (by omega)
     ·refine .inr ⟨q, q1, by omega, q3, q4, fun p hp hp2 => ?_⟩
      by_cases e : p = r0
      ·subst e; exact ht
      ·exact q5 p hp (by omega)
  ·obtain ⟨t, f, r⟩ := z
   obtain ⟨z1, z2, z3, z4⟩ := hz
   simp only [] at z1 z2 z3 z4
   unfold selvageref14_Homes.l4
   dsimp only
   refine .ff (by omega) (.some ⟨z1, fun q hq => ?_, ?_⟩)
   ·rw [z3 q hq]
    by_cases c : (q : Int) < regs
    ·rw [if_pos (by omega), if_pos c]
    ·rw [if_neg (by omega), if_neg c]
   ·rcases z4 with ⟨c1, c2⟩ | ⟨q, q1, q2, q3, q4, q5⟩
    ·exact .inl ⟨c1, fun q h1 => c2 q h1 (by omega)⟩
    ·exact .inr ⟨q, q1, q3, q4, fun p hp => q5 p hp (by omega)⟩
 obtain ⟨⟨tab', f⟩, e, y1, y2, y3⟩ := main
 simp only [] at y1 y2 y3
 refine ⟨tab', ?_, y1, fun r hr8 hge => by rw [y2 r hr8, if_neg (by omega)]; exact hT.h0 r hr8 hge, fun r hr8 => ?_, fun a ha => ?_⟩
 ·rw [e]
  congr 2
  have hal := h.a.al
  by_cases hc : (act.length : Int) < regs
  ·rw [if_pos hc]
   obtain ⟨q, hq, hle, hno, hall⟩ := leastN_ok act out (act.length + 1) 0 (by omega) fun k hk => by omega
   have hq' : least act out = (q : Int) := hq
   rw [hq']
   rcases y3 with ⟨c1, c2⟩ | ⟨p, p1, p2, p3, p4⟩
   ·have := c2 q (by omega)
    rw [hno] at this; cases this
   ·rw [p2]
    rcases Nat.lt_trichotomy p q with c | c | c
    ·have := hall p c; rw [p3] at this; cases this
    ·rw [c]
    ·have := p4 q c; rw [hno] at this; cases this
  ·rw [if_neg hc]
   rcases y3 with ⟨c1, c2⟩ | ⟨p, p1, p2, p3, p4⟩
   ·exact c1
   ·have := h.full (by omega) hr.1 p1
    rw [p3] at this; cases this
 ·rw [y2 r hr8]
  by_cases c : (r : Int) < regs
  ·rw [if_pos c]
   rcases hnew r c with ⟨c1, c2, c3⟩ | ⟨j, hj, hm, e, c4⟩
   ·exact .inl c2
   ·by_cases hlt : (spn code j).to_ < (i : Int)
    ·rw [if_pos hlt] at c4; exact .inl c4.1
    ·rw [if_neg hlt] at c4
     exact .inr ⟨j, hj, hm, by rw [c4.1, e], .inl ⟨c4.2.2.1, c4.2.2.2⟩⟩
  ·rw [if_neg c]; exact .inl (hT.h0 r hr8 (by omega))
 ·obtain ⟨j, hj, hm, ea, g0, g1⟩ := ha0 a ((hin a).1 ha).1
  have := hT.h2 a ((hin a).1 ha).1
  obtain ⟨r, hrr⟩ : ∃ n : Nat, reg out a = n := ⟨(reg out a).toNat, by omega⟩
  rw [hrr] at this g1 ⊢
  rw [y2 r (by omega), if_pos g1]
  have ht : has act out r = true := List.any_eq_true.2 ⟨a, ha, by simp [hrr]⟩
  simp only [new, ht, if_true]
  exact this
end

theorem spn_wt {code : List api_Ins} (hn : code.length ≤ 400) {j : Nat} (hj : j < code.length) : wt (spn code j) < 9223372036854775808 := by
 obtain ⟨_, h2, h3, _, h5, h6, _⟩ := su_p code (gi code j).D j code.length
 have h2' : (spn code j).from_ = (j : Int) := h2
 have h5' : (j : Int) ≤ (spn code j).to_ := h5
 have h6' : (spn code j).to_ = (j : Int) ∨ (spn code j).to_ < code.length := h6
 exact wt_pos h3 (by omega) ⟨by omega, by omega⟩
theorem gi_map {l : List alloc_span} {i : Nat} (h : i < l.length) : gi (l.map wt) i = wt (gi l i) := by
 rw [gi_in (by simpa using h), gi_in h]; simp
theorem gi_app {α : Type} [Inhabited α] {l m : List α} {i : Int} (h0 : 0 ≤ i) (h : i < l.length) : gi (l ++ m) i = gi l i := by
 have : i.toNat < l.length := by omega
 simp [gi, List.getD_eq_getElem?_getD, List.getElem?_append_left this]
theorem lw_app (l m : List Nat) : ∀ i, i ≤ l.length → lw (l ++ m) i = lw l i
 | 0, _ => rfl
 | i + 1, h => by
  have hb := lw_b l i
  simp only [lw]
  rw [lw_app l m i (by omega)]
  by_cases c : lw l i < 0
  ·rw [if_pos c, if_pos c]
  ·rw [if_neg c, if_neg c, gi_app (by omega) (by omega), gi_app (by omega) (by omega)]
section
variable {code : List api_Ins} {regs : Int} {i : Nat} {out : List api_Home} {act : List alloc_span} {slots : Int}
def wso (act : List alloc_span) (out : List api_Home) (m : Nat) : Int := if m = 0 then -1 else reg out (gi act (lw (act.map wt) m))
theorem worst_eq {tab : List Int} {S : (List Int) × (List api_Home) × Nat × Int × Int} {f : Int} (hn : code.length ≤ 400) (hr : 1 ≤ regs ∧ regs ≤ 8) (h : Ahd code regs i out act slots) (hg : Good code code.length) (hfull : regs ≤ (act.length : Int))
 (hS : S.2.2.2.2 = (i : Int)) (hT : TB code regs i (-1) tab out act) (hO : Ord act) :
 loop (selvageref14_Homes.l5 code regs S (tab, f)) (((-1), 0) : Int × Int) = some (wso act out act.length) := by
 have hi := h.hi
 have hl := hT.l
 have hac : ∀ a ∈ act, ∃ j : Nat, j < i ∧ mks (gi code j) = true ∧ a = spn code j ∧ 0 ≤ reg out a ∧ reg out a < regs := fun a ha => by
  obtain ⟨j, hj, hm, e, h0⟩ := h.a.ac a ha
  refine ⟨j, hj, hm, e, h0, ?_⟩
  have hy := h.o.ye j hj hm
  have : reg out a = (gi out (gi code j).D).Reg := by unfold reg; rw [e, (spn_t code j).1]
  rw [← this] at hy
  omega
 -- an entry
 have hent : ∀ r : Nat, (r : Int) < regs → ∃ j : Nat, j < i ∧ mks (gi code j) = true ∧ gi tab r = (gi code j).D ∧ spn code j ∈ act ∧ reg out (spn code j) = (r : Int) := fun r hrr => by
  have ht := h.full hfull hr.1 hrr
  obtain ⟨a, ha, e⟩ := List.any_eq_true.1 ht
  have e := of_decide_eq_true e
  obtain ⟨j, hj, hm, ea, _⟩ := hac a ha
  have := hT.h2 a ha
  rw [e, ea, (spn_t code j).1] at this
  exact ⟨j, hj, hm, this, by rw [← ea]; exact ha, by rw [← ea]; exact e⟩
 have hrank : ∀ r : Nat, (r : Int) < regs → ∀ j : Nat, j < i → mks (gi code j) = true → gi tab r = (gi code j).D → ((selvageref14_weightOf.m code (gi tab r)).bind fun w => selvageref03_Rank.m w) = some (rk (wt (spn code j))) := fun r hrr j hj hm e => by
  rw [e, rweight_eq hn (by omega) hg hm, Option.bind_some, rank_eq (spn_wt hn (by omega))]
 -- one row
 have hrow : ∀ (k : Nat), k < i → ∀ W : Int, (W = -1 ∨ ∃ w : Nat, W = (w : Int) ∧ (w : Int) < regs) →
  loop (selvageref14_Homes.l6 code regs (tab, f) (W, (k : Int))) ((W, 0) : Int × Int) = some (if mks (gi code k) = true ∧ spn code k ∈ act then (if W < 0 then reg out (spn code k) else if lessB (wt (spn code k)) ((selvageref14_weightOf.m code (gi tab W)).getD 0) = true then reg out (spn code k) else W) else W) := by
  intro k hk W hW
  -- who stands where
  have hself : ∀ r : Nat, (r : Int) < regs → mks (gi code k) = true → ((gi code k).D = gi tab r ↔ (spn code k ∈ act ∧ reg out (spn code k) = (r : Int))) := fun r hrr hm => by
   obtain ⟨j, hj, hmj, e, e1, e2⟩ := hent r hrr
   constructor
   ·intro c
    have : k = j := h.inj hg (by omega) (by omega) hm hmj (c.trans e)
    subst this
    exact ⟨e1, e2⟩
   ·rintro ⟨c1, c2⟩
    have := hT.h2 _ c1
    rw [c2, (spn_t code k).1] at this
    exact this.symm
  let New : Int := if W < 0 then reg out (spn code k) else if lessB (wt (spn code k)) ((selvageref14_weightOf.m code (gi tab W)).getD 0) = true then reg out (spn code k) else W
  have hstep : ∀ (r : Nat) (c : Prop) [Decidable c], (r : Int) < regs → (c → W = W) → selvageref14_Homes.l6 code regs (tab, f) (W, (k : Int)) (W, (r : Int)) = some (.inl (if mks (gi code k) = true ∧ spn code k ∈ act ∧ reg out (spn code k) = (r : Int) then New else W, ((r + 1 : Nat) : Int))) := by
   intro r c _ hrr _
   unfold selvageref14_Homes.l6
   dsimp only
   rw [if_pos hrr, if_pos (by omega)]
   simp only [letC]
   rw [has_d, Option.bind_some, ← mks_sh, wr64 (by omega)]
   by_cases hm : mks (gi code k) = true
   ·rw [if_pos hm, if_pos (by omega), if_pos (by omega)]
    by_cases hD : (gi code k).D = gi tab r
    ·have hs := (hself r hrr hm).1 hD
     have hR : (if mks (gi code k) = true ∧ spn code k ∈ act ∧ reg out (spn code k) = (r : Int) then New else W) = New := if_pos ⟨hm, hs.1, hs.2⟩
     rw [if_pos hD, hR]
     by_cases h0 : W < 0
     ·rw [if_pos h0, Option.bind_some, if_pos rfl]
      have : New = (r : Int) := by show (if W < 0 then _ else _) = _; rw [if_pos h0, hs.2]
      rw [this]; rfl
     ·rw [if_neg h0]
      obtain ⟨w, rfl, hw⟩ : ∃ w : Nat, W = (w : Int) ∧ (w : Int) < regs := by
       rcases hW with c | c
       ·omega
       ·exact c
      obtain ⟨j, hj, hmj, e, _⟩ := hent w hw
      have r1 := rweight_eq hn (by omega : k < code.length) hg hm
      have r2 := rweight_eq hn (by omega : j < code.length) hg hmj
      rw [hD] at r1
      rw [← e] at r2
      have p1 := spn_wt hn (by omega : k < code.length)
      have p2 := spn_wt hn (by omega : j < code.length)
      rw [r1, Option.bind_some, rank_eq p1, Option.bind_some, if_pos (by omega), if_pos (by omega), r2, Option.bind_some, rank_eq p2, Option.bind_some, Option.bind_some]
      have : New = if lessB (wt (spn code k)) (wt (spn code j)) = true then (r : Int) else (w : Int) := by
       show (if (w : Int) < 0 then _ else _) = _
       rw [if_neg h0, r2, hs.2]; rfl
      rw [this, less_rk p1 p2]
      by_cases c : rk (wt (spn code k)) < rk (wt (spn code j))
      ·simp [c]
      ·simp [c]
    ·have hs : ¬ (mks (gi code k) = true ∧ spn code k ∈ act ∧ reg out (spn code k) = (r : Int)) := fun c => hD ((hself r hrr hm).2 ⟨c.2.1, c.2.2⟩)
     rw [if_neg hD, if_neg hs, Option.bind_some, if_neg (by simp)]; rfl
   ·rw [if_neg hm, if_neg (fun c => hm c.1), Option.bind_some, if_neg (by simp)]; rfl
  -- once it has turned it stays
  have hstay : ∀ (r : Nat), (r : Int) < regs → ¬ reg out (spn code k) = (r : Int) → ∀ V : Int, selvageref14_Homes.l6 code regs (tab, f) (W, (k : Int)) (V, (r : Int)) = some (.inl (V, ((r + 1 : Nat) : Int))) := by
   intro r hrr hne V
   unfold selvageref14_Homes.l6
   dsimp only
   rw [if_pos hrr, if_pos (by omega)]
   simp only [letC]
   rw [has_d, Option.bind_some, ← mks_sh, wr64 (by omega)]
   by_cases hm : mks (gi code k) = true
   ·rw [if_pos hm, if_pos (by omega), if_pos (by omega)]
    have hD : ¬ (gi code k).D = gi tab r := fun c => hne ((hself r hrr hm).1 c).2
    rw [if_neg hD, Option.bind_some, if_neg (by simp)]; rfl
   ·rw [if_neg hm, Option.bind_some, if_neg (by simp)]; rfl
  let P : Prop := mks (gi code k) = true ∧ spn code k ∈ act
  have hend : ∀ V : Int, selvageref14_Homes.l6 code regs (tab, f) (W, (k : Int)) (V, (regs.toNat : Int)) = some (.inr V) := fun V => by
   unfold selvageref14_Homes.l6
   dsimp only
   rw [if_neg (by omega)]
  by_cases hP : P
  ·obtain ⟨hm, ha⟩ := hP
   obtain ⟨_, _, _, _, g0, g1⟩ := hac _ ha
   rw [if_pos ⟨hm, ha⟩]
   have := loop_st (f := selvageref14_Homes.l6 code regs (tab, f) (W, (k : Int))) regs.toNat (fun r => (if reg out (spn code k) < (r : Int) then New else W, (r : Int))) New (fun r hrr => ?_) (by show selvageref14_Homes.l6 code regs (tab, f) (W, (k : Int)) (if reg out (spn code k) < (regs.toNat : Int) then New else W, (regs.toNat : Int)) = _; rw [if_pos (by omega)]; exact hend New)
   ·rw [if_neg (by omega)] at this; exact this
   ·by_cases c : reg out (spn code k) = (r : Int)
    ·rw [if_neg (by omega), if_pos (by omega), hstep r True (by omega) (fun _ => rfl), if_pos ⟨hm, ha, c⟩]
    ·rw [hstay r (by omega) c]
     by_cases c2 : reg out (spn code k) < (r : Int)
     ·rw [if_pos c2, if_pos (by omega)]
     ·rw [if_neg c2, if_neg (by omega)]
  ·rw [if_neg hP]
   refine loop_st (f := selvageref14_Homes.l6 code regs (tab, f) (W, (k : Int))) regs.toNat (fun r => (W, (r : Int))) W (fun r hrr => ?_) (hend W)
   rw [hstep r True (by omega) (fun _ => rfl), if_neg (fun c => hP ⟨c.1, c.2.1⟩)]
 -- all rows
 have hfrom : ∀ q : Nat, q < act.length → ∃ j : Nat, j < i ∧ mks (gi code j) = true ∧ gi act q = spn code j ∧ (gi act q).from_ = (j : Int) := fun q hq => by
  obtain ⟨j, hj, hm, e, _⟩ := hac _ (gi_mem (l := act) (i := (q : Int)) (by omega) (by omega))
  exact ⟨j, hj, hm, e, by rw [e, (spn_t code j).2.1]⟩
 have hmono : ∀ p q : Nat, p < q → q < act.length → (gi act p).from_ < (gi act q).from_ := fun p q hpq hq => by
  rw [gi_in (by omega), gi_in hq]
  exact List.pairwise_iff_getElem.1 hO p q (by omega) hq hpq
 have hwso : ∀ m : Nat, m ≤ act.length → (wso act out m = -1 ∧ m = 0) ∨ (0 < m ∧ ∃ q : Nat, q < m ∧ lw (act.map wt) m = (q : Int) ∧ wso act out m = reg out (gi act q)) := fun m hm => by
  unfold wso
  rcases Nat.eq_zero_or_pos m with c | c
  ·left; exact ⟨by rw [if_pos c], c⟩
  ·right
   refine ⟨c, ?_⟩
   have hb := lw_b (act.map wt) m
   refine ⟨(lw (act.map wt) m).toNat, by omega, by omega, ?_⟩
   rw [if_neg (by omega), show (((lw (act.map wt) m).toNat : Nat) : Int) = lw (act.map wt) m by omega]
 have main : Tot (fun o => o = wso act out act.length) (loop (selvageref14_Homes.l5 code regs S (tab, f)) (((-1), 0) : Int × Int)) := by
  refine loop_T i (fun k z => z.2 = (k : Int) ∧ ∃ m : Nat, m ≤ act.length ∧ z.1 = wso act out m ∧ (∀ q : Nat, q < m → (gi act q).from_ < (k : Int)) ∧ (∀ q : Nat, m ≤ q → q < act.length → (k : Int) ≤ (gi act q).from_)) (fun k z hk hz => ?_) (fun z hz => ?_) ⟨rfl, 0, by omega, by simp [wso], fun q hq => by omega, fun q _ hq => by
   obtain ⟨j, _, _, _, e⟩ := hfrom q hq
   rw [e]; omega⟩
  ·obtain ⟨W, k'⟩ := z
   obtain ⟨rfl, m, hm, rfl, hlo, hhi⟩ := hz
   unfold selvageref14_Homes.l5
   dsimp only
   refine .tt (by rw [hS]; omega) ?_
   have hwm := hwso m hm
   have hW : wso act out m = -1 ∨ ∃ w : Nat, wso act out m = (w : Int) ∧ (w : Int) < regs := by
    rcases hwm with ⟨c, _⟩ | ⟨_, q, hq, _, c⟩
    ·exact .inl c
    ·obtain ⟨_, _, _, _, g0, g1⟩ := hac _ (gi_mem (l := act) (i := (q : Int)) (by omega) (by omega))
     exact .inr ⟨(reg out (gi act q)).toNat, by rw [c]; omega, by omega⟩
   refine .bindE (hrow k hk _ hW) ?_
   refine Tot.let fun v hv => ?_
   rw [wr64 (by omega)] at hv
   refine .some ⟨by simp only []; omega, ?_⟩
   simp only []
   by_cases hP : mks (gi code k) = true ∧ spn code k ∈ act
   ·rw [if_pos hP]
    obtain ⟨q, hq, eq⟩ := mem_gi hP.2
    have hqf : (gi act q).from_ = (k : Int) := by rw [eq, (spn_t code k).2.1]
    have hqm : q = m := by
     rcases Nat.lt_trichotomy q m with c | c | c
     ·have := hlo q c; omega
     ·exact c
     ·have h1 := hmono m q c hq
      have h2 := hhi m (Nat.le_refl _) (by omega)
      omega
    subst hqm
    refine ⟨q + 1, by omega, ?_, fun p hp => ?_, fun p hp hp2 => ?_⟩
    ·unfold wso
     rw [if_neg (by omega : ¬ q + 1 = 0)]
     simp only [lw]
     rcases hwm with ⟨c, c0⟩ | ⟨c0, p, hp, c1, c2⟩
     ·subst c0
      have e0 : lw (act.map wt) 0 < 0 := by simp [lw]
      rw [if_pos rfl, if_pos (by omega), if_pos e0, eq]
     ·rw [if_neg (by omega : ¬ q = 0)]
      have c2' : reg out (gi act (lw (act.map wt) q)) = reg out (gi act p) := by rw [c1]
      rw [c2', c1]
      obtain ⟨jp, hjp, hmp, ep, _, _⟩ := hac _ (gi_mem (l := act) (i := (p : Int)) (by omega) (by omega))
      obtain ⟨_, _, _, _, g0, g1⟩ := hac _ (gi_mem (l := act) (i := (p : Int)) (by omega) (by omega))
      have htp := hT.h2 _ (gi_mem (l := act) (i := (p : Int)) (by omega) (by omega))
      rw [if_neg (by omega : ¬ reg out (gi act (p : Int)) < 0), if_neg (by omega : ¬ (p : Int) < 0), htp]
      have hw : selvageref14_weightOf.m code (gi act p).temp = some (wt (gi act p)) := by
       rw [ep, (spn_t code jp).1, rweight_eq hn (by omega) hg hmp]
      rw [hw, gi_map (by omega), gi_map (by omega), eq]
      show (if lessB (wt (spn code k)) (wt (gi act p)) = true then _ else _) = _
      by_cases c3 : lessB (wt (spn code k)) (wt (gi act p)) = true
      ·rw [if_pos c3, if_pos c3, eq]
      ·rw [if_neg c3, if_neg c3]
    ·by_cases e : p = q
     ·subst e; omega
     ·have := hlo p (by omega); omega
    ·have := hmono q p (by omega) hp2
     omega
   ·rw [if_neg hP]
    refine ⟨m, hm, rfl, fun p hp => by have := hlo p hp; omega, fun p hp hp2 => ?_⟩
    have := hhi p hp hp2
    obtain ⟨j, hj, hmj, ej, ef⟩ := hfrom p hp2
    have : j ≠ k := fun c => hP ⟨by rw [← c]; exact hmj, by rw [← c, ← ej]; exact gi_mem (by omega) (by omega)⟩
    omega
  ·obtain ⟨W, k'⟩ := z
   obtain ⟨rfl, m, hm, rfl, hlo, hhi⟩ := hz
   unfold selvageref14_Homes.l5
   dsimp only
   refine .ff (by rw [hS]; omega) (.some ?_)
   have : m = act.length := by
    rcases Nat.lt_or_ge m act.length with c | c
    ·have h1 := hhi m (Nat.le_refl _) c
     obtain ⟨j, hj, _, _, e⟩ := hfrom m c
     omega
    ·omega
   rw [this]
 obtain ⟨o, e, rfl⟩ := main
 exact e
end
end Go.Proofs.Ytbhekpcimmaijaa.W
