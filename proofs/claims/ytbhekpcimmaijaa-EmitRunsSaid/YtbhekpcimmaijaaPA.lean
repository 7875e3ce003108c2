/- PA: several texts in one. -/
import Derived.Test.YtbhekpcimmaijaaQA
import Derived.Test.YtbhekpcimmaijaaLB
import Derived.Test.YtbhekpcimmaijaaQB
import Derived.Test.YtbhekpcimmaijaaQC
set_option linter.unusedVariables false
set_option linter.unusedSimpArgs false
set_option linter.unusedSectionVars false
namespace Go.Proofs.Ytbhekpcimmaijaa.W
open Go Go.RowKit Go.Proofs.Ytbhekpcimmaijaa Go.Proofs.Ytbhekpcimmaijaa.X
open Go.Proofs.Ytbhekpcimmaijaa.B (wr aget aset loop loop_in loop_out loop_tot)

theorem wr64 {x : Int} (h : -9223372036854775808 ≤ x ∧ x < 9223372036854775808) : wr .i64 x = x := B.w64 h
theorem loop_cnt {S O : Type} {f : S → Option (S ⊕ O)} (n : Nat) (I : Nat → S → Prop) (Q : O → Prop)
 (h1 : ∀ i s, i < n → I i s → (∃ s', f s = some (.inl s') ∧ I (i + 1) s') ∨ ∃ o, f s = some (.inr o) ∧ Q o) (h2 : ∀ s, I n s → ∃ o, f s = some (.inr o) ∧ Q o) {s : S} (h : I 0 s) : ∃ o, loop f s = some o ∧ Q o := by
 have key : ∀ m i s, i + m = n → I i s → ∃ o, loop f s = some o ∧ Q o := by
  intro m
  induction m with
  | zero =>
   intro i s hi hs
   have : i = n := by omega
   subst this
   obtain ⟨o, ho, hq⟩ := h2 s hs
   exact ⟨o, loop_out ho, hq⟩
  | succ m ih =>
   intro i s hi hs
   rcases h1 i s (by omega) hs with ⟨s', e, hs'⟩ | ⟨o, ho, hq⟩
   ·obtain ⟨o, k1, k2⟩ := ih (i + 1) s' (by omega) hs'
    exact ⟨o, (loop_in e).trans k1, k2⟩
   ·exact ⟨o, loop_out ho, hq⟩
 exact key n 0 s (by omega) h
theorem loop_st {S O : Type} {f : S → Option (S ⊕ O)} (n : Nat) (st : Nat → S) (o : O) (h1 : ∀ i, i < n → f (st i) = some (.inl (st (i + 1)))) (h2 : f (st n) = some (.inr o)) : loop f (st 0) = some o := by
 obtain ⟨o', k1, rfl⟩ := loop_cnt (f := f) n (fun i s => s = st i) (fun o' => o' = o) (fun i s hi hs => .inl ⟨_, by rw [hs]; exact h1 i hi, rfl⟩) (fun s hs => ⟨o, by rw [hs]; exact h2, rfl⟩) rfl
 exact k1
theorem loop_find {α : Type} [Inhabited α] (l : List α) (p : α → Bool) {f : Int → Option (Int ⊕ (Int ⊕ Unit))} (h1 : ∀ i : Nat, i < l.length → f (i : Int) = if p (gi l i) = true then some (.inr (.inl (i : Int))) else some (.inl ((i + 1 : Nat) : Int)))
 (h2 : f (l.length : Int) = some (.inr (.inr ()))) :
 ∃ o, loop f 0 = some o ∧ ((∃ i : Nat, i < l.length ∧ o = .inl (i : Int) ∧ p (gi l i) = true ∧ ∀ j : Nat, j < i → p (gi l j) = false) ∨ (o = .inr () ∧ ∀ j : Nat, j < l.length → p (gi l j) = false)) := by
 refine loop_cnt (f := f) l.length (fun i s => s = (i : Int) ∧ ∀ j : Nat, j < i → p (gi l j) = false) _ (fun i s hi hs => ?_) (fun s hs => ?_) ⟨rfl, fun j hj => by omega⟩
 ·obtain ⟨rfl, hs⟩ := hs
  rw [h1 i hi]
  by_cases hp : p (gi l i) = true
  ·rw [if_pos hp]; exact .inr ⟨_, rfl, .inl ⟨i, hi, rfl, hp, hs⟩⟩
  ·rw [if_neg hp]
   refine .inl ⟨_, rfl, rfl, fun j hj => ?_⟩
   by_cases e : j = i
   ·subst e; simpa using hp
   ·exact hs j (by omega)
 ·obtain ⟨rfl, hs⟩ := hs
  exact ⟨_, h2, .inr ⟨rfl, hs⟩⟩

def mks (x : api_Ins) : Bool := alloc_makes.m x
def nds (x : api_Ins) (t : Int) : Bool := alloc_needs.m x t
def mkt (t : Int) (x : api_Ins) : Bool := mks x && decide (x.D = t)
theorem spanOf1 (x : api_Ins) (t : Int) : alloc_spanOf_1.m x t = mkt t x := by
 unfold alloc_spanOf_1.m letC mkt mks
 cases alloc_makes.m x <;> simp
def At (code : List api_Ins) (t : Int) (i : Nat) : Prop := i < code.length ∧ mkt t (gi code i) = true ∧ ∀ j : Nat, j < i → mkt t (gi code j) = false
theorem At.uniq {code : List api_Ins} {t : Int} {i j : Nat} (h : At code t i) (k : At code t j) : i = j := by
 rcases Nat.lt_trichotomy i j with c | c | c
 ·have := k.2.2 i c; rw [h.2.1] at this; cases this
 ·exact c
 ·have := h.2.2 j c; rw [k.2.1] at this; cases this
theorem idx_eq (code : List api_Ins) (t : Int) (hl : code.length ≤ 400) : (∃ i, At code t i ∧ slices_IndexFunc.m code t = some (i : Int)) ∨ ((∀ j : Nat, j < code.length → mkt t (gi code j) = false) ∧ slices_IndexFunc.m code t = some (-1)) := by
 unfold slices_IndexFunc.m
 obtain ⟨o, h1, h2⟩ := loop_find (f := slices_IndexFunc.l1 code t) code (mkt t) (fun i hi => by
  unfold slices_IndexFunc.l1
  rw [if_pos (by omega), if_pos (by omega)]
  simp only [letC, spanOf1]
  rw [wr64 (by omega)]
  rfl) (by unfold slices_IndexFunc.l1; rw [if_neg (by omega)])
 rw [h1]
 rcases h2 with ⟨i, hi, rfl, hp, hq⟩ | ⟨rfl, hq⟩
 ·exact .inl ⟨i, ⟨hi, hp, hq⟩, rfl⟩
 ·exact .inr ⟨hq, rfl⟩
def su (code : List api_Ins) (t : Int) (i0 : Nat) : Nat → alloc_span
 | 0 => ⟨t, i0, i0, 0⟩
 | i + 1 => if nds (gi code i) t = true then ⟨t, i0, if (i : Int) > (su code t i0 i).to_ then i else (su code t i0 i).to_, (su code t i0 i).uses + 1⟩ else su code t i0 i
theorem su_p (code : List api_Ins) (t : Int) (i0 : Nat) : ∀ i, (su code t i0 i).temp = t ∧ (su code t i0 i).from_ = i0 ∧ 0 ≤ (su code t i0 i).uses ∧ (su code t i0 i).uses ≤ i ∧ (i0 : Int) ≤ (su code t i0 i).to_ ∧ ((su code t i0 i).to_ = i0 ∨ (su code t i0 i).to_ < i) ∧
 (∀ j : Nat, j < i → nds (gi code j) t = true → (j : Int) ≤ (su code t i0 i).to_)
 | 0 => ⟨rfl, rfl, Int.le_refl _, Int.le_refl _, Int.le_refl _, .inl rfl, fun j hj => by omega⟩
 | i + 1 => by
  obtain ⟨h1, h2, h3, h4, h5, h6, h7⟩ := su_p code t i0 i
  simp only [su]
  by_cases hn : nds (gi code i) t = true
  ·rw [if_pos hn]
   refine ⟨rfl, rfl, by simp only []; omega, by simp only []; omega, by simp only []; split <;> omega, by simp only []; split <;> omega, fun j hj hd => ?_⟩
   simp only []
   by_cases e : j = i
   ·subst e; split <;> omega
   ·have := h7 j (by omega) hd
    split <;> omega
  ·rw [if_neg hn]
   refine ⟨h1, h2, h3, by omega, h5, by omega, fun j hj hd => ?_⟩
   by_cases e : j = i
   ·subst e; exact absurd hd hn
   ·exact h7 j (by omega) hd
def sp (code : List api_Ins) (t : Int) (i0 : Nat) : alloc_span := su code t i0 code.length
theorem span_loop (code : List api_Ins) (t : Int) (i0 : Nat) (hl : code.length ≤ 400) : loop (alloc_spanOf.l1 code t) ((⟨0, 0, 0, 0⟩, ⟨t, i0, i0, 0⟩, 0) : alloc_span × alloc_span × Int) = some (⟨0, 0, 0, 0⟩, sp code t i0) := by
 refine loop_st (f := alloc_spanOf.l1 code t) code.length (fun i => (⟨0, 0, 0, 0⟩, su code t i0 i, (i : Int))) _ (fun i hi => ?_) ?_
 ·unfold alloc_spanOf.l1
  obtain ⟨h1, h2, h3, h4, h5, h6, h7⟩ := su_p code t i0 i
  simp only []
  rw [if_pos (by omega), if_pos (by omega)]
  simp only [letC, su]
  rw [wr64 (by omega), wr64 (by omega), show alloc_needs.m (gi code i) t = nds (gi code i) t from rfl]
  by_cases hn : nds (gi code i) t = true
  ·rw [if_pos hn, if_pos hn, h1, h2]; rfl
  ·rw [if_neg hn, if_neg hn]; rfl
 ·unfold alloc_spanOf.l1
  simp only []
  rw [if_neg (by omega)]
  rfl
theorem span_eq (code : List api_Ins) (t : Int) (hl : code.length ≤ 400) : (∃ i, At code t i ∧ alloc_spanOf.m code t = some (sp code t i, true)) ∨ ((∀ j : Nat, j < code.length → mkt t (gi code j) = false) ∧ alloc_spanOf.m code t = some (⟨0, 0, 0, 0⟩, false)) := by
 unfold alloc_spanOf.m
 rcases idx_eq code t hl with ⟨i, h1, h2⟩ | ⟨h1, h2⟩
 ·refine .inl ⟨i, h1, ?_⟩
  rw [h2, Option.bind_some, if_neg (by omega), span_loop code t i hl]
  rfl
 ·refine .inr ⟨h1, ?_⟩
  rw [h2, Option.bind_some, if_pos (by omega)]

def Tot {X : Type} (Q : X → Prop) (E : Option X) : Prop := ∃ x, E = some x ∧ Q x
section
variable {X Y : Type} {Q : X → Prop} {R : Y → Prop} {E : Option Y} {k : Y → Option X} {c : Prop} [Decidable c] {a b : Option X} {x : X}
theorem Tot.some (h : Q x) : Tot Q (some x) := ⟨x, rfl, h⟩
theorem Tot.bind (h : Tot R E) (h2 : ∀ y, R y → Tot Q (k y)) : Tot Q (E.bind k) := by
 obtain ⟨y, rfl, hy⟩ := h
 exact h2 y hy
theorem Tot.bindE {y : Y} (h : E = .some y) (h2 : Tot Q (k y)) : Tot Q (E.bind k) := by
 subst h; exact h2
theorem Tot.gd (h : c) (h2 : Tot Q a) : Tot Q (if c then a else none) := by rw [if_pos h]; exact h2
theorem Tot.ite (h1 : c → Tot Q a) (h2 : ¬c → Tot Q b) : Tot Q (if c then a else b) := by
 by_cases h : c
 ·rw [if_pos h]; exact h1 h
 ·rw [if_neg h]; exact h2 h
theorem Tot.tt (h : c) (h1 : Tot Q a) : Tot Q (if c then a else b) := by rw [if_pos h]; exact h1
theorem Tot.ff (h : ¬ c) (h1 : Tot Q b) : Tot Q (if c then a else b) := by rw [if_neg h]; exact h1
theorem Tot.let {Z : Type} {z : Z} {f : Z → Option X} (h : ∀ v, v = z → Tot Q (f v)) : Tot Q (letC z f) := h z rfl
theorem Tot.mono {Q' : X → Prop} (h : Tot Q a) (k : ∀ x, Q x → Q' x) : Tot Q' a := by
 obtain ⟨x, e, hx⟩ := h
 exact ⟨x, e, k x hx⟩
end
section
variable {S O : Type} {f : S → Option (S ⊕ O)} {s : S} {Q : O → Prop}
theorem loop_T (n : Nat) (I : Nat → S → Prop) (h1 : ∀ i s, i < n → I i s → Tot (fun z => match z with | .inl s' => I (i + 1) s' | .inr o => Q o) (f s))
 (h2 : ∀ s, I n s → Tot (fun z => match z with | .inl _ => False | .inr o => Q o) (f s)) (h : I 0 s) : Tot Q (loop f s) := by
 refine loop_cnt n I Q (fun i s hi hs => ?_) (fun s hs => ?_) h
 ·obtain ⟨z, e, hz⟩ := h1 i s hi hs
  cases z with
  | inl s' => exact .inl ⟨s', e, hz⟩
  | inr o => exact .inr ⟨o, e, hz⟩
 ·obtain ⟨z, e, hz⟩ := h2 s hs
  cases z with
  | inl s' => exact hz.elim
  | inr o => exact ⟨o, e, hz⟩
theorem loop_M (I : S → Prop) (μ : S → Nat) (h1 : ∀ s, I s → Tot (fun z => match z with | .inl s' => I s' ∧ μ s' < μ s | .inr o => Q o) (f s)) (h : I s) : Tot Q (loop f s) := by
 refine loop_tot I μ Q (fun s hs => ?_) s h
 obtain ⟨z, e, hz⟩ := h1 s hs
 cases z with
 | inl s' => exact .inl ⟨s', e, hz⟩
 | inr o => exact .inr ⟨o, e, hz⟩
end
theorem gi_set {α : Type} [Inhabited α] {l : List α} {i : Nat} {j : Int} {x : α} (hi : i < l.length) (h0 : 0 ≤ j) (hj : j < l.length) : gi (l.set i x) j = if (i : Int) = j then x else gi l j := by
 have hj' : j.toNat < l.length := by omega
 unfold gi
 rw [List.getD_eq_getElem?_getD, List.getD_eq_getElem?_getD, List.getElem?_set]
 by_cases h : i = j.toNat
 ·rw [if_pos h, if_pos hi, if_pos (by omega)]; rfl
 ·rw [if_neg h, if_neg (by omega)]
theorem gi_replicate {α : Type} [Inhabited α] {n : Nat} {x : α} {j : Int} (h0 : 0 ≤ j) (h : j < n) : gi (List.replicate n x) j = x := by
 unfold gi
 rw [List.getD_eq_getElem?_getD, List.getElem?_replicate, if_pos (by omega)]; rfl

theorem ops_c (op : Int) : (op = 1 ∨ op = 2 ∨ op = 3 ∨ op = 4 ∨ op = 5 ∨ op = 6 ∨ op = 7 ∨ op = 8 ∨ op = 9 ∨ op = 10 ∨ op = 11 ∨ op = 12 ∨ op = 13 ∨ op = 14 ∨ op = 15 ∨ op = 16 ∨ op = 17 ∨ op = 18) ∨
 (op ≠ 1 ∧ op ≠ 2 ∧ op ≠ 3 ∧ op ≠ 4 ∧ op ≠ 5 ∧ op ≠ 6 ∧ op ≠ 7 ∧ op ≠ 8 ∧ op ≠ 9 ∧ op ≠ 10 ∧ op ≠ 11 ∧ op ≠ 12 ∧ op ≠ 13 ∧ op ≠ 14 ∧ op ≠ 15 ∧ op ≠ 16 ∧ op ≠ 17 ∧ op ≠ 18) := by omega
theorem mks_shape (x : api_Ins) : mks x = (tree_shape.m x.Op).1.d := by
 unfold mks alloc_makes.m tree_shape.m letC
 generalize x.Op = op
 rcases ops_c op with h | h
 ·rcases h with rfl | rfl | rfl | rfl | rfl | rfl | rfl | rfl | rfl | rfl | rfl | rfl | rfl | rfl | rfl | rfl | rfl | rfl <;> rfl
 ·simp [h]
theorem places_T (u : tree_uses) (x : api_Ins) (l : List api_Loc) (hl : l.length ≤ 16) : Tot (fun _ => True) (tree_places.m u x l) := by
 unfold tree_places.m
 refine .ite (fun _ => ?_) fun _ => .ite (fun _ => .some trivial) fun _ => .some trivial
 refine .bind (R := fun _ => True) (.ite (fun _ => .some trivial) fun _ => .ite (fun _ => .some trivial) fun _ => .some trivial) fun o _ => ?_
 cases o with
 | inr o => exact .some trivial
 | inl n =>
  refine .bind (R := fun b => b = false → 1 ≤ n ∧ n ≤ l.length ∧ 0 ≤ x.Loc ∧ x.Loc ≤ l.length - n) ?_ fun b hb => ?_
  ·refine .ite (fun _ => .some fun e => by cases e) fun h1 => .ite (fun _ => .some fun e => by cases e) fun h2 => .ite (fun _ => .some fun e => by cases e) fun h3 => .let fun v hv => ?_
   rw [wr64 (by omega)] at hv
   refine .some fun e => ?_
   have := of_decide_eq_false e
   omega
  ·refine .ite (fun _ => .some trivial) fun h => ?_
   have h := hb (by simpa using h)
   rw [wr64 (by omega)]
   refine Tot.gd (by omega) ?_
   refine Tot.let fun v hv => ?_
   refine .bind (R := fun _ => True) ?_ fun o _ => by cases o <;> exact .some trivial
   refine loop_T (f := tree_places.l1 u v) v.length (fun i s => s = (i : Int)) (fun i s hi hs => ?_) (fun s hs => ?_) rfl
   ·have hvl : v.length ≤ 16 := by rw [hv]; simp; omega
    subst hs
    unfold tree_places.l1
    refine .tt (by omega) ?_
    refine Tot.gd (by omega) ?_
    refine Tot.let fun w hw => ?_
    refine .ite (fun _ => .some ?_) fun _ => .some trivial
    simp only []
    rw [wr64 (by omega)]; rfl
   ·subst hs
    unfold tree_places.l1
    exact .ff (by omega) (.some trivial)
def Good (code : List api_Ins) (n : Nat) : Prop := ∀ i : Nat, i < n → mks (gi code i) = true → 0 ≤ (gi code i).D ∧ (gi code i).D < 400 ∧ ∀ j : Nat, j < i → mks (gi code j) = true → (gi code j).D ≠ (gi code i).D
structure RI (code : List api_Ins) (i : Nat) (s : (List Int) × (List Int) × (List (Int × Int))) : Prop where
 l1 : s.1.length = code.length
 l2 : s.2.1.length = code.length
 fr : ∀ j : Nat, 0 < j → j < code.length → 0 ≤ gi s.2.1 j ∧ gi s.2.1 j < j
 md : ∀ t v, aget s.2.2 t = some v → ∃ j : Nat, j < i ∧ v = (j : Int)
 al : ∀ j : Nat, j < i → mks (gi code j) = true → aget s.2.2 (gi code j).D ≠ none
 gd : Good code i
theorem temp_d {b : Bool} {n : Int} (h : tree_temp.m b n = true) : b = true → 0 ≤ n ∧ n < 400 := by
 unfold tree_temp.m at h
 intro e
 rw [if_pos e] at h
 split at h
 ·split at h
  ·omega
  ·cases h
 ·cases h
theorem right_l1 (code : List api_Ins) (l : List api_Loc) (hn : code.length ≤ 400) (hl : l.length ≤ 16) (h18 : (gi code (code.length - 1)).Op = 18) :
 Tot (fun o => match o with | .inl _ => True | .inr s => RI code code.length s) (loop (tree_Right.l1 code l) ((List.replicate code.length (0 : Int), List.replicate code.length (0 : Int), ([] : List (Int × Int)), 0) : (List Int) × (List Int) × (List (Int × Int)) × Int)) := by
 refine loop_T code.length (fun i s => RI code i (s.1, s.2.1, s.2.2.1) ∧ s.2.2.2 = (i : Int)) (fun i s hi hs => ?_) (fun s hs => ?_) ⟨⟨by simp, by simp, fun j h0 hj => ?_, fun t v h => (by cases h), fun j hj => by omega, fun j hj => by omega⟩, rfl⟩
 ·obtain ⟨w, f, m, k⟩ := s
  obtain ⟨hI, rfl⟩ := hs
  obtain ⟨c1, c2, c3, c4, c5, c6⟩ := hI
  simp only [] at c1 c2 c3 c4 c5 c6
  unfold tree_Right.l1
  dsimp only
  refine .tt (by omega) ?_
  refine Tot.gd (by omega) ?_
  refine Tot.let fun x hx => ?_
  refine Tot.let fun r hr => ?_
  refine .bind (R := fun b => b = false → tree_temp.m r.1.d x.D = true) ?_ fun b1 hb1 => ?_
  ·refine .ite (fun _ => ?_) fun _ => .some fun e => by cases e
   refine Tot.let fun v1 e1 => ?_
   refine .ite (fun h1 => ?_) fun _ => .some fun e => by cases e
   refine Tot.let fun v2 e2 => ?_
   refine .ite (fun _ => ?_) fun _ => .some fun e => by cases e
   refine Tot.let fun v3 e3 => ?_
   refine .ite (fun _ => ?_) fun _ => .some fun e => by cases e
   have hp := places_T r.1 x l hl
   exact .ite (fun _ => .bind hp fun y _ => .some fun _ => by rw [← e1]; exact h1) fun _ => .ite (fun _ => .bind hp fun y _ => .some fun _ => by rw [← e1]; exact h1) fun _ => .some fun e => by cases e
  refine .ite (fun _ => .some trivial) fun hb1' => ?_
  have ht := hb1 (by simpa using hb1')
  refine .bind (R := fun b => b = false → r.1.to_ = true → (i : Int) + 1 < x.To ∧ x.To < code.length) ?_ fun b2 hb2 => ?_
  ·refine .ite (fun _ => ?_) fun h => .some fun _ e => absurd e h
   refine Tot.let fun v1 e1 => ?_
   rw [wr64 (by omega)] at e1
   exact .ite (fun _ => .some fun e => by cases e) fun h1 => .ite (fun _ => .some fun e => by cases e) fun h2 => .some fun _ _ => by omega
  refine .ite (fun _ => .some trivial) fun hb2' => ?_
  have hto := hb2 (by simpa using hb2')
  -- arrays
  let R : (List Int) × (List Int) → Prop := fun p => p.1.length = code.length ∧ p.2.length = code.length ∧ ∀ j : Nat, 0 < j → j < code.length → 0 ≤ gi p.2 j ∧ gi p.2 j < j
  have setf : ∀ (f : List Int) (t : Int), f.length = code.length → (i : Int) < t → t < code.length → (∀ j : Nat, 0 < j → j < code.length → 0 ≤ gi f j ∧ gi f j < j) → ∀ j : Nat, 0 < j → j < code.length → 0 ≤ gi (f.set t.toNat (i : Int)) j ∧ gi (f.set t.toNat (i : Int)) j < j := by
   intro f t hf h1 h2 h3 j h0 hj
   rw [gi_set (by omega) (by omega) (by omega)]
   by_cases e : (t.toNat : Int) = j
   ·rw [if_pos e]; omega
   ·rw [if_neg e]; exact h3 j h0 hj
  refine .bind (R := R) ?_ fun p hp => ?_
  ·refine .ite (fun h => ?_) fun _ => .some ⟨c1, c2, c3⟩
   have := hto h
   refine Tot.gd (by omega) ?_
   refine Tot.gd (by omega) ?_
   refine Tot.let fun v1 e1 => ?_
   refine Tot.let fun v2 e2 => ?_
   refine Tot.gd (by omega) ?_
   refine Tot.let fun v3 e3 => ?_
   refine .some ⟨by rw [e2]; simp [c1], by rw [e3]; simp [c2], ?_⟩
   subst e3
   exact setf f x.To c2 (by omega) (by omega) c3
  obtain ⟨p1, p2, p3⟩ := hp
  have hlast : ¬ x.Op = 18 → (i : Int) + 1 < code.length := by
   intro hne
   rcases Nat.lt_or_ge (i + 1) code.length with c | c
   ·omega
   ·exfalso
    apply hne
    rw [hx]
    rw [show ((i : Nat) : Int) = code.length - 1 by omega]
    exact h18
  refine .bind (R := R) ?_ fun q hq => ?_
  ·refine .ite (fun _ => .some ⟨p1, p2, p3⟩) fun h => ?_
   have := hlast h
   refine Tot.let fun v1 e1 => ?_
   rw [wr64 (by omega)] at e1
   refine Tot.gd (by omega) ?_
   refine Tot.gd (by omega) ?_
   refine Tot.let fun v2 e2 => ?_
   refine Tot.let fun v3 e3 => ?_
   refine Tot.let fun v4 e4 => ?_
   rw [wr64 (by omega)] at e4
   refine Tot.gd (by omega) ?_
   refine Tot.gd (by omega) ?_
   refine Tot.let fun v5 e5 => ?_
   refine .some ⟨by rw [e3]; simp [p1], by rw [e5]; simp [p2], ?_⟩
   subst e5
   simp only []
   exact setf p.2 v4 p2 (by omega) (by omega) p3
  obtain ⟨q1, q2, q3⟩ := hq
  have hmk : mks x = r.1.d := by rw [mks_shape, hr]
  refine .ite (fun hd => ?_) fun hd => ?_
  ·have hrng := temp_d ht hd
   cases hm : aget m x.D with
   | some v => exact .some trivial
   | none =>
    simp only []
    refine Tot.let fun v1 e1 => ?_
    refine Tot.let fun v2 e2 => ?_
    rw [wr64 (by omega)] at e2
    subst e1
    refine .some ⟨⟨q1, q2, q3, fun t v h => ?_, fun j hj hmj => ?_, fun j hj hmj => ?_⟩, by simp only []; omega⟩
    ·simp only [] at h
     rw [B.aget_aset] at h
     by_cases e : t = x.D
     ·rw [if_pos e] at h; cases h; exact ⟨i, by omega, rfl⟩
     ·rw [if_neg e] at h
      obtain ⟨j, hj, hv⟩ := c4 t v h
      exact ⟨j, by omega, hv⟩
    ·simp only []
     rw [B.aget_aset]
     by_cases e : (gi code j).D = x.D
     ·rw [if_pos e]; simp
     ·rw [if_neg e]
      have hji : j ≠ i := by rintro rfl; exact e (by rw [hx])
      exact c5 j (by omega) hmj
    ·by_cases e : j = i
     ·subst e
      rw [← hx]
      refine ⟨hrng.1, hrng.2, fun k hk hmk e => ?_⟩
      have := c5 k hk hmk
      rw [e, hm] at this
      exact this rfl
     ·exact c6 j (by omega) hmj
  ·refine Tot.let fun v1 e1 => ?_
   rw [wr64 (by omega)] at e1
   have hno : mks (gi code i) = false := by rw [← hx, hmk]; simpa using hd
   refine .some ⟨⟨q1, q2, q3, fun t v h => ?_, fun j hj hmj => ?_, fun j hj hmj => ?_⟩, by simp only []; omega⟩
   ·obtain ⟨j, hj, hv⟩ := c4 t v h
    exact ⟨j, by omega, hv⟩
   ·have hji : j ≠ i := by rintro rfl; rw [hno] at hmj; cases hmj
    exact c5 j (by omega) hmj
   ·have hji : j ≠ i := by rintro rfl; rw [hno] at hmj; cases hmj
    exact c6 j (by omega) hmj
 ·obtain ⟨w, f, m, k⟩ := s
  obtain ⟨hI, rfl⟩ := hs
  unfold tree_Right.l1
  refine .ff (by simp only []; omega) (.some hI)
 ·simp only []
  rw [gi_replicate (by omega) (by omega)]; omega
theorem above_T (t i : Int) (made : List (Int × Int)) (fr : List Int) (n : Nat) (hf : fr.length = n) (hi : 0 ≤ i ∧ i < n) (h1 : ∀ j : Nat, 0 < j → j < n → 0 ≤ gi fr j ∧ gi fr j < j) (h2 : ∀ v, aget made t = some v → 0 ≤ v) : Tot (fun _ => True) (tree_above.m t i made fr n) := by
 unfold tree_above.m
 cases hm : aget made t with
 | none => exact .some trivial
 | some v =>
  have hv := h2 v hm
  refine .bind (R := fun _ => True) ?_ fun o _ => by cases o <;> exact .some trivial
  refine loop_M (fun s => 0 ≤ s ∧ s < n) Int.toNat (fun s hs => ?_) hi
  unfold tree_above.l1
  refine .ite (fun h => ?_) fun h => .some trivial
  refine Tot.gd (by omega) ?_
  refine Tot.gd (by omega) ?_
  refine Tot.let fun w hw => ?_
  refine .ite (fun _ => .some trivial) fun _ => .some ?_
  have := h1 s.toNat (by omega) (by omega)
  rw [show ((s.toNat : Nat) : Int) = s by omega, ← hw] at this
  exact ⟨by omega, by omega⟩
theorem right_l2 (code : List api_Ins) (hn : code.length ≤ 400) (s : (List Int) × (List Int) × (List (Int × Int))) (h : RI code code.length s) :
 Tot (fun _ => True) (loop (tree_Right.l2 code s) ((code.length, 0) : Nat × Int)) := by
 refine loop_T code.length (fun i s => s.1 = code.length ∧ s.2 = (i : Int)) (fun i z hi hz => ?_) (fun z hz => ?_) ⟨rfl, rfl⟩
 ·obtain ⟨n, k⟩ := z
  obtain ⟨h0, rfl⟩ := hz
  simp only [] at h0
  subst h0
  have hab : ∀ t, Tot (fun _ => True) (tree_above.m t (i : Int) s.2.2 s.2.1 code.length) := fun t => above_T t i s.2.2 s.2.1 code.length h.l2 ⟨by omega, by omega⟩ h.fr fun v hv => by
   obtain ⟨j, _, rfl⟩ := h.md t v hv; omega
  have hl1 := h.l1
  unfold tree_Right.l2
  dsimp only
  refine .tt (by omega) ?_
  refine Tot.gd (by omega) ?_
  refine Tot.let fun x hx => ?_
  refine .bind (R := fun _ => True) ?_ fun b _ => ?_
  ·refine .ite (fun _ => ?_) fun _ => .some trivial
   refine Tot.gd (by omega) ?_
   refine Tot.gd (by omega) ?_
   refine Tot.let fun v hv => ?_
   exact .some trivial
  refine .ite (fun _ => .some trivial) fun _ => ?_
  refine Tot.let fun r hr => ?_
  refine .bind (R := fun _ => True) ?_ fun b _ => ?_
  ·exact .ite (fun _ => .bind (hab _) fun y _ => .ite (fun _ => .ite (fun _ => .bind (hab _) fun y _ => .some trivial) fun _ => .some trivial) fun _ => .some trivial) fun _ => .ite (fun _ => .bind (hab _) fun y _ => .some trivial) fun _ => .some trivial
  refine .ite (fun _ => .some trivial) fun _ => ?_
  refine Tot.let fun v hv => ?_
  rw [wr64 (by omega)] at hv
  exact .some ⟨rfl, by simp only []; omega⟩
 ·obtain ⟨n, k⟩ := z
  obtain ⟨h0, rfl⟩ := hz
  unfold tree_Right.l2
  exact .ff (by simp only []; omega) (.some trivial)
theorem right_T (code : List api_Ins) (l : List api_Loc) (hn : code.length ≤ 400) (hl : l.length ≤ 16) : Tot (fun b => b = true → Good code code.length) (tree_Right.m code l) := by
 unfold tree_Right.m
 refine .bind (R := fun b => b = false → 1 ≤ code.length ∧ (gi code (code.length - 1)).Op = 18) ?_ fun b hb => ?_
 ·refine .ite (fun _ => .some fun e => by cases e) fun h1 => .ite (fun _ => .some fun e => by cases e) fun h2 => ?_
  refine Tot.let fun v hv => ?_
  rw [wr64 (by omega)] at hv
  refine Tot.gd (by omega) ?_
  refine Tot.let fun w hw => ?_
  refine .some fun e => ⟨by omega, ?_⟩
  subst hv hw
  simpa using e
 refine .ite (fun _ => .some fun e => by cases e) fun h => ?_
 obtain ⟨h1, h2⟩ := hb (by simpa using h)
 refine Tot.gd (by omega) ?_
 refine Tot.let fun v hv => ?_
 refine Tot.let fun w hw => ?_
 simp only [Int.toNat_natCast] at hv hw
 subst hv hw
 refine .bind (right_l1 code l hn hl h2) fun o ho => ?_
 cases o with
 | inl o => exact .some fun e => by cases e
 | inr s =>
  simp only [Int.toNat_natCast]
  refine .bind (right_l2 code hn s ho) fun o _ => ?_
  cases o with
  | inl o => exact .some fun e => by cases e
  | inr o => exact .some fun _ => ho.gd
end Go.Proofs.Ytbhekpcimmaijaa.W
namespace Go.Proofs.Ytbhekpcimmaijaa.W
open Go Go.RowKit Go.Proofs.Ytbhekpcimmaijaa Go.Proofs.Ytbhekpcimmaijaa.X
open Go.Proofs.Ytbhekpcimmaijaa.B (wr aget aset loop loop_in loop_out loop_tot qf flt i2f feq fls isnan)

theorem gi_in {α : Type} [Inhabited α] {l : List α} {i : Nat} (h : i < l.length) : gi l i = l[i] := by simp [gi, h]
theorem gi_mem {α : Type} [Inhabited α] {l : List α} {i : Int} (h0 : 0 ≤ i) (h : i < l.length) : gi l i ∈ l := by
 have : i.toNat < l.length := by omega
 simp [gi, List.getD_eq_getElem?_getD, this]
theorem mem_gi {α : Type} [Inhabited α] {l : List α} {x : α} (h : x ∈ l) : ∃ i : Nat, i < l.length ∧ gi l i = x := by
 obtain ⟨i, hi, e⟩ := List.getElem_of_mem h
 exact ⟨i, hi, by rw [gi_in hi]; exact e⟩
theorem sub_len {α : Type} [BEq α] [LawfulBEq α] : ∀ {l m : List α}, l.Nodup → (∀ x ∈ l, x ∈ m) → l.length ≤ m.length
 | [], _, _, _ => by simp
 | a :: r, m, h, k => by
  rw [List.nodup_cons] at h
  have ha := k a (by simp)
  have := sub_len (m := m.erase a) h.2 fun x hx => (List.mem_erase_of_ne (fun e => h.1 (by rw [← e]; exact hx))).2 (k x (by simp [hx]))
  rw [List.length_erase_of_mem ha] at this
  have hm : 0 < m.length := List.length_pos_of_mem ha
  simp only [List.length_cons]; omega
def reg (out : List api_Home) (a : alloc_span) : Int := (gi out a.temp).Reg
def has (act : List alloc_span) (out : List api_Home) (r : Int) : Bool := act.any fun a => decide (reg out a = r)
def leastN (act : List alloc_span) (out : List api_Home) : Nat → Int → Int
 | 0, r => r
 | n + 1, r => if has act out r = true then leastN act out n (r + 1) else r
theorem contains_eq (act : List alloc_span) (r : Int) (out : List api_Home) (hb : ∀ a ∈ act, 0 ≤ a.temp ∧ a.temp < out.length) (hl : act.length ≤ 400) : slices_ContainsFunc_2.m act r out out.length = some (has act out r) := by
 unfold slices_ContainsFunc_2.m slices_IndexFunc_4.m
 obtain ⟨o, h1, h2⟩ := loop_find (f := slices_IndexFunc_4.l1 act r out out.length) act (fun a => decide (reg out a = r)) (fun i hi => by
  unfold slices_IndexFunc_4.l1 alloc_least_1_2.m
  rw [if_pos (by omega), if_pos (by omega)]
  have hm := hb _ (gi_mem (l := act) (i := (i : Int)) (by omega) (by omega))
  simp only [letC]
  rw [if_pos hm, if_pos hm, Option.bind_some, wr64 (by omega)]
  rfl) (by unfold slices_IndexFunc_4.l1; rw [if_neg (by omega)])
 rw [h1]
 rcases h2 with ⟨i, hi, rfl, hp, hq⟩ | ⟨rfl, hq⟩
 ·have : has act out r = true := List.any_eq_true.2 ⟨gi act i, gi_mem (by omega) (by omega), hp⟩
  simp [this]
 ·have : has act out r = false := by
   unfold has
   rw [List.any_eq_false]
   intro a ha
   obtain ⟨i, hi, rfl⟩ := mem_gi ha
   simpa using hq i hi
  simp [this]
theorem has_pig (act : List alloc_span) (out : List api_Home) (n : Nat) (h : ∀ m : Nat, m < n → has act out m = true) : n ≤ act.length := by
 have := sub_len (l := (List.range n).map fun m : Nat => (m : Int)) (m := act.map (reg out)) (by
  rw [List.nodup_iff_pairwise_ne]
  refine List.Pairwise.map _ (fun a b h => ?_) (List.nodup_iff_pairwise_ne.1 List.nodup_range)
  omega) (fun x hx => by
  obtain ⟨m, hm, rfl⟩ := List.mem_map.1 hx
  obtain ⟨a, ha, e⟩ := List.any_eq_true.1 (h m (List.mem_range.1 hm))
  exact List.mem_map.2 ⟨a, ha, of_decide_eq_true e⟩)
 simpa using this
theorem leastN_ok (act : List alloc_span) (out : List api_Home) : ∀ (n m : Nat), act.length < n + m → (∀ k : Nat, k < m → has act out k = true) →
 ∃ r : Nat, leastN act out n m = (r : Int) ∧ r ≤ act.length ∧ has act out r = false ∧ (∀ k : Nat, k < r → has act out k = true)
 | 0, m, h, k => by have := has_pig act out m k; omega
 | n + 1, m, h, k => by
  simp only [leastN]
  by_cases hm : has act out m = true
  ·rw [if_pos hm, show (m : Int) + 1 = ((m + 1 : Nat) : Int) by omega]
   exact leastN_ok act out n (m + 1) (by omega) fun j hj => by
    by_cases e : j = m
    ·subst e; exact hm
    ·exact k j (by omega)
  ·rw [if_neg hm]
   refine ⟨m, rfl, has_pig act out m k, by simpa using hm, k⟩
def least (act : List alloc_span) (out : List api_Home) : Int := leastN act out (act.length + 1) 0
theorem least_ok (act : List alloc_span) (out : List api_Home) : ∃ r : Nat, least act out = (r : Int) ∧ r ≤ act.length ∧ has act out r = false := by
 obtain ⟨r, h1, h2, h3, _⟩ := leastN_ok act out (act.length + 1) 0 (by omega) fun k hk => by omega
 exact ⟨r, h1, h2, h3⟩
theorem least_eq (act : List alloc_span) (out : List api_Home) (hb : ∀ a ∈ act, 0 ≤ a.temp ∧ a.temp < out.length) (hl : act.length ≤ 400) : alloc_least_2.m act out out.length = some (least act out) := by
 unfold alloc_least_2.m
 have key : ∀ (n m : Nat), act.length < n + m → (∀ k : Nat, k < m → has act out k = true) → loop (alloc_least_2.l1 act out out.length) (m : Int) = some (leastN act out n m) := by
  intro n
  induction n with
  | zero => intro m h k; have := has_pig act out m k; omega
  | succ n ih =>
   intro m h k
   have hml := has_pig act out m k
   have hf : alloc_least_2.l1 act out out.length (m : Int) = if has act out m = true then some (.inl ((m + 1 : Nat) : Int)) else some (.inr (m : Int)) := by
    unfold alloc_least_2.l1
    rw [contains_eq act m out hb hl, Option.bind_some, wr64 (by omega)]
    rfl
   simp only [leastN]
   by_cases hm : has act out m = true
   ·rw [if_pos hm] at hf ⊢
    rw [loop_in hf]
    exact ih (m + 1) (by omega) fun j hj => by
     by_cases e : j = m
     ·subst e; exact hm
     ·exact k j (by omega)
   ·rw [if_neg hm] at hf ⊢
    exact loop_out hf
 have := key (act.length + 1) 0 (by omega) fun k hk => by omega
 rw [show (0 : Int) = ((0 : Nat) : Int) from rfl, this]
 rfl
def live (now : Int) (a : alloc_span) : Bool := !decide (a.to_ < now)
theorem take_succ' {α : Type} [Inhabited α] {l : List α} {i : Nat} (h : i < l.length) : l.take (i + 1) = l.take i ++ [gi l i] := by
 rw [gi_in h]; exact (List.take_append_getElem h).symm
theorem del_eq (act : List alloc_span) (s : alloc_span) (hl : act.length ≤ 400) : slices_DeleteFunc.m act s = some (act.filter (live s.from_)) := by
 unfold slices_DeleteFunc.m slices_IndexFunc_2.m
 obtain ⟨o, h1, h2⟩ := loop_find (f := slices_IndexFunc_2.l1 act s) act (fun a => decide (a.to_ < s.from_)) (fun i hi => by
  unfold slices_IndexFunc_2.l1
  rw [if_pos (by omega), if_pos (by omega)]
  simp only [letC, decide_eq_true_eq]
  rw [wr64 (by omega)]
  rfl) (by unfold slices_IndexFunc_2.l1; rw [if_neg (by omega)])
 rw [h1]
 rcases h2 with ⟨i, hi, rfl, hp, hq⟩ | ⟨rfl, hq⟩
 ·have hkeep : ∀ n, n ≤ i → (act.take n).filter (live s.from_) = act.take n := by
   intro n hn
   rw [List.filter_eq_self]
   intro a ha
   obtain ⟨j, hj, rfl⟩ := mem_gi ha
   have hj2 : j < n := by have := hj; simp at this; omega
   have e : gi (act.take n) j = gi act j := by rw [gi_in hj, gi_in (by omega)]; simp
   rw [e]
   unfold live
   rw [hq j (by omega)]; rfl
  have hne : ¬ ((i : Int) = -1) := by omega
  show ((some (i : Int)).bind _) = _
  rw [Option.bind_some, if_neg hne]
  have main : Tot (fun o => ∃ w : Nat, o.2 = (w : Int) ∧ w ≤ act.length ∧ o.1.length = act.length ∧ o.1.take w = act.filter (live s.from_)) (loop (slices_DeleteFunc.l1 act s) ((act, (i : Int), (wr .i64 ((i : Int) + (1 : Int)))) : (List alloc_span) × Int × Int)) := by
   refine loop_T (act.length - (i + 1)) (fun k z => z.2.2 = ((i + 1 + k : Nat) : Int) ∧ z.1.length = act.length ∧ ∃ w : Nat, z.2.1 = (w : Int) ∧ w < i + 1 + k ∧ z.1.take w = (act.take (i + 1 + k)).filter (live s.from_) ∧ z.1.drop (i + 1 + k) = act.drop (i + 1 + k)) (fun k z hk hz => ?_) (fun z hz => ?_) ⟨by rw [wr64 (by omega)]; simp, rfl, i, rfl, by omega, ?_, rfl⟩
   ·obtain ⟨l, w, j⟩ := z
    obtain ⟨rfl, hl2, w, rfl, hw, ht, hd⟩ := hz
    simp only [] at hl2 ht hd
    have hx : gi l ((i + 1 + k : Nat) : Int) = gi act ((i + 1 + k : Nat) : Int) := by
     have e1 := congrArg (fun l => l[0]?) hd
     simp only [List.getElem?_drop, Nat.add_zero] at e1
     unfold gi
     rw [List.getD_eq_getElem?_getD, List.getD_eq_getElem?_getD, Int.toNat_natCast, e1]
    have hd2 : l.drop (i + 1 + (k + 1)) = act.drop (i + 1 + (k + 1)) := by
     have := congrArg (List.drop 1) hd
     simpa [List.drop_drop, Nat.add_assoc] using this
    have htk : act.take (i + 1 + (k + 1)) = act.take (i + 1 + k) ++ [gi act ((i + 1 + k : Nat) : Int)] := take_succ' (i := i + 1 + k) (by omega)
    unfold slices_DeleteFunc.l1
    dsimp only
    refine .tt (by omega) ?_
    refine Tot.gd (by omega) ?_
    refine Tot.gd (by omega) ?_
    refine Tot.let fun x hxx => ?_
    refine Tot.let fun r hr => ?_
    rw [hx] at hxx
    refine .ite (fun hlt => ?_) fun hge => ?_
    ·refine Tot.let fun v hv => ?_
     rw [wr64 (by omega)] at hv
     refine .some ⟨by simp only []; omega, hl2, w, rfl, by omega, ?_, hd2⟩
     simp only []
     rw [htk, List.filter_append, ht]
     have : live s.from_ x = false := by simp [live, hlt]
     rw [← hxx, List.filter_cons_of_neg (by simp [this])]; simp
    ·refine Tot.gd (by omega) ?_
     refine Tot.gd (by omega) ?_
     refine Tot.let fun u hu => ?_
     refine Tot.let fun v hv => ?_
     refine Tot.let fun v2 hv2 => ?_
     rw [wr64 (by omega)] at hv hv2
     rw [Int.toNat_natCast] at hu
     refine .some ⟨by simp only []; omega, by rw [hu]; simp [hl2], w + 1, by simp only []; omega, by omega, ?_, ?_⟩
     ·simp only []
      rw [htk, List.filter_append, ← hxx]
      have : live s.from_ x = true := by simp [live, hge]
      rw [List.filter_cons_of_pos this, List.filter_nil, hu, take_succ' (by simp; omega), List.take_set_of_le (Nat.le_refl _), ht, gi_set (by omega) (by omega) (by omega), if_pos rfl]
     ·simp only []
      rw [hu, List.drop_set_of_lt (by omega)]; exact hd2
   ·obtain ⟨l, w, j⟩ := z
    obtain ⟨rfl, hl2, w, rfl, hw, ht, hd⟩ := hz
    simp only [] at hl2 ht hd
    unfold slices_DeleteFunc.l1
    dsimp only
    refine .ff (by omega) (.some ⟨w, rfl, by omega, hl2, ?_⟩)
    simp only []
    rw [ht, List.take_of_length_le (by omega)]
   ·simp only []
    rw [take_succ' hi, List.filter_append, hkeep i (Nat.le_refl _)]
    have : live s.from_ (gi act i) = false := by
     have := of_decide_eq_true hp
     simp [live, this]
    rw [List.filter_cons_of_neg (by simp [this])]; simp
  obtain ⟨z, e, w, h3, h4, h5, h6⟩ := main
  rw [e, Option.bind_some, h3, if_pos (by omega)]
  simp only [letC]
  rw [if_pos (by omega)]
  simp only [Int.toNat_natCast, Nat.zero_add]
  congr 1
  rw [List.append_assoc, List.take_append_of_le_length (by simp; omega), List.take_take, Nat.min_self, h6]
 ·show ((some (-1 : Int)).bind _) = _
  rw [Option.bind_some, if_pos rfl]
  congr 1
  rw [List.take_length, eq_comm, List.filter_eq_self]
  intro a ha
  obtain ⟨j, hj, rfl⟩ := mem_gi ha
  unfold live
  rw [hq j hj]; rfl
theorem delete_eq (all : List alloc_span) (k : Nat) (hk : k < all.length) (hl : all.length ≤ 400) : slices_Delete.m (k : Int) (wr .i64 ((k : Int) + 1)) all = some (all.eraseIdx k) := by
 unfold slices_Delete.m
 rw [wr64 (by omega), if_pos (by omega), if_neg (by omega), if_pos (by omega), if_pos (by omega)]
 simp only [letC]
 rw [if_pos (by omega)]
 congr 1
 have e1 : ((k : Int) + 1).toNat = k + 1 := by omega
 simp only [Int.toNat_natCast, e1, Nat.zero_add]
 have e2 : k + (all.length - (k + 1)) = all.length - 1 := by omega
 rw [e2, List.append_assoc, List.append_assoc, List.eraseIdx_eq_take_drop_succ]
 have hlen : (all.take k ++ (all.drop (k + 1)).take (all.length - (k + 1))).length = all.length - 1 := by simp; omega
 have h1 : (all.take k ++ ((all.drop (k + 1)).take (all.length - (k + 1)) ++ all.drop (all.length - 1))).take (all.length - 1) = all.take k ++ (all.drop (k + 1)).take (all.length - (k + 1)) := by
  rw [← List.append_assoc, ← hlen]; exact List.take_left
 rw [h1, List.take_append_of_le_length (by rw [hlen]; exact Nat.le_refl _), List.take_of_length_le (by rw [hlen]; exact Nat.le_refl _), List.take_of_length_le (l := all.drop (k + 1)) (by simp <;> omega)]
theorem clone_eq (l : List alloc_span) (hl : l.length ≤ 400) : slices_Clone_4.m l = some l := by
 unfold slices_Clone_4.m slices_Clone_3.m
 rw [if_pos (by simp; omega)]
 rfl

theorem feq_num {a b : Nat} (h : feq a b = true) : isnan a = false := by
 cases hn : isnan a
 ·rfl
 ·unfold feq at h
  rw [B.ord_l hn] at h
  cases h
theorem less_T (a b : Nat) : Tot (fun _ => True) (weight_Less.m a b) := by
 unfold weight_Less.m
 refine .bind (R := fun o => o = true → feq a (flt 0) = true ∧ feq b (flt 0) = true) (.ite (fun h => .some fun e => ⟨h, e⟩) fun h => .some fun e => by cases e) fun o ho => .ite (fun h => ?_) fun h => ?_
 ·obtain ⟨h1, h2⟩ := ho h
  refine .bind (R := fun _ => True) ?_ fun _ _ => .ite (fun _ => .bind (R := fun _ => True) ?_ fun _ _ => .some trivial) fun _ => .some trivial
  ·exact .gd (feq_num h1) (.some trivial)
  ·exact .gd (feq_num h2) (.some trivial)
 ·refine Tot.let fun v hv => ?_
  exact .some trivial
def lessB (a b : Nat) : Bool := (weight_Less.m a b).getD false
theorem less_eq (a b : Nat) : weight_Less.m a b = some (lessB a b) := by
 obtain ⟨r, e, _⟩ := less_T a b
 unfold lessB
 rw [e]; rfl
def wt (s : alloc_span) : Nat := alloc_weightOf.m s
def lw (ws : List Nat) : Nat → Int
 | 0 => -1
 | i + 1 => if lw ws i < 0 then i else if lessB (gi ws i) (gi ws (lw ws i)) = true then i else lw ws i
theorem lw_b (ws : List Nat) : ∀ i, (i = 0 ∧ lw ws i = -1) ∨ (0 ≤ lw ws i ∧ lw ws i < i)
 | 0 => .inl ⟨rfl, rfl⟩
 | i + 1 => by
  right
  have := lw_b ws i
  simp only [lw]
  split
  ·omega
  ·split <;> omega
theorem least_w (ws : List Nat) (hl : ws.length ≤ 400) : weight_Least.m ws ws.length = some (lw ws ws.length) := by
 unfold weight_Least.m
 have := loop_st (f := weight_Least.l1 ws ws.length) ws.length (fun i => (lw ws i, (i : Int))) (lw ws ws.length) (fun i hi => ?_) ?_
 ·rw [show (((-1), 0) : Int × Int) = (lw ws 0, ((0 : Nat) : Int)) from rfl, this]; rfl
 ·have hb := lw_b ws i
  unfold weight_Least.l1
  dsimp only
  rw [if_pos (by omega), wr64 (by omega)]
  simp only [lw, letC]
  by_cases h0 : lw ws i < 0
  ·rw [if_pos h0, if_pos h0]; rfl
  ·rw [if_neg h0, if_neg h0, if_pos (by omega), if_pos (by omega), if_pos (by omega), if_pos (by omega), less_eq, Option.bind_some]
   cases lessB (gi ws i) (gi ws (lw ws i)) <;> rfl
 ·unfold weight_Least.l1
  dsimp only
  rw [if_neg (by omega)]
theorem weights_eq (l : List alloc_span) (hl : l.length ≤ 400) : loop (alloc_Homes.l3 l) ((List.replicate l.length (0 : Nat), 0) : (List Nat) × Int) = some (l.map wt) := by
 have := loop_st (f := alloc_Homes.l3 l) l.length (fun i => ((l.take i).map wt ++ List.replicate (l.length - i) 0, (i : Int))) (l.map wt) (fun i hi => ?_) ?_
 ·simpa using this
 ·unfold alloc_Homes.l3
  dsimp only
  have hlen : ((l.take i).map wt ++ List.replicate (l.length - i) 0).length = l.length := by simp; omega
  rw [if_pos (by omega), if_pos (by omega)]
  simp only [letC]
  rw [if_pos (by omega), if_pos (by omega), wr64 (by omega), Int.toNat_natCast]
  congr 3
  rw [take_succ' hi, List.map_append, List.set_append_right _ _ (by simp; omega)]
  simp only [List.length_map, List.length_take, Nat.min_eq_left (Nat.le_of_lt hi), Nat.sub_self]
  obtain ⟨m, hm⟩ : ∃ m, l.length - i = m + 1 := ⟨l.length - i - 1, by omega⟩
  rw [hm, List.replicate_succ, List.set_cons_zero, show l.length - (i + 1) = m by omega]
  simp [wt]
 ·unfold alloc_Homes.l3
  dsimp only
  rw [if_neg (by omega)]
  simp
def ext (out : List api_Home) (d : Int) : List api_Home := out ++ List.replicate ((d + 1).toNat - out.length) ⟨-1, -1⟩
theorem ext_len (out : List api_Home) (d : Int) (h0 : 0 ≤ d) : d < (ext out d).length := by unfold ext; simp; omega
theorem ext_eq (x : api_Ins) (out : List api_Home) (hd : 0 ≤ x.D ∧ x.D < 400) : loop (alloc_Homes.l2 x) ((out, out.length) : (List api_Home) × Nat) = some (ext out x.D, (ext out x.D).length) := by
 have := loop_st (f := alloc_Homes.l2 x) ((x.D + 1).toNat - out.length) (fun k => (out ++ List.replicate k ⟨-1, -1⟩, (out ++ List.replicate k (⟨-1, -1⟩ : api_Home)).length)) (ext out x.D, (ext out x.D).length) (fun k hk => ?_) ?_
 ·simpa using this
 ·unfold alloc_Homes.l2
  dsimp only
  have hl : (out ++ List.replicate k (⟨-1, -1⟩ : api_Home)).length = out.length + k := by simp
  rw [if_pos (by rw [hl]; omega), if_pos rfl, if_pos (by rw [hl]; simp; omega)]
  simp only [letC]
  rw [List.append_assoc, show List.replicate k (⟨-1, -1⟩ : api_Home) ++ [⟨-1, -1⟩] = List.replicate (k + 1) ⟨-1, -1⟩ from List.replicate_succ'.symm]
 ·unfold alloc_Homes.l2
  dsimp only
  rw [if_neg (by simp; omega)]
  rfl
structure HS where
 out : List api_Home
 act : List alloc_span
 slots : Int
def spn (code : List api_Ins) (j : Nat) : alloc_span := sp code (gi code j).D j
def hstep (code : List api_Ins) (regs : Int) (i : Nat) (st : HS) : HS :=
 if mks (gi code i) = true then
  let out := ext st.out (gi code i).D
  let act := st.act.filter (live (spn code i).from_)
  let all := act ++ [spn code i]
  if (act.length : Int) < regs then ⟨out.set (spn code i).temp.toNat ⟨least act out, 0⟩, all, st.slots⟩
  else
   let k := lw (all.map wt) all.length
   ⟨(out.set (spn code i).temp.toNat (gi out (gi all k).temp)).set (gi all k).temp.toNat ⟨-1, st.slots⟩, all.eraseIdx k.toNat, st.slots + 1⟩
 else st
def hs (code : List api_Ins) (regs : Int) : Nat → HS
 | 0 => ⟨[], [], 0⟩
 | i + 1 => hstep code regs i (hs code regs i)
theorem spn_t (code : List api_Ins) (j : Nat) : (spn code j).temp = (gi code j).D ∧ (spn code j).from_ = j ∧ (j : Int) ≤ (spn code j).to_ := by
 obtain ⟨h1, h2, _, _, h3, _⟩ := su_p code (gi code j).D j code.length
 exact ⟨h1, h2, h3⟩
def Over (code : List api_Ins) (regs : Int) (m : Nat) : Prop := ∃ l : List alloc_span, regs < (l.length : Int) ∧ (l.map (·.temp)).Nodup ∧ ∀ a ∈ l, ∃ j : Nat, j ≤ m ∧ mks (gi code j) = true ∧ a = spn code j ∧ (m : Int) ≤ a.to_
def inSlot (h : api_Home) : Bool := decide (h.Reg < 0) && decide (0 ≤ h.Slot)
def isSlot (s : Int) (h : api_Home) : Bool := decide (h.Reg < 0) && decide (h.Slot = s)
structure OI (code : List api_Ins) (regs : Int) (i : Nat) (out : List api_Home) (slots : Int) : Prop where
 o1 : out.length ≤ 400
 o2 : ∀ j : Nat, j < i → mks (gi code j) = true → (gi code j).D < out.length
 no : ∀ t : Int, 0 ≤ t → t < out.length → (∀ j : Nat, j < i → mks (gi code j) = true → (gi code j).D ≠ t) → gi out t = ⟨-1, -1⟩
 ye : ∀ j : Nat, j < i → mks (gi code j) = true → (0 ≤ (gi out (gi code j).D).Reg ∧ (gi out (gi code j).D).Reg < regs ∧ (gi out (gi code j).D).Slot = 0) ∨ ((gi out (gi code j).D).Reg = -1 ∧ 0 ≤ (gi out (gi code j).D).Slot ∧ (gi out (gi code j).D).Slot < slots)
 s0 : 0 ≤ slots ∧ slots ≤ i
 uq : ∀ t u : Int, 0 ≤ t → t < out.length → 0 ≤ u → u < out.length → (gi out t).Reg < 0 → (gi out u).Reg < 0 → (gi out t).Slot = (gi out u).Slot → 0 ≤ (gi out t).Slot → t = u
 ca : (out.countP inSlot : Int) = slots
 cs : ∀ s : Int, 0 ≤ s → s < slots → out.countP (isSlot s) = 1
structure AI (code : List api_Ins) (regs : Int) (i : Nat) (out : List api_Home) (act : List alloc_span) : Prop where
 ac : ∀ a ∈ act, ∃ j : Nat, j < i ∧ mks (gi code j) = true ∧ a = spn code j ∧ 0 ≤ reg out a
 al : (act.length : Int) ≤ regs
 nd : (act.map (·.temp)).Nodup
 rg : ∀ a ∈ act, ∀ b ∈ act, reg out a = reg out b → a = b
 ov : ∀ j : Nat, j < i → mks (gi code j) = true → 0 ≤ reg out (spn code j) → spn code j ∈ act ∨ (spn code j).to_ < i
 ap : ∀ j k : Nat, j < k → k < i → mks (gi code j) = true → mks (gi code k) = true → 0 ≤ reg out (spn code j) → reg out (spn code j) = reg out (spn code k) → (spn code j).to_ < k
structure HI (code : List api_Ins) (regs : Int) (i : Nat) (st : HS) : Prop where
 o : OI code regs i st.out st.slots
 a : AI code regs i st.out st.act
 en : st.slots = 0 ∨ ∃ m : Nat, m < i ∧ Over code regs m
theorem OI.lt {code : List api_Ins} {regs : Int} {i : Nat} {out : List api_Home} {slots : Int} (h : OI code regs i out slots) {t : Int} (h0 : 0 ≤ t) (h1 : t < out.length) (h2 : (gi out t).Reg < 0) : (gi out t).Slot < slots := by
 by_cases hc : ∀ j : Nat, j < i → mks (gi code j) = true → (gi code j).D ≠ t
 ·rw [h.no t h0 h1 hc]
  have := h.s0
  show (-1 : Int) < slots
  omega
 ·simp only [Classical.not_forall, Decidable.not_not] at hc
  obtain ⟨j, hj, hm, rfl⟩ := hc
  have := h.ye j hj hm
  omega
theorem OI.zero {code : List api_Ins} {regs : Int} {i : Nat} {out : List api_Home} {slots s : Int} (h : OI code regs i out slots) (hs : slots ≤ s) : out.countP (isSlot s) = 0 := by
 rw [List.countP_eq_zero]
 intro x hx
 obtain ⟨t, ht, rfl⟩ := mem_gi hx
 unfold isSlot
 intro e
 simp only [Bool.and_eq_true, decide_eq_true_eq] at e
 have := h.lt (t := t) (by omega) (by omega) e.1
 omega
theorem gi_ext {out : List api_Home} {d t : Int} (h0 : 0 ≤ t) : gi (ext out d) t = if t < out.length then gi out t else if t < (ext out d).length then ⟨-1, -1⟩ else default := by
 unfold ext gi
 simp only [List.getD_eq_getElem?_getD, List.getElem?_append]
 by_cases h : t < out.length
 ·rw [if_pos h, if_pos (by omega)]
 ·rw [if_neg h, if_neg (by omega), List.getElem?_replicate]
  by_cases h' : t < (out ++ List.replicate ((d + 1).toNat - out.length) (⟨-1, -1⟩ : api_Home)).length
  ·rw [if_pos h', if_pos (by simp at h'; omega)]; rfl
  ·rw [if_neg h', if_neg (by simp at h'; omega)]; rfl
theorem OI.ext {code : List api_Ins} {regs : Int} {i : Nat} {out : List api_Home} {slots d : Int} (h : OI code regs i out slots) (hg : Good code code.length) (hi : i ≤ code.length) (hd : 0 ≤ d ∧ d < 400) : OI code regs i (ext out d) slots := by
 have hle : out.length ≤ (W.ext out d).length := by unfold W.ext; simp
 have ho := h.o1
 have hlen : (W.ext out d).length ≤ 400 := by unfold W.ext; simp; omega
 have hold : ∀ {t : Int}, 0 ≤ t → t < out.length → gi (W.ext out d) t = gi out t := fun h0 h1 => by rw [gi_ext h0, if_pos h1]
 have hnew : ∀ {t : Int}, 0 ≤ t → ¬ t < out.length → t < (W.ext out d).length → gi (W.ext out d) t = ⟨-1, -1⟩ := fun h0 h1 h2 => by rw [gi_ext h0, if_neg h1, if_pos h2]
 refine ⟨hlen, fun j hj hm => by have := h.o2 j hj hm; omega, fun t h0 h1 hc => ?_, fun j hj hm => ?_, h.s0, fun t u t0 t1 u0 u1 ht hu he hs => ?_, ?_, fun s s0 s1 => ?_⟩
 ·by_cases c : t < out.length
  ·rw [hold h0 c]; exact h.no t h0 c hc
  ·exact hnew h0 c h1
 ·rw [hold (hg j (by omega) hm).1 (h.o2 j hj hm)]; exact h.ye j hj hm
 ·by_cases ct : t < out.length
  ·rw [hold t0 ct] at ht he hs
   by_cases cu : u < out.length
   ·rw [hold u0 cu] at hu he; exact h.uq t u t0 ct u0 cu ht hu he hs
   ·rw [hnew u0 cu u1] at he
    simp only [] at he; omega
  ·rw [hnew t0 ct t1] at hs
   simp only [] at hs; omega
 ·unfold W.ext
  rw [List.countP_append, List.countP_replicate]
  simpa [inSlot] using h.ca
 ·unfold W.ext
  rw [List.countP_append, List.countP_replicate, h.cs s s0 s1, if_neg (by simp [isSlot]; omega)]
theorem AI.ext {code : List api_Ins} {regs : Int} {i : Nat} {out : List api_Home} {act : List alloc_span} {slots d : Int} (h : AI code regs i out act) (ho : OI code regs i out slots) (hg : Good code code.length) (hi : i ≤ code.length) : AI code regs i (ext out d) act := by
 have hr : ∀ j : Nat, j < i → mks (gi code j) = true → reg (W.ext out d) (spn code j) = reg out (spn code j) := fun j hj hm => by
  unfold reg
  rw [(spn_t code j).1, gi_ext (hg j (by omega) hm).1, if_pos (ho.o2 j hj hm)]
 refine ⟨fun a ha => ?_, h.al, h.nd, fun a ha b hb e => ?_, fun j hj hm h0 => ?_, fun j k hjk hk hm hm' h0 e => ?_⟩
 ·obtain ⟨j, hj, hm, e, h0⟩ := h.ac a ha
  exact ⟨j, hj, hm, e, by rw [e, hr j hj hm, ← e]; exact h0⟩
 ·obtain ⟨j, hj, hm, e1, _⟩ := h.ac a ha
  obtain ⟨k, hk, hm', e2, _⟩ := h.ac b hb
  rw [e1, e2, hr j hj hm, hr k hk hm', ← e1, ← e2] at e
  exact h.rg a ha b hb e
 ·rw [hr j hj hm] at h0; exact h.ov j hj hm h0
 ·rw [hr j (by omega) hm] at h0 e
  rw [hr k hk hm'] at e
  exact h.ap j k hjk hk hm hm' h0 e
theorem AI.live {code : List api_Ins} {regs : Int} {i : Nat} {out : List api_Home} {act : List alloc_span} (h : AI code regs i out act) : AI code regs i out (act.filter (live i)) := by
 have hm : ∀ {a}, a ∈ act.filter (W.live i) → a ∈ act := fun h => (List.mem_filter.1 h).1
 have hl := (List.filter_sublist (p := W.live i) (l := act)).length_le
 refine ⟨fun a ha => h.ac a (hm ha), by have := h.al; omega, (List.filter_sublist.map _).nodup h.nd, fun a ha b hb e => h.rg a (hm ha) b (hm hb) e, fun j hj hmk h0 => ?_, h.ap⟩
 rcases h.ov j hj hmk h0 with c | c
 ·by_cases hlt : (spn code j).to_ < i
  ·exact .inr hlt
  ·exact .inl (List.mem_filter.2 ⟨c, by simp [W.live, hlt]⟩)
 ·exact .inr c
theorem er {all : List alloc_span} (hn : (all.map (·.temp)).Nodup) {k : Nat} (hk : k < all.length) (a : alloc_span) : a ∈ all.eraseIdx k ↔ a ∈ all ∧ a ≠ gi all k := by
 rw [List.mem_eraseIdx_iff_getElem, gi_in hk]
 constructor
 ·rintro ⟨i, hi, hne, rfl⟩
  refine ⟨List.getElem_mem hi, fun e => hne ?_⟩
  have h1 : (all.map (·.temp))[i]'(by simpa using hi) = (all.map (·.temp))[k]'(by simpa using hk) := by simp [e]
  exact (List.getElem_inj hn).1 h1
 ·rintro ⟨ha, hne⟩
  obtain ⟨i, hi, rfl⟩ := List.getElem_of_mem ha
  exact ⟨i, hi, fun e => hne (by subst e; rfl), rfl⟩

section
variable {code : List api_Ins} {regs : Int} {i : Nat}
structure Ahd (code : List api_Ins) (regs : Int) (i : Nat) (out : List api_Home) (act : List alloc_span) (slots : Int) : Prop where
 o : OI code regs i out slots
 a : AI code regs i out act
 en : slots = 0 ∨ ∃ m : Nat, m < i ∧ Over code regs m
 hi : i < code.length
 mm : mks (gi code i) = true
 dl : (gi code i).D < out.length
 lv : ∀ a ∈ act, (i : Int) ≤ a.to_
theorem pre_of {st : HS} (h : HI code regs i st) (hg : Good code code.length) (hi : i < code.length) (hm : mks (gi code i) = true) :
 Ahd code regs i (ext st.out (gi code i).D) (st.act.filter (live (spn code i).from_)) st.slots := by
 have hd := hg i hi hm
 refine ⟨h.o.ext hg (by omega) ⟨hd.1, hd.2.1⟩, ?_, h.en, hi, hm, ext_len _ _ hd.1, fun a ha => ?_⟩
 ·rw [(spn_t code i).2.1]; exact (h.a.ext h.o hg (by omega)).live
 ·have := (List.mem_filter.1 ha).2
  rw [(spn_t code i).2.1] at this
  simp only [live, Bool.not_eq_true', decide_eq_false_iff_not] at this
  omega
variable {out : List api_Home} {act : List alloc_span} {slots : Int}
theorem Ahd.ne (h : Ahd code regs i out act slots) (hg : Good code code.length) {j : Nat} (hj : j < i) (hm : mks (gi code j) = true) : (gi code j).D ≠ (gi code i).D := (hg i h.hi h.mm).2.2 j hj hm
theorem Ahd.inj (h : Ahd code regs i out act slots) (hg : Good code code.length) {j k : Nat} (hj : j ≤ i) (hk : k ≤ i) (hm : mks (gi code j) = true) (hm' : mks (gi code k) = true) (e : (gi code j).D = (gi code k).D) : j = k := by
 rcases Nat.lt_trichotomy j k with c | c | c
 ·exact absurd e ((hg k (by have := h.hi; omega) hm').2.2 j c hm)
 ·exact c
 ·exact absurd e.symm ((hg j (by have := h.hi; omega) hm).2.2 k c hm')
theorem Ahd.d (h : Ahd code regs i out act slots) (hg : Good code code.length) : 0 ≤ (gi code i).D ∧ (gi code i).D < 400 := ⟨(hg i h.hi h.mm).1, (hg i h.hi h.mm).2.1⟩
theorem Ahd.free (h : Ahd code regs i out act slots) (hg : Good code code.length) : gi out (gi code i).D = ⟨-1, -1⟩ := h.o.no _ (h.d hg).1 h.dl fun j hj hm => h.ne hg hj hm
theorem Ahd.nodup (h : Ahd code regs i out act slots) (hg : Good code code.length) : ((act ++ [spn code i]).map (·.temp)).Nodup := by
 rw [List.map_append, List.nodup_append]
 refine ⟨h.a.nd, by simp, fun t ht u hu e => ?_⟩
 obtain ⟨a, ha, rfl⟩ := List.mem_map.1 ht
 simp only [List.map_cons, List.map_nil, List.mem_singleton] at hu
 obtain ⟨j, hj, hm, ea, _⟩ := h.a.ac a ha
 rw [hu, ea, (spn_t code j).1, (spn_t code i).1] at e
 exact h.ne hg hj hm e
theorem Ahd.over (h : Ahd code regs i out act slots) (hg : Good code code.length) (hr : regs ≤ (act.length : Int)) : Over code regs i := by
 refine ⟨act ++ [spn code i], by simp; omega, h.nodup hg, fun a ha => ?_⟩
 rcases List.mem_append.1 ha with ha | ha
 ·obtain ⟨j, hj, hm, e, _⟩ := h.a.ac a ha
  exact ⟨j, by omega, hm, e, h.lv a ha⟩
 ·simp only [List.mem_singleton] at ha
  subst ha
  exact ⟨i, Nat.le_refl _, h.mm, rfl, (spn_t code i).2.2⟩
theorem gi_setD {l : List api_Home} {d t : Int} {x : api_Home} (h0 : 0 ≤ d) (h1 : d < l.length) (t0 : 0 ≤ t) (t1 : t < l.length) : gi (l.set d.toNat x) t = if t = d then x else gi l t := by
 rw [gi_set (by omega) t0 t1]
 by_cases e : t = d
 ·rw [if_pos e, if_pos (by omega)]
 ·rw [if_neg e, if_neg (by omega)]
theorem countD {l : List api_Home} {d : Int} {x : api_Home} {p : api_Home → Bool} (h0 : 0 ≤ d) (h1 : d < l.length) (hp : p (gi l d) = false) : (l.set d.toNat x).countP p = l.countP p + if p x = true then 1 else 0 := by
 have hl : d.toNat < l.length := by omega
 rw [List.countP_set hl]
 have : l[d.toNat] = gi l d := by rw [← gi_in hl]; congr 1; omega
 rw [this, hp]
 simp
theorem Ahd.stepA (h : Ahd code regs i out act slots) (hg : Good code code.length) (hr : (act.length : Int) < regs) :
 HI code regs (i + 1) ⟨out.set (spn code i).temp.toNat ⟨least act out, 0⟩, act ++ [spn code i], slots⟩ := by
 obtain ⟨r, er, rl, rh⟩ := least_ok act out
 obtain ⟨d0, d4⟩ := h.d hg
 have hdl := h.dl
 have hfree := h.free hg
 have hgi : ∀ {t : Int}, 0 ≤ t → t < out.length → gi (out.set (spn code i).temp.toNat ⟨least act out, 0⟩) t = if t = (gi code i).D then ⟨(r : Int), 0⟩ else gi out t := fun t0 t1 => by
  rw [(spn_t code i).1, gi_setD d0 hdl t0 t1, er]
 have hlen : (out.set (spn code i).temp.toNat ⟨least act out, 0⟩).length = out.length := by simp
 have hreg : ∀ {j : Nat}, j < i → mks (gi code j) = true → reg (out.set (spn code i).temp.toNat ⟨least act out, 0⟩) (spn code j) = reg out (spn code j) := fun {j} hj hm => by
  unfold reg
  rw [(spn_t code j).1, hgi (hg j (by have := h.hi; omega) hm).1 (h.o.o2 j hj hm), if_neg (h.ne hg hj hm)]
 have hregi : reg (out.set (spn code i).temp.toNat ⟨least act out, 0⟩) (spn code i) = r := by
  unfold reg
  rw [show (gi (out.set (spn code i).temp.toNat ⟨least act out, 0⟩) (spn code i).temp) = gi (out.set (spn code i).temp.toNat ⟨least act out, 0⟩) (gi code i).D by rw [(spn_t code i).1], hgi d0 hdl, if_pos rfl]
 have hno : ∀ a ∈ act, reg out a ≠ r := fun a ha e => by
  have : has act out r = true := List.any_eq_true.2 ⟨a, ha, by simp [e]⟩
  rw [rh] at this; cases this
 refine ⟨⟨by rw [hlen]; exact h.o.o1, fun j hj hm => ?_, fun t t0 t1 hc => ?_, fun j hj hm => ?_, by have := h.o.s0; simp only []; omega, fun t u t0 t1 u0 u1 ht hu e hs => ?_, ?_, fun s s0 s1 => ?_⟩, ⟨fun a ha => ?_, by simp; omega, h.nodup hg, fun a ha b hb e => ?_, fun j hj hm h0 => ?_, fun j k hjk hk hm hm' h0 e => ?_⟩, ?_⟩
 ·rw [hlen]
  by_cases e : j = i
  ·subst e; exact hdl
  ·exact h.o.o2 j (by omega) hm
 ·rw [hlen] at t1
  simp only []
  rw [hgi t0 t1, if_neg (fun e => hc i (by omega) h.mm e.symm)]
  exact h.o.no t t0 t1 fun j hj hm => hc j (by omega) hm
 ·simp only []
  by_cases e : j = i
  ·subst e
   rw [hgi d0 hdl, if_pos rfl]
   exact .inl ⟨by simp only []; omega, by simp only []; omega, rfl⟩
  ·rw [hgi (hg j (by have := h.hi; omega) hm).1 (h.o.o2 j (by omega) hm), if_neg (h.ne hg (by omega) hm)]
   exact h.o.ye j (by omega) hm
 ·simp only [] at t1 u1 ht hu e hs
  rw [hlen] at t1 u1
  rw [hgi t0 t1] at ht hs e
  rw [hgi u0 u1] at hu e
  by_cases c1 : t = (gi code i).D
  ·rw [if_pos c1] at ht; simp only [] at ht; omega
  ·by_cases c2 : u = (gi code i).D
   ·rw [if_pos c2] at hu; simp only [] at hu; omega
   ·rw [if_neg c1] at ht hs e
    rw [if_neg c2] at hu e
    exact h.o.uq t u t0 t1 u0 u1 ht hu e hs
 ·simp only []
  rw [(spn_t code i).1, er, countD d0 hdl (by rw [hfree]; rfl)]
  rw [if_neg (by simp [inSlot] <;> omega)]
  exact h.o.ca
 ·simp only [] at s1 ⊢
  rw [(spn_t code i).1, er, countD d0 hdl (by rw [hfree]; simp [isSlot]; omega), if_neg (by simp [isSlot]; omega)]
  exact h.o.cs s s0 s1
 ·rcases List.mem_append.1 ha with ha | ha
  ·obtain ⟨j, hj, hm, e, h0⟩ := h.a.ac a ha
   refine ⟨j, by omega, hm, e, ?_⟩
   simp only []
   rw [e, hreg hj hm, ← e]; exact h0
  ·simp only [List.mem_singleton] at ha
   subst ha
   exact ⟨i, by omega, h.mm, rfl, by simp only []; rw [hregi]; omega⟩
 ·simp only [] at e
  rcases List.mem_append.1 ha with ha | ha <;> rcases List.mem_append.1 hb with hb | hb
  ·obtain ⟨j, hj, hm, e1, _⟩ := h.a.ac a ha
   obtain ⟨k, hk, hm', e2, _⟩ := h.a.ac b hb
   rw [e1, e2, hreg hj hm, hreg hk hm', ← e1, ← e2] at e
   exact h.a.rg a ha b hb e
  ·simp only [List.mem_singleton] at hb
   obtain ⟨j, hj, hm, e1, _⟩ := h.a.ac a ha
   rw [e1, hb, hreg hj hm, hregi, ← e1] at e
   exact absurd e (hno a ha)
  ·simp only [List.mem_singleton] at ha
   obtain ⟨j, hj, hm, e1, _⟩ := h.a.ac b hb
   rw [e1, ha, hreg hj hm, hregi, ← e1] at e
   exact absurd e.symm (hno b hb)
  ·simp only [List.mem_singleton] at ha hb
   rw [ha, hb]
 ·simp only [] at h0 ⊢
  by_cases e : j = i
  ·subst e; exact .inl (by simp)
  ·rw [hreg (by omega) hm] at h0
   rcases h.a.ov j (by omega) hm h0 with c | c
   ·exact .inl (by simp [c])
   ·exact .inr (by omega)
 ·simp only [] at h0 e
  rw [hreg (by omega) hm] at h0 e
  by_cases c : k = i
  ·subst c
   rw [hregi] at e
   rcases h.a.ov j hjk hm h0 with c | c
   ·exact absurd e (hno _ c)
   ·exact c
  ·rw [hreg (by omega) hm'] at e
   exact h.a.ap j k hjk (by omega) hm hm' h0 e
 ·rcases h.en with c | ⟨m, hm, c⟩
  ·exact .inl c
  ·exact .inr ⟨m, by omega, c⟩
theorem Ahd.stepB (h : Ahd code regs i out act slots) (hg : Good code code.length) (hr : regs ≤ (act.length : Int)) {k : Nat} (hk : k < (act ++ [spn code i]).length) :
 HI code regs (i + 1) ⟨(out.set (spn code i).temp.toNat (gi out (gi (act ++ [spn code i]) k).temp)).set (gi (act ++ [spn code i]) k).temp.toNat ⟨-1, slots⟩, (act ++ [spn code i]).eraseIdx k, slots + 1⟩ := by
 obtain ⟨d0, d4⟩ := h.d hg
 have hdl := h.dl
 have hfree := h.free hg
 have hnd := h.nodup hg
 have hmem : gi (act ++ [spn code i]) k ∈ act ++ [spn code i] := gi_mem (by omega) (by omega)
 have her := er hnd hk
 generalize he : gi (act ++ [spn code i]) (k : Int) = e at *
 have hsl := h.o.s0
 -- which one it is
 obtain ⟨j0, hj0, hm0, e0, hcase⟩ : ∃ j0 : Nat, j0 ≤ i ∧ mks (gi code j0) = true ∧ e = spn code j0 ∧ ((j0 = i) ∨ (j0 < i ∧ e ∈ act ∧ 0 ≤ reg out e)) := by
  rcases List.mem_append.1 hmem with hm | hm
  ·obtain ⟨j, hj, hmk, e1, h0⟩ := h.a.ac e hm
   exact ⟨j, by omega, hmk, e1, .inr ⟨hj, hm, h0⟩⟩
  ·simp only [List.mem_singleton] at hm
   exact ⟨i, Nat.le_refl _, h.mm, hm, .inl rfl⟩
 have et : e.temp = (gi code j0).D := by rw [e0, (spn_t code j0).1]
 have g0 : 0 ≤ (gi code j0).D := (hg j0 (by have := h.hi; omega) hm0).1
 have g1 : (gi code j0).D < out.length := by
  rcases hcase with rfl | ⟨c, _⟩
  ·exact hdl
  ·exact h.o.o2 j0 c hm0
 have hs_t := (spn_t code i).1
 -- what stands there
 have hgi : ∀ {t : Int}, 0 ≤ t → t < out.length → gi ((out.set (spn code i).temp.toNat (gi out e.temp)).set e.temp.toNat ⟨-1, slots⟩) t = if t = (gi code j0).D then ⟨-1, slots⟩ else if t = (gi code i).D then gi out (gi code j0).D else gi out t := fun t0 t1 => by
  rw [et, hs_t, gi_setD g0 (by simpa using g1) t0 (by simpa using t1), gi_setD d0 hdl t0 t1]
 have hlen : ((out.set (spn code i).temp.toNat (gi out e.temp)).set e.temp.toNat ⟨-1, slots⟩).length = out.length := by simp
 generalize ho2 : (out.set (spn code i).temp.toNat (gi out e.temp)).set e.temp.toNat ⟨-1, slots⟩ = out2 at *
 have hne : j0 ≠ i → (gi code i).D ≠ (gi code j0).D := fun c e => h.ne hg (by omega : j0 < i) hm0 e.symm
 -- the count
 have hold : ∀ p : api_Home → Bool, p ⟨-1, -1⟩ = false → p (gi out (gi code j0).D) = false → out2.countP p = out.countP p + if p ⟨-1, slots⟩ = true then 1 else 0 := by
  intro p p1 p2
  rw [← ho2, et, hs_t, countD g0 (by simpa using g1), countD d0 hdl (by rw [hfree]; exact p1), p2]
  ·simp
  ·rw [gi_setD d0 hdl g0 g1]
   split <;> exact p2
 have hv : gi out (gi code j0).D = ⟨-1, -1⟩ ∨ (0 ≤ (gi out (gi code j0).D).Reg ∧ (gi out (gi code j0).D).Reg < regs ∧ (gi out (gi code j0).D).Slot = 0 ∧ j0 < i ∧ e ∈ act ∧ reg out e = (gi out (gi code j0).D).Reg) := by
  rcases hcase with rfl | ⟨c, hm, h0⟩
  ·exact .inl hfree
  ·right
   unfold reg at h0 ⊢
   rw [et] at h0 ⊢
   rcases h.o.ye j0 c hm0 with y | y
   ·exact ⟨y.1, y.2.1, y.2.2, c, hm, rfl⟩
   ·omega
 have hp : ∀ s : Int, 0 ≤ s → isSlot s (gi out (gi code j0).D) = false := fun s hs => by
  rcases hv with v | v
  ·rw [v]; simp [isSlot]; omega
  ·simp [isSlot]; omega
 have hpi : inSlot (gi out (gi code j0).D) = false := by
  rcases hv with v | v
  ·rw [v]; rfl
  ·simp [inSlot]; omega
 have hD : ∀ {j : Nat}, j ≤ i → mks (gi code j) = true → (gi code j).D < out.length := fun {j} hj hm => by
  by_cases c : j = i
  ·subst c; exact hdl
  ·exact h.o.o2 j (by omega) hm
 have hD0 : ∀ {j : Nat}, j ≤ i → mks (gi code j) = true → 0 ≤ (gi code j).D := fun {j} hj hm => (hg j (by have := h.hi; omega) hm).1
 have hreg : ∀ {j : Nat}, j ≤ i → mks (gi code j) = true → reg out2 (spn code j) = if j = j0 then -1 else if j = i then (gi out (gi code j0).D).Reg else reg out (spn code j) := fun {j} hj hm => by
  unfold reg
  rw [(spn_t code j).1, hgi (hD0 hj hm) (hD hj hm)]
  by_cases c : j = j0
  ·subst c; rw [if_pos rfl, if_pos rfl]
  ·rw [if_neg c, if_neg (fun e => c (h.inj hg hj hj0 hm hm0 e))]
   by_cases c2 : j = i
   ·subst c2; rw [if_pos rfl, if_pos rfl]
   ·rw [if_neg c2, if_neg (fun e => c2 (h.inj hg hj (Nat.le_refl _) hm h.mm e))]
 -- membership
 have hin : ∀ {a}, a ∈ (act ++ [spn code i]).eraseIdx k → ∃ j : Nat, j ≤ i ∧ mks (gi code j) = true ∧ a = spn code j ∧ j ≠ j0 ∧ (j = i ∨ (j < i ∧ a ∈ act ∧ 0 ≤ reg out a)) := fun {a} ha => by
  obtain ⟨h1, h2⟩ := (her a).1 ha
  rcases List.mem_append.1 h1 with hm | hm
  ·obtain ⟨j, hj, hmk, e1, h0⟩ := h.a.ac a hm
   exact ⟨j, by omega, hmk, e1, fun c => h2 (by rw [e1, c, ← e0]), .inr ⟨hj, hm, h0⟩⟩
  ·simp only [List.mem_singleton] at hm
   exact ⟨i, Nat.le_refl _, h.mm, hm, fun c => h2 (by rw [hm, c, ← e0]), .inl rfl⟩
 have hregA : ∀ {a}, a ∈ (act ++ [spn code i]).eraseIdx k → 0 ≤ reg out2 a := fun {a} ha => by
  obtain ⟨j, hj, hm, e1, hne', hc⟩ := hin ha
  rw [e1, hreg hj hm, if_neg hne']
  rcases hc with rfl | ⟨hji, ham, h0⟩
  ·rw [if_pos rfl]
   rcases hv with v | v
   ·rcases hcase with c | ⟨c, hm, h0⟩
    ·exact absurd c.symm hne'
    ·unfold reg at h0; rw [et, v] at h0; simp only [] at h0; omega
   ·exact v.1
  ·rw [if_neg (by omega), ← e1]; exact h0
 refine ⟨⟨by rw [hlen]; exact h.o.o1, fun j hj hm => by rw [hlen]; exact hD (by omega) hm, fun t t0 t1 hc => ?_, fun j hj hm => ?_, by simp only []; omega, fun t u t0 t1 u0 u1 ht hu e' hs => ?_, ?_, fun s s0 s1 => ?_⟩, ⟨fun a ha => ?_, ?_, ?_, fun a ha b hb e' => ?_, fun j hj hm h0 => ?_, fun j k' hjk hk' hm hm' h0 e' => ?_⟩, .inr ⟨i, by omega, h.over hg hr⟩⟩
 ·simp only [] at t1 ⊢
  rw [hlen] at t1
  rw [hgi t0 t1, if_neg (fun c => hc j0 (by omega) hm0 c.symm), if_neg (fun c => hc i (by omega) h.mm c.symm)]
  exact h.o.no t t0 t1 fun j hj hm => hc j (by omega) hm
 ·simp only []
  rw [hgi (hD0 (by omega) hm) (hD (by omega) hm)]
  by_cases c : (gi code j).D = (gi code j0).D
  ·rw [if_pos c]
   exact .inr ⟨rfl, by simp only []; omega, by simp only []; omega⟩
  ·rw [if_neg c]
   by_cases c2 : (gi code j).D = (gi code i).D
   ·rw [if_pos c2]
    rcases hv with v | v
    ·exfalso
     rcases hcase with c3 | ⟨c3, hme, h0⟩
     ·exact c (by rw [c2, c3])
     ·unfold reg at h0; rw [et, v] at h0; simp only [] at h0; omega
    ·exact .inl ⟨v.1, v.2.1, v.2.2.1⟩
   ·rw [if_neg c2]
    have hji : j ≠ i := fun c => c2 (by rw [c])
    rcases h.o.ye j (by omega) hm with y | y
    ·exact .inl y
    ·exact .inr ⟨y.1, y.2.1, by omega⟩
 ·simp only [] at t1 u1 ht hu e' hs
  rw [hlen] at t1 u1
  rw [hgi t0 t1] at ht hs e'
  rw [hgi u0 u1] at hu e'
  have key : ∀ {u : Int}, 0 ≤ u → u < out.length → u ≠ (gi code j0).D → (if u = (gi code i).D then gi out (gi code j0).D else gi out u).Reg < 0 → 0 ≤ (if u = (gi code i).D then gi out (gi code j0).D else gi out u).Slot → (if u = (gi code i).D then gi out (gi code j0).D else gi out u).Slot < slots ∧ u ≠ (gi code i).D := by
   intro u u0 u1 hu0 h1 h2
   by_cases c : u = (gi code i).D
   ·rw [if_pos c] at h1 h2
    rcases hv with v | v
    ·rw [v] at h2; simp only [] at h2; omega
    ·omega
   ·rw [if_neg c] at h1 ⊢
    exact ⟨h.o.lt u0 u1 h1, c⟩
  by_cases c1 : t = (gi code j0).D <;> by_cases c2 : u = (gi code j0).D
  ·rw [c1, c2]
  ·rw [if_pos c1] at hs e'
   rw [if_neg c2] at hu e'
   simp only [] at e' hs
   have := key u0 u1 c2 hu (by omega)
   omega
  ·rw [if_neg c1] at ht hs e'
   rw [if_pos c2] at e'
   simp only [] at e'
   have := key t0 t1 c1 ht hs
   omega
  ·rw [if_neg c1] at ht hs e'
   rw [if_neg c2] at hu e'
   have k1 := key t0 t1 c1 ht hs
   have k2 := key u0 u1 c2 hu (by omega)
   rw [if_neg k1.2] at ht hs e'
   rw [if_neg k2.2] at hu e'
   exact h.o.uq t u t0 t1 u0 u1 ht hu e' hs
 ·simp only []
  rw [hold inSlot rfl hpi, if_pos (by simp [inSlot]; omega)]
  have := h.o.ca
  omega
 ·simp only [] at s1 ⊢
  rw [hold (isSlot s) (by simp [isSlot]; omega) (hp s s0)]
  by_cases c : s = slots
  ·subst c
   rw [h.o.zero (Int.le_refl _), if_pos (by simp [isSlot])]
  ·rw [h.o.cs s s0 (by omega), if_neg (by simp [isSlot]; omega)]
 ·obtain ⟨j, hj, hm, e1, _, _⟩ := hin ha
  exact ⟨j, by omega, hm, e1, hregA ha⟩
 ·simp only []
  rw [List.length_eraseIdx, if_pos hk]
  have := h.a.al
  simp; omega
 ·exact ((List.eraseIdx_sublist _ _).map _).nodup hnd
 ·simp only [] at e'
  obtain ⟨j, hj, hm, e1, n1, c1⟩ := hin ha
  obtain ⟨l, hl, hm', e2, n2, c2⟩ := hin hb
  rw [e1, e2, hreg hj hm, hreg hl hm', if_neg n1, if_neg n2] at e'
  have bad : ∀ {b : alloc_span} {l : Nat}, b = spn code l → l ≠ j0 → b ∈ act → j0 ≠ i → (gi out (gi code j0).D).Reg ≠ reg out b := fun {b l} e2 n2 hb hji e' => by
   rcases hcase with c | ⟨c, hme, h0⟩
   ·exact hji c
   ·have : reg out e = reg out b := by rw [← e']; unfold reg; rw [et]
    have := h.a.rg e hme b hb this
    rw [e0, e2] at this
    have h1 := congrArg alloc_span.from_ this
    rw [(spn_t code j0).2.1, (spn_t code l).2.1] at h1
    exact n2 (by omega)
  rcases c1 with rfl | ⟨hji, ham, _⟩ <;> rcases c2 with rfl | ⟨hli, hbm, _⟩
  ·rw [e1, e2]
  ·rw [if_pos rfl, if_neg (by omega), ← e2] at e'
   exact absurd e' (bad e2 n2 hbm (fun c => n1 c.symm))
  ·rw [if_neg (by omega), if_pos rfl, ← e1] at e'
   exact absurd e'.symm (bad e1 n1 ham (fun c => n2 c.symm))
  ·rw [if_neg (by omega), if_neg (by omega), ← e1, ← e2] at e'
   exact h.a.rg a ham b hbm e'
 ·simp only [] at h0 ⊢
  rw [hreg (by omega) hm] at h0
  by_cases c : j = j0
  ·rw [if_pos c] at h0; omega
  ·rw [if_neg c] at h0
   have hnot : spn code j ≠ e := fun c2 => by
    rw [e0] at c2
    have h1 := congrArg alloc_span.from_ c2
    rw [(spn_t code j0).2.1, (spn_t code j).2.1] at h1
    exact c (by omega)
   by_cases c2 : j = i
   ·subst c2; exact .inl ((her _).2 ⟨by simp, hnot⟩)
   ·rw [if_neg c2] at h0
    rcases h.a.ov j (by omega) hm h0 with c3 | c3
    ·exact .inl ((her _).2 ⟨by simp [c3], hnot⟩)
    ·exact .inr (by omega)
 ·simp only [] at h0 e'
  rw [hreg (by omega) hm] at h0 e'
  rw [hreg (by omega) hm'] at e'
  by_cases c : j = j0
  ·rw [if_pos c] at h0; omega
  ·rw [if_neg c, if_neg (by omega)] at h0 e'
   by_cases c2 : k' = j0
   ·rw [if_pos c2] at e'; omega
   ·rw [if_neg c2] at e'
    by_cases c3 : k' = i
    ·subst c3
     rw [if_pos rfl] at e'
     rcases hcase with c4 | ⟨c4, hme, h0e⟩
     ·exact absurd c4.symm c2
     ·rcases h.a.ov j hjk hm h0 with c5 | c5
      ·exfalso
       have : reg out (spn code j) = reg out e := by rw [e']; unfold reg; rw [et]
       have := h.a.rg _ c5 e hme this
       rw [e0] at this
       have h1 := congrArg alloc_span.from_ this
       rw [(spn_t code j0).2.1, (spn_t code j).2.1] at h1
       exact c (by omega)
      ·exact c5
    ·rw [if_neg c3] at e'
     exact h.a.ap j k' hjk (by omega) hm hm' h0 e'
end

def stT (code : List api_Ins) (regs : Int) (i : Nat) : (List api_Home) × Nat × (List alloc_span) × Int × Int := ((hs code regs i).out, (hs code regs i).out.length, (hs code regs i).act, (hs code regs i).slots, (i : Int))
theorem homes_step {code : List api_Ins} {regs : Int} (hn : code.length ≤ 400) (hg : Good code code.length) (hr : 1 ≤ regs ∧ regs ≤ 8) {i : Nat} (hi : i < code.length) (h : HI code regs i (hs code regs i)) :
 alloc_Homes.l1 code regs (stT code regs i) = some (.inl (stT code regs (i + 1))) ∧ HI code regs (i + 1) (hs code regs (i + 1)) := by
 have hst : hs code regs (i + 1) = hstep code regs i (hs code regs i) := rfl
 unfold stT
 rw [hst]
 generalize hs code regs i = st at *
 unfold alloc_Homes.l1
 dsimp only
 rw [if_pos (by omega), if_pos (by omega)]
 simp only [letC]
 rw [show alloc_makes.m (gi code i) = mks (gi code i) from rfl]
 by_cases hm : mks (gi code i) = true
 ·have hp := pre_of h hg hi hm
  have hat : At code (gi code i).D i := by
   refine ⟨hi, by simp [mkt, hm], fun j hj => ?_⟩
   cases hmj : mks (gi code j)
   ·simp [mkt, hmj]
   ·have := hp.ne hg hj hmj
    simp [mkt, hmj, this]
  have hspan : alloc_spanOf.m code (gi code i).D = some (spn code i, true) := by
   rcases span_eq code (gi code i).D hn with ⟨k, hk, e⟩ | ⟨hk, _⟩
   ·rw [e, hk.uniq hat]; rfl
   ·have := hk i hi; rw [hat.2.1] at this; cases this
  have hact := h.a.al
  rw [if_pos hm, ext_eq _ _ (hp.d hg), Option.bind_some]
  dsimp only
  rw [hspan, Option.bind_some, del_eq _ _ (by omega), Option.bind_some]
  unfold hstep
  rw [if_pos hm]
  dsimp only
  have hal := hp.a.al
  have hol := hp.o.o1
  have hdl := hp.dl
  have hd := hp.d hg
  have hnd := hp.nodup hg
  have hac := hp.a.ac
  have hstA := hp.stepA hg
  have hstB := hp.stepB hg
  have ht := (spn_t code i).1
  have hfree := hp.free hg
  have hbt : ∀ a ∈ st.act.filter (live (spn code i).from_), 0 ≤ a.temp ∧ a.temp < (ext st.out (gi code i).D).length := fun a ha => by
   obtain ⟨j, hj, hmj, e, _⟩ := hac a ha
   rw [e, (spn_t code j).1]
   exact ⟨(hg j (by omega) hmj).1, hp.o.o2 j hj hmj⟩
  generalize ho : ext st.out (gi code i).D = out at *
  generalize hac' : st.act.filter (live (spn code i).from_) = act at *
  rw [clone_eq _ (by omega), Option.bind_some, if_pos (by simp; omega)]
  by_cases hf : (act.length : Int) < regs
  ·rw [if_pos hf, if_pos hf, least_eq act out hbt (by omega), Option.bind_some, if_pos (by rw [ht]; omega), if_pos (by rw [ht]; omega), wr64 (by omega)]
   exact ⟨by simp, hstA hf⟩
  ·rw [if_neg hf, if_neg hf]
   have hal1 : (act ++ [spn code i]).length = act.length + 1 := by simp
   generalize hall : act ++ [spn code i] = all at *
   have hw := weights_eq all (by omega)
   have hlw := least_w (all.map wt) (by simp; omega)
   have hb := lw_b (all.map wt) all.length
   simp only [List.length_map] at hlw
   have hk0 : 0 ≤ lw (all.map wt) all.length ∧ lw (all.map wt) all.length < all.length := by omega
   generalize lw (all.map wt) all.length = k at *
   obtain ⟨k, rfl⟩ : ∃ n : Nat, k = n := ⟨k.toNat, by omega⟩
   have hmem : gi all (k : Int) ∈ all := gi_mem (by omega) (by omega)
   have hbe : 0 ≤ (gi all (k : Int)).temp ∧ (gi all (k : Int)).temp < out.length := by
    rw [← hall] at hmem
    rcases List.mem_append.1 hmem with h1 | h1
    ·rw [hall] at h1; exact hbt _ h1
    ·simp only [List.mem_singleton] at h1
     rw [← hall, h1, ht]; omega
   have hsl := h.o.s0
   rw [if_pos (by omega), Int.toNat_natCast, hw, Option.bind_some, hlw, Option.bind_some, if_pos (by omega), if_pos hbe, if_pos hbe, if_pos (by rw [ht]; omega), if_pos (by rw [ht]; omega), if_pos hbe, if_pos (by simpa using hbe), delete_eq all k (by omega) (by omega), Option.bind_some, wr64 (by omega), wr64 (by omega), Int.toNat_natCast]
   exact ⟨by simp, hstB (by omega) (by omega)⟩
 ·rw [if_neg hm]
  unfold hstep
  rw [if_neg hm, wr64 (by omega)]
  refine ⟨rfl, ⟨⟨h.o.o1, fun j hj hmj => ?_, fun t t0 t1 hc => h.o.no t t0 t1 fun j hj => hc j (by omega), fun j hj hmj => ?_, by have := h.o.s0; omega, h.o.uq, h.o.ca, h.o.cs⟩, ⟨fun a ha => ?_, h.a.al, h.a.nd, h.a.rg, fun j hj hmj h0 => ?_, fun j k hjk hk hmj hmk h0 e => ?_⟩, ?_⟩⟩
  ·have : j ≠ i := by rintro rfl; exact hm hmj
   exact h.o.o2 j (by omega) hmj
  ·have : j ≠ i := by rintro rfl; exact hm hmj
   exact h.o.ye j (by omega) hmj
  ·obtain ⟨j, hj, r⟩ := h.a.ac a ha
   exact ⟨j, by omega, r⟩
  ·have : j ≠ i := by rintro rfl; exact hm hmj
   rcases h.a.ov j (by omega) hmj h0 with c | c
   ·exact .inl c
   ·exact .inr (by omega)
  ·have : k ≠ i := by rintro rfl; exact hm hmk
   exact h.a.ap j k hjk (by omega) hmj hmk h0 e
  ·rcases h.en with c | ⟨m, hm', c⟩
   ·exact .inl c
   ·exact .inr ⟨m, by omega, c⟩
theorem hs_ok {code : List api_Ins} {regs : Int} (hn : code.length ≤ 400) (hg : Good code code.length) (hr : 1 ≤ regs ∧ regs ≤ 8) : ∀ i, i ≤ code.length → HI code regs i (hs code regs i)
 | 0, _ => ⟨⟨by simp [hs], fun j hj => by omega, fun t t0 t1 => by simp [hs] at t1; omega, fun j hj => by omega, by simp [hs], fun t u t0 t1 => by simp [hs] at t1; omega, by simp [hs], fun s s0 s1 => by simp [hs] at s1; omega⟩,
  ⟨fun a ha => by simp [hs] at ha, by simp [hs]; omega, by simp [hs], fun a ha => by simp [hs] at ha, fun j hj => by omega, fun j k hjk hk => by omega⟩, .inl rfl⟩
 | i + 1, hi => (homes_step hn hg hr (by omega) (hs_ok hn hg hr i (by omega))).2
theorem homes_T (code : List api_Ins) (l : List api_Loc) (regs : Int) (hn : code.length ≤ 400) (hl : l.length ≤ 16) :
 Tot (fun r => match r with
  | .inl n => n = 1 ∨ n = 3
  | .inr z => Good code code.length ∧ 1 ≤ regs ∧ regs ≤ 8 ∧ z = ((hs code regs code.length).out, (hs code regs code.length).out.length) ∧ HI code regs code.length (hs code regs code.length)) (alloc_Homes.m code l regs) := by
 unfold alloc_Homes.m
 refine .bind (right_T code l hn hl) fun b hb => .ite (fun hbt => ?_) fun _ => .some (.inr rfl)
 have hg := hb hbt
 refine .bind (R := fun b => b = false → 1 ≤ regs ∧ regs ≤ 8) (.ite (fun _ => .some fun e => by cases e) fun h1 => .some fun e => ?_) fun b hb => .ite (fun _ => .some (.inl rfl)) fun hbf => ?_
 ·have := of_decide_eq_false e
  omega
 ·have hr := hb (by simpa using hbf)
  have := loop_st (f := alloc_Homes.l1 code regs) code.length (stT code regs) ((hs code regs code.length).out, (hs code regs code.length).out.length) (fun i hi => (homes_step hn hg hr hi (hs_ok hn hg hr i (by omega))).1) (by
   unfold stT alloc_Homes.l1
   dsimp only
   rw [if_neg (by omega)])
  exact .bindE (y := ((hs code regs code.length).out, (hs code regs code.length).out.length)) this (.some ⟨hg, hr.1, hr.2, rfl, hs_ok hn hg hr _ (Nat.le_refl _)⟩)
end Go.Proofs.Ytbhekpcimmaijaa.W
namespace Go.Proofs.Ytbhekpcimmaijaa.W
open Go Go.RowKit Go.Proofs.Ytbhekpcimmaijaa Go.Proofs.Ytbhekpcimmaijaa.X
open Go.Proofs.Ytbhekpcimmaijaa.B (wr aget aset loop loop_in loop_out loop_tot)

def sh (op : Int) : tree_uses := (tree_shape.m op).1
def isOp (op : Int) : Bool := (tree_shape.m op).2
theorem mks_sh (x : api_Ins) : mks x = (sh x.Op).d := mks_shape x
theorem nds_sh (x : api_Ins) (t : Int) : nds x t = ((sh x.Op).a && decide (x.A = t) || (sh x.Op).b && decide (x.B = t)) := by
 unfold nds alloc_needs.m sh tree_shape.m letC
 generalize x.Op = op
 rcases ops_c op with h | h
 ·rcases h with rfl | rfl | rfl | rfl | rfl | rfl | rfl | rfl | rfl | rfl | rfl | rfl | rfl | rfl | rfl | rfl | rfl | rfl <;> simp <;> by_cases h1 : x.A = t <;> simp [h1]
 ·simp [h]
def TempP (u : Bool) (n : Int) : Prop := (u = true → 0 ≤ n ∧ n < 400) ∧ (u = false → n = 0)
theorem temp_iff (u : Bool) (n : Int) : tree_temp.m u n = true ↔ TempP u n := by
 unfold tree_temp.m TempP
 cases u
 ·simp
 ·by_cases h1 : n ≥ 0 <;> by_cases h2 : n < 400 <;> simp [h1, h2] <;> omega
def wid (u : tree_uses) (x : api_Ins) : Int := if u.row = true then x.Len else 1
def PlP (u : tree_uses) (x : api_Ins) (l : List api_Loc) : Prop :=
 (u.place = true → (u.row = false → x.Len = 0) ∧ 1 ≤ wid u x ∧ 0 ≤ x.Loc ∧ x.Loc + wid u x ≤ l.length ∧ ∀ k : Int, x.Loc ≤ k → k < x.Loc + wid u x → (gi l k).Atomic = u.atomic) ∧ (u.place = false → x.Loc = 0 ∧ x.Len = 0)
theorem gi_part {α : Type} [Inhabited α] {l : List α} {o n : Nat} {i : Int} (h0 : 0 ≤ i) (h1 : i < n) : gi ((l.drop o).take n) i = gi l (o + i) := by
 unfold gi
 rw [List.getD_eq_getElem?_getD, List.getD_eq_getElem?_getD, List.getElem?_take, if_pos (by omega), List.getElem?_drop]
 congr 2; omega
theorem places_iff (u : tree_uses) (x : api_Ins) (l : List api_Loc) (hl : l.length ≤ 16) : Tot (fun b => b = true ↔ PlP u x l) (tree_places.m u x l) := by
 unfold tree_places.m PlP
 refine .ite (fun hp => ?_) fun hp => .ite (fun h => .some ?_) fun h => .some ?_
 ·refine .bind (R := fun o => match o with | .inl n => n = wid u x ∧ (u.row = false → x.Len = 0) | .inr _ => u.row = false ∧ x.Len ≠ 0) ?_ fun o ho => ?_
  ·unfold wid
   exact .ite (fun h => .some ⟨by rw [if_pos h], fun e => by rw [h] at e; cases e⟩) fun h => .ite (fun h2 => .some ⟨by rw [if_neg h], fun _ => h2⟩) fun h2 => .some ⟨by simpa using h, h2⟩
  cases o with
  | inr o => exact .some (by simp only [hp]; simp; intro h; exact absurd (h ho.1) ho.2)
  | inl n =>
   obtain ⟨hn, hlen⟩ := ho
   rw [← hn]
   refine .bind (R := fun b => (b = false ↔ 1 ≤ n ∧ n ≤ l.length ∧ 0 ≤ x.Loc ∧ x.Loc + n ≤ l.length)) ?_ fun b hb => ?_
   ·refine .ite (fun h1 => .some (by simp; omega)) fun h1 => .ite (fun h2 => .some (by simp; omega)) fun h2 => .ite (fun h3 => .some (by simp; omega)) fun h3 => .let fun v hv => ?_
    rw [wr64 (by omega)] at hv
    refine .some ?_
    rw [decide_eq_false_iff_not]; omega
   ·refine .ite (fun h => .some ?_) fun h => ?_
    ·simp only [hp]
     have : ¬ (1 ≤ n ∧ n ≤ l.length ∧ 0 ≤ x.Loc ∧ x.Loc + n ≤ l.length) := fun c => by have := hb.2 c; rw [h] at this; cases this
     simp; intro _ h1 h2 h3
     exact absurd ⟨h1, by omega, h2, h3⟩ this
    ·obtain ⟨b1, b2, b3, b4⟩ := hb.1 (by simpa using h)
     rw [wr64 (by omega)]
     refine Tot.gd (by omega) ?_
     refine Tot.let fun v hv => ?_
     have hvl : v.length = n.toNat := by rw [hv]; simp; omega
     have hvi : ∀ i : Nat, i < n.toNat → gi v i = gi l (x.Loc + i) := fun i hi => by
      rw [hv, gi_part (by omega) (by omega)]; congr 1; omega
     refine .bind (R := fun o => (o = .inr () ↔ ∀ k : Int, x.Loc ≤ k → k < x.Loc + n → (gi l k).Atomic = u.atomic)) ?_ fun o ho => ?_
     ·refine loop_T (f := tree_places.l1 u v) v.length (fun i s => s = (i : Int) ∧ ∀ j : Nat, j < i → (gi l (x.Loc + j)).Atomic = u.atomic) (fun i s hi hs => ?_) (fun s hs => ?_) ⟨rfl, fun j hj => by omega⟩
      ·obtain ⟨rfl, hs⟩ := hs
       unfold tree_places.l1
       refine .tt (by omega) ?_
       refine Tot.gd (by omega) ?_
       refine Tot.let fun w hw => ?_
       rw [hvi i (by omega)] at hw
       refine .ite (fun he => .some ⟨by rw [wr64 (by omega)]; rfl, fun j hj => ?_⟩) fun he => .some ?_
       ·by_cases e : j = i
        ·subst e; rw [← hw]; simpa using he
        ·exact hs j (by omega)
       ·simp only [reduceCtorEq, false_iff]
        intro c
        have := c (x.Loc + i) (by omega) (by omega)
        rw [← hw] at this
        exact he (by simpa using this)
      ·obtain ⟨rfl, hs⟩ := hs
       unfold tree_places.l1
       refine .ff (by omega) (.some ?_)
       simp only [true_iff]
       intro k h1 h2
       have := hs (k - x.Loc).toNat (by omega)
       rw [← this]; congr 1; congr 1; omega
     ·have key : ∀ c : Prop, (c ↔ ∀ k : Int, x.Loc ≤ k → k < x.Loc + n → (gi l k).Atomic = u.atomic) → (c ↔ (u.place = true → (u.row = false → x.Len = 0) ∧ 1 ≤ n ∧ 0 ≤ x.Loc ∧ x.Loc + n ≤ l.length ∧ ∀ k : Int, x.Loc ≤ k → k < x.Loc + n → (gi l k).Atomic = u.atomic) ∧ (u.place = false → x.Loc = 0 ∧ x.Len = 0)) := fun c hc => by
       rw [hc]
       constructor
       ·exact fun h => ⟨fun _ => ⟨hlen, b1, b3, b4, h⟩, fun e => by rw [hp] at e; cases e⟩
       ·exact fun h => (h.1 hp).2.2.2.2
      cases o with
      | inl o => exact .some (key _ (by rw [← ho]; simp))
      | inr o => exact .some (key _ (by rw [← ho]; simp))
 ·have hp : u.place = false := by simpa using hp
  simp [hp, h]
 ·have hp : u.place = false := by simpa using hp
  simp [hp, h]
structure PP (x : api_Ins) (i n : Int) (l : List api_Loc) : Prop where
 op : isOp x.Op = true
 d : TempP (sh x.Op).d x.D
 a : TempP (sh x.Op).a x.A
 b : TempP (sh x.Op).b x.B
 k : (sh x.Op).k = false → x.K = 0
 pl : PlP (sh x.Op) x l
 to1 : (sh x.Op).to_ = true → i + 1 < x.To ∧ x.To < n
 to0 : (sh x.Op).to_ = false → x.To = 0

def isP (code : List api_Ins) (k j : Nat) : Bool := decide (k + 1 = j ∧ (gi code k).Op ≠ 18) || ((sh (gi code k).Op).to_ && decide ((gi code k).To = (j : Int)))
def preds (code : List api_Ins) (i : Nat) : List Nat := (List.range i).filter fun k => isP code k i
inductive Anc (code : List api_Ins) : Nat → Nat → Prop
 | one {i k : Nat} (h : preds code i = [k]) : Anc code i k
 | step {i j k : Nat} (h : preds code i = [j]) (r : Anc code j k) : Anc code i k
theorem preds_lt {code : List api_Ins} {i k : Nat} {r : List Nat} (h : preds code i = k :: r) : k < i := by
 have : k ∈ preds code i := by rw [h]; simp
 exact List.mem_range.1 (List.mem_filter.1 this).1
theorem Anc.lt {code : List api_Ins} {i k : Nat} (h : Anc code i k) : k < i := by
 induction h with
 | one h => exact preds_lt h
 | step h _ ih => have := preds_lt h; omega
theorem Anc.iff {code : List api_Ins} {i p : Nat} (h : preds code i = [p]) (k : Nat) : Anc code i k ↔ p = k ∨ Anc code p k := by
 constructor
 ·intro c
  cases c with
  | one h' => rw [h] at h'; exact .inl (by simpa using h')
  | @step _ j _ h' r =>
   rw [h] at h'
   have e : p = j := by simpa using h'
   subst e
   exact .inr r
 ·rintro (rfl | c)
  ·exact .one h
  ·exact .step h c
def UA (code : List api_Ins) (i : Nat) (t : Int) : Prop := ∃ k, Anc code i k ∧ mks (gi code k) = true ∧ (gi code k).D = t
def AP (code : List api_Ins) (l : List api_Loc) (i : Nat) : Prop := PP (gi code i) i code.length l ∧ (mks (gi code i) = true → ∀ j : Nat, j < i → mks (gi code j) = true → (gi code j).D ≠ (gi code i).D)
def AW (code : List api_Ins) (i : Nat) : Prop := (0 < i → (preds code i).length = 1) ∧ ((sh (gi code i).Op).a = true → UA code i (gi code i).A) ∧ ((sh (gi code i).Op).b = true → UA code i (gi code i).B)
structure RP (code : List api_Ins) (l : List api_Loc) : Prop where
 n : 1 ≤ code.length ∧ code.length ≤ 400
 z : (gi code (code.length - 1)).Op = 18
 p : ∀ i : Nat, i < code.length → AP code l i
 w : ∀ i : Nat, i < code.length → AW code i
theorem RP.good {code : List api_Ins} {l : List api_Loc} (h : RP code l) : Good code code.length := fun i hi hm => by
 have := (h.p i hi).1.d.1 (by rw [← mks_sh]; exact hm)
 exact ⟨this.1, this.2, (h.p i hi).2 hm⟩
theorem last_T (code : List api_Ins) (h : code.length ≤ 400) : Tot (fun b => b = false ↔ (1 ≤ code.length ∧ code.length ≤ 400 ∧ (gi code (code.length - 1)).Op = 18)) (if (code.length : Int) < (1 : Int) then (some (true : Bool)) else (if (code.length : Int) > (400 : Int) then (some (true : Bool)) else (letC (wr .i64 ((code.length : Int) - (1 : Int))) fun v_8 => if 0 ≤ v_8 ∧ v_8 < (code.length : Int) then (letC (gi code v_8) fun v_10 => some ((!(decide (v_10.Op = (18 : Int)))) : Bool)) else none)) : Option Bool) := by
 refine .ite (fun h1 => .some (by simp; omega)) fun h1 => .ite (fun h2 => .some (by simp; omega)) fun h2 => ?_
 refine Tot.let fun v hv => ?_
 rw [wr64 (by omega)] at hv
 refine Tot.gd (by omega) ?_
 refine Tot.let fun w hw => ?_
 refine .some ?_
 subst hv hw
 have : 1 ≤ code.length := by omega
 simp [this, h]

def proc (code : List api_Ins) (i j : Nat) : List Nat := (List.range i).filter fun k => isP code k j
theorem proc_succ (code : List api_Ins) (i j : Nat) : proc code (i + 1) j = proc code i j ++ if isP code i j = true then [i] else [] := by
 unfold proc
 rw [List.range_succ, List.filter_append]
 congr 1
 by_cases h : isP code i j = true
 ·rw [if_pos h, List.filter_cons_of_pos (p := fun k => isP code k j) h]; rfl
 ·rw [if_neg h, List.filter_cons_of_neg (p := fun k => isP code k j) h]; rfl
theorem proc_len (code : List api_Ins) (i j : Nat) : (proc code i j).length ≤ i := by
 have := List.length_filter_le (fun k => isP code k j) (List.range i)
 simpa [proc] using this
theorem proc_preds {code : List api_Ins} {i : Nat} : ∀ {n : Nat}, i ≤ n → (∀ k : Nat, i ≤ k → k < n → isP code k i = false) → proc code n i = preds code i
 | n, h, hk => by
  induction n with
  | zero =>
   have : i = 0 := by omega
   subst this; rfl
  | succ n ih =>
   by_cases e : i = n + 1
   ·subst e; rfl
   ·rw [proc_succ, hk n (by omega) (by omega), ih (by omega) fun k h1 h2 => hk k h1 (by omega)]; simp
structure RJ (code : List api_Ins) (l : List api_Loc) (i : Nat) (s : (List Int) × (List Int) × (List (Int × Int))) : Prop where
 l1 : s.1.length = code.length
 l2 : s.2.1.length = code.length
 ap : ∀ j : Nat, j < i → AP code l j
 wy : ∀ j : Nat, j < code.length → gi s.1 j = (proc code i j).length
 fr : ∀ j : Nat, j < code.length → ∀ k : Nat, (proc code i j).getLast? = some k → gi s.2.1 j = (k : Int)
 m1 : ∀ t v, aget s.2.2 t = some v → ∃ j : Nat, j < i ∧ mks (gi code j) = true ∧ (gi code j).D = t ∧ v = (j : Int)
 m2 : ∀ j : Nat, j < i → mks (gi code j) = true → aget s.2.2 (gi code j).D ≠ none
theorem tree_l1 (code : List api_Ins) (l : List api_Loc) (hn : code.length ≤ 400) (hl : l.length ≤ 16) (h18 : (gi code (code.length - 1)).Op = 18) :
 Tot (fun o => match o with | .inl _ => ¬ ∀ i : Nat, i < code.length → AP code l i | .inr s => RJ code l code.length s) (loop (tree_Right.l1 code l) ((List.replicate code.length (0 : Int), List.replicate code.length (0 : Int), ([] : List (Int × Int)), 0) : (List Int) × (List Int) × (List (Int × Int)) × Int)) := by
 refine loop_T code.length (fun i s => RJ code l i (s.1, s.2.1, s.2.2.1) ∧ s.2.2.2 = (i : Int)) (fun i s hi hs => ?_) (fun s hs => ?_) ⟨⟨by simp, by simp, fun j hj => by omega, fun j hj => ?_, fun j hj k hk => (by simp [proc] at hk), fun t v h => (by cases h), fun j hj => by omega⟩, rfl⟩
 ·obtain ⟨w, f, m, k⟩ := s
  obtain ⟨hI, rfl⟩ := hs
  obtain ⟨c1, c2, c3, c4, c5, c6, c7⟩ := hI
  simp only [] at c1 c2 c3 c4 c5 c6 c7
  unfold tree_Right.l1
  dsimp only
  refine .tt (by omega) ?_
  refine Tot.gd (by omega) ?_
  refine Tot.let fun x hx => ?_
  refine Tot.let fun r hr => ?_
  have hsh : r.1 = sh x.Op := by rw [hr]; rfl
  have hop : r.2 = isOp x.Op := by rw [hr]; rfl
  refine .bind (R := fun b => b = false ↔ (isOp x.Op = true ∧ TempP (sh x.Op).d x.D ∧ TempP (sh x.Op).a x.A ∧ TempP (sh x.Op).b x.B ∧ ((sh x.Op).k = false → x.K = 0) ∧ PlP (sh x.Op) x l)) ?_ fun b1 hb1 => ?_
  ·simp only [letC]
   rw [hsh, hop]
   have hp := places_iff (sh x.Op) x l hl
   refine .ite (fun h0 => .ite (fun h1 => .ite (fun h2 => .ite (fun h3 => ?_) fun h3 => .some ?_) fun h2 => .some ?_) fun h1 => .some ?_) fun h0 => .some ?_
   ·rw [temp_iff] at h1 h2 h3
    refine .ite (fun h4 => .bind hp fun y hy => .some ?_) fun h4 => .ite (fun h5 => .bind hp fun y hy => .some ?_) fun h5 => .some ?_
    ·simp only [h0, h1, h2, h3, h4, true_and, ← hy]; cases y <;> simp
    ·simp only [h0, h1, h2, h3, h5, true_and, implies_true, ← hy]; cases y <;> simp
    ·simp [h0, h4, h5]
   ·rw [temp_iff] at h3; simp [h3]
   ·rw [temp_iff] at h2; simp [h2]
   ·rw [temp_iff] at h1; simp [h1]
   ·simp [h0]
  refine .ite (fun h => .some ?_) fun h => ?_
  ·simp only []
   intro c
   have p := (c i hi).1
   rw [← hx] at p
   have := hb1.2 ⟨p.op, p.d, p.a, p.b, p.k, p.pl⟩
   rw [h] at this; cases this
  obtain ⟨q1, q2, q3, q4, q5, q6⟩ := hb1.1 (by simpa using h)
  rw [hsh]
  refine .bind (R := fun b => b = false ↔ (((sh x.Op).to_ = true → (i : Int) + 1 < x.To ∧ x.To < code.length) ∧ ((sh x.Op).to_ = false → x.To = 0))) ?_ fun b2 hb2 => ?_
  ·refine .ite (fun h => ?_) fun h => .some ?_
   ·refine Tot.let fun v1 e1 => ?_
    rw [wr64 (by omega)] at e1
    refine .ite (fun h1 => .some ?_) fun h1 => .ite (fun h2 => .some ?_) fun h2 => .some ?_
    ·simp [h]; omega
    ·simp [h]; omega
    ·simp [h]; omega
   ·simp [h]
  refine .ite (fun h => .some ?_) fun h => ?_
  ·simp only []
   intro c
   have p := (c i hi).1
   rw [← hx] at p
   have := hb2.2 ⟨p.to1, p.to0⟩
   rw [h] at this; cases this
  obtain ⟨q7, q8⟩ := hb2.1 (by simpa using h)
  have hPP : PP (gi code i) i code.length l := by rw [← hx]; exact ⟨q1, q2, q3, q4, q5, q6, q7, q8⟩
  -- arrays
  let T : Nat → Prop := fun j => (sh x.Op).to_ = true ∧ x.To = (j : Int)
  have hP : ∀ j : Nat, isP code i j = true ↔ ((i + 1 = j ∧ x.Op ≠ 18) ∨ T j) := fun j => by
   unfold isP
   rw [← hx]
   simp [T]
  refine .bind (R := fun p : (List Int) × (List Int) => p.1.length = code.length ∧ p.2.length = code.length ∧ ∀ j : Nat, j < code.length → (T j → gi p.1 j = (proc code i j).length + 1 ∧ gi p.2 j = i) ∧ (¬ T j → gi p.1 j = (proc code i j).length ∧ gi p.2 j = gi f j)) ?_ fun p hp => ?_
  ·refine .ite (fun h => ?_) fun h => .some ⟨c1, c2, fun j hj => ⟨fun t => absurd t.1 h, fun _ => ⟨c4 j hj, rfl⟩⟩⟩
   have := q7 h
   refine Tot.gd (by omega) ?_
   refine Tot.gd (by omega) ?_
   refine Tot.let fun v1 e1 => ?_
   refine Tot.let fun v2 e2 => ?_
   refine Tot.gd (by omega) ?_
   refine Tot.let fun v3 e3 => ?_
   have hw := c4 x.To.toNat (by omega)
   rw [show ((x.To.toNat : Nat) : Int) = x.To by omega] at hw
   have hpl := proc_len code i x.To.toNat
   rw [hw] at e1
   rw [wr64 (by omega)] at e2
   refine .some ⟨by rw [e2]; simp [c1], by rw [e3]; simp [c2], fun j hj => ?_⟩
   rw [e2, e3]
   simp only []
   rw [gi_set (by omega) (by omega) (by omega), gi_set (by omega) (by omega) (by omega)]
   constructor
   ·intro t
    have : ((x.To.toNat : Nat) : Int) = (j : Int) := by have := t.2; omega
    rw [if_pos this, if_pos this, e1]
    have e : x.To.toNat = j := by omega
    rw [e]; exact ⟨rfl, rfl⟩
   ·intro t
    have : ¬ ((x.To.toNat : Nat) : Int) = (j : Int) := fun e => t ⟨h, by omega⟩
    rw [if_neg this, if_neg this]
    exact ⟨c4 j hj, rfl⟩
  obtain ⟨p1, p2, p3⟩ := hp
  have hlast : ¬ x.Op = 18 → (i : Int) + 1 < code.length := by
   intro hne
   rcases Nat.lt_or_ge (i + 1) code.length with c | c
   ·omega
   ·exfalso
    apply hne
    rw [hx, show ((i : Nat) : Int) = code.length - 1 by omega]
    exact h18
  refine .bind (R := fun p : (List Int) × (List Int) => p.1.length = code.length ∧ p.2.length = code.length ∧ ∀ j : Nat, j < code.length → (isP code i j = true → gi p.1 j = (proc code i j).length + 1 ∧ gi p.2 j = i) ∧ (¬ isP code i j = true → gi p.1 j = (proc code i j).length ∧ gi p.2 j = gi f j)) ?_ fun q hq => ?_
  ·refine .ite (fun h => .some ⟨p1, p2, fun j hj => ?_⟩) fun h => ?_
   ·have : isP code i j = true ↔ T j := by rw [hP]; simp [h]
    rw [this]; exact p3 j hj
   have := hlast h
   have hnT : ¬ T (i + 1) := fun t => by have := q7 t.1; have := t.2; omega
   refine Tot.let fun v1 e1 => ?_
   rw [wr64 (by omega)] at e1
   refine Tot.gd (by omega) ?_
   refine Tot.gd (by omega) ?_
   refine Tot.let fun v2 e2 => ?_
   refine Tot.let fun v3 e3 => ?_
   refine Tot.let fun v4 e4 => ?_
   rw [wr64 (by omega)] at e4
   refine Tot.gd (by omega) ?_
   refine Tot.gd (by omega) ?_
   refine Tot.let fun v5 e5 => ?_
   have hw := ((p3 (i + 1) (by omega)).2 hnT).1
   have hpl := proc_len code i (i + 1)
   rw [e1, show (i : Int) + 1 = ((i + 1 : Nat) : Int) by omega, hw] at e2
   rw [wr64 (by omega)] at e3
   refine .some ⟨by rw [e3]; simp [p1], by rw [e5]; simp [p2], fun j hj => ?_⟩
   rw [e3, e5, e1, e4]
   simp only []
   rw [gi_set (by omega) (by omega) (by omega), gi_set (by omega) (by omega) (by omega)]
   by_cases e : i + 1 = j
   ·have c : ((((i : Int) + 1).toNat : Nat) : Int) = (j : Int) := by omega
    rw [if_pos c, if_pos c, e2]
    subst e
    exact ⟨fun _ => ⟨rfl, rfl⟩, fun n => absurd ((hP _).2 (.inl ⟨rfl, h⟩)) n⟩
   ·have c : ¬ ((((i : Int) + 1).toNat : Nat) : Int) = (j : Int) := by omega
    rw [if_neg c, if_neg c]
    have : isP code i j = true ↔ T j := by rw [hP]; simp [e]
    rw [this]; exact p3 j hj
  obtain ⟨r1, r2, r3⟩ := hq
  have hmk : mks x = (sh x.Op).d := mks_sh x
  have wyN : ∀ j : Nat, j < code.length → gi q.1 j = (proc code (i + 1) j).length := fun j hj => by
   rw [proc_succ, List.length_append]
   by_cases h : isP code i j = true
   ·rw [if_pos h, ((r3 j hj).1 h).1]; simp
   ·rw [if_neg h, ((r3 j hj).2 h).1]; simp
  have frN : ∀ j : Nat, j < code.length → ∀ k : Nat, (proc code (i + 1) j).getLast? = some k → gi q.2 j = (k : Int) := fun j hj k hk => by
   rw [proc_succ] at hk
   by_cases h : isP code i j = true
   ·rw [if_pos h] at hk
    simp at hk; subst hk
    exact ((r3 j hj).1 h).2
   ·rw [if_neg h, List.append_nil] at hk
    rw [((r3 j hj).2 h).2]; exact c5 j hj k hk
  refine .ite (fun hd => ?_) fun hd => ?_
  ·cases hm : aget m x.D with
   | some v =>
    refine .some ?_
    simp only []
    intro c
    obtain ⟨j, hj, hmj, hD, _⟩ := c6 _ _ hm
    exact (c i hi).2 (by rw [← hx, hmk]; exact hd) j hj hmj (by rw [hD, hx])
   | none =>
    simp only []
    refine Tot.let fun v1 e1 => ?_
    refine Tot.let fun v2 e2 => ?_
    rw [wr64 (by omega)] at e2
    subst e1
    refine .some ⟨⟨r1, r2, fun j hj => ?_, wyN, frN, fun t v h => ?_, fun j hj hmj => ?_⟩, by simp only []; omega⟩
    ·by_cases e : j = i
     ·subst e
      refine ⟨hPP, fun _ k hk hmk e => ?_⟩
      have := c7 k hk hmk
      rw [e, ← hx, hm] at this
      exact this rfl
     ·exact c3 j (by omega)
    ·simp only [] at h
     rw [B.aget_aset] at h
     by_cases e : t = x.D
     ·rw [if_pos e] at h; cases h; exact ⟨i, by omega, by rw [← hx, hmk]; exact hd, by rw [← hx, e], rfl⟩
     ·rw [if_neg e] at h
      obtain ⟨j, hj, hv⟩ := c6 t v h
      exact ⟨j, by omega, hv⟩
    ·simp only []
     rw [B.aget_aset]
     by_cases e : (gi code j).D = x.D
     ·rw [if_pos e]; simp
     ·rw [if_neg e]
      have hji : j ≠ i := by rintro rfl; exact e (by rw [hx])
      exact c7 j (by omega) hmj
  ·refine Tot.let fun v1 e1 => ?_
   rw [wr64 (by omega)] at e1
   have hno : mks (gi code i) = false := by rw [← hx, hmk]; simpa using hd
   refine .some ⟨⟨r1, r2, fun j hj => ?_, wyN, frN, fun t v h => ?_, fun j hj hmj => ?_⟩, by simp only []; omega⟩
   ·by_cases e : j = i
    ·subst e; exact ⟨hPP, fun c => by rw [hno] at c; cases c⟩
    ·exact c3 j (by omega)
   ·obtain ⟨j, hj, hv⟩ := c6 t v h
    exact ⟨j, by omega, hv⟩
   ·have hji : j ≠ i := by rintro rfl; rw [hno] at hmj; cases hmj
    exact c7 j (by omega) hmj
 ·obtain ⟨w, f, m, k⟩ := s
  obtain ⟨hI, rfl⟩ := hs
  unfold tree_Right.l1
  refine .ff (by simp only []; omega) (.some hI)
 ·simp only []
  rw [gi_replicate (by omega) (by omega)]; rfl
theorem above_iff {code : List api_Ins} {l : List api_Loc} {s : (List Int) × (List Int) × (List (Int × Int))} (hn : code.length ≤ 400) (h : RJ code l code.length s) (hpr : ∀ i : Nat, i < code.length → proc code code.length i = preds code i) {i : Nat} (hi : i < code.length) (hw : ∀ j : Nat, 0 < j → j ≤ i → (preds code j).length = 1) (t : Int) :
 Tot (fun b => b = true ↔ UA code i t) (tree_above.m t (i : Int) s.2.2 s.2.1 code.length) := by
 unfold tree_above.m
 cases hm : aget s.2.2 t with
 | none =>
  refine .some ⟨fun e => (by cases e), fun ⟨k, hk, hmk, hD⟩ => ?_⟩
  have := hk.lt
  have := h.m2 k (by omega) hmk
  rw [hD, hm] at this
  exact absurd rfl this
 | some v =>
  obtain ⟨j, hj, hmj, hD, rfl⟩ := h.m1 t v hm
  have hua : UA code i t ↔ Anc code i j := by
   constructor
   ·rintro ⟨k, hk, hmk, hD'⟩
    have := hk.lt
    have : k = j := by
     rcases Nat.lt_trichotomy k j with c | c | c
     ·exact absurd (hD'.trans hD.symm) ((h.ap j hj).2 hmj k c hmk)
     ·exact c
     ·exact absurd (hD.trans hD'.symm) ((h.ap k (by omega)).2 hmk j c hmj)
    subst this; exact hk
   ·exact fun c => ⟨j, c, hmj, hD⟩
  have hl2 := h.l2
  have key : ∀ q : Nat, q ≤ i → Tot (fun o => o = .inl () ↔ Anc code q j) (loop (tree_above.l1 s.2.1 code.length (j : Int)) (q : Int)) := by
   intro q
   induction q using Nat.strongRecOn with
   | ind q ih =>
    intro hq
    rcases Nat.lt_or_ge j q with hlt | hge
    ·obtain ⟨p, hp⟩ : ∃ p, preds code q = [p] := by
      have := hw q (by omega) hq
      match preds code q, this with
      | [p], _ => exact ⟨p, rfl⟩
     have hpq := preds_lt hp
     have hfr := h.fr q (by omega) p (by rw [hpr q (by omega), hp]; rfl)
     have hf : tree_above.l1 s.2.1 code.length (j : Int) (q : Int) = if p = j then some (.inr (.inl ())) else some (.inl (p : Int)) := by
      unfold tree_above.l1
      rw [if_pos (by omega), if_pos (by omega), if_pos (by omega)]
      simp only [letC]
      rw [hfr]
      by_cases e : p = j
      ·rw [if_pos e, if_pos (by omega)]
      ·rw [if_neg e, if_neg (by omega)]
     by_cases e : p = j
     ·rw [if_pos e] at hf
      rw [loop_out hf]
      exact .some ⟨fun _ => (Anc.iff hp j).2 (.inl e), fun _ => rfl⟩
     ·rw [if_neg e] at hf
      rw [loop_in hf]
      refine (ih p hpq (by omega)).mono fun o ho => ?_
      rw [ho, Anc.iff hp]
      simp [e]
    ·rw [loop_out (o := .inr ()) (by unfold tree_above.l1; rw [if_neg (by omega)])]
     exact .some ⟨fun e => (by cases e), fun c => by have := c.lt; omega⟩
  refine .bind (key i (Nat.le_refl _)) fun o ho => ?_
  rw [hua, ← ho]
  cases o with
  | inl o => exact .some (by simp)
  | inr o => exact .some (by simp)
theorem tree_right (code : List api_Ins) (l : List api_Loc) (hn : code.length ≤ 400) (hl : l.length ≤ 16) : Tot (fun b => b = true ↔ RP code l) (tree_Right.m code l) := by
 unfold tree_Right.m
 refine .bind (last_T code hn) fun b hb => .ite (fun h => .some ⟨fun e => (by cases e), fun p => ?_⟩) fun h => ?_
 ·have := hb.2 ⟨p.n.1, p.n.2, p.z⟩; rw [h] at this; cases this
 obtain ⟨n1, n4, hz⟩ := hb.1 (by simpa using h)
 refine Tot.gd (by omega) ?_
 refine Tot.let fun v hv => ?_
 refine Tot.let fun w hw => ?_
 simp only [Int.toNat_natCast] at hv hw
 subst hv hw
 refine .bind (tree_l1 code l hn hl hz) fun o ho => ?_
 cases o with
 | inl o => exact .some ⟨fun e => (by cases e), fun p => absurd p.p ho⟩
 | inr s =>
  simp only [] at ho
  simp only [Int.toNat_natCast]
  have hpr : ∀ i : Nat, i < code.length → proc code code.length i = preds code i := fun i hi => proc_preds (by omega) fun k h1 h2 => by
   have p := (ho.ap k h2).1
   cases hp : isP code k i
   ·rfl
   ·unfold isP at hp
    simp only [Bool.or_eq_true, Bool.and_eq_true, decide_eq_true_eq] at hp
    rcases hp with c | c
    ·omega
    ·have := p.to1 c.1; omega
  have hl1 := ho.l1
  refine .bind (R := fun o => o = .inr () ↔ ∀ i : Nat, i < code.length → AW code i) ?_ fun o hoo => ?_
  ·refine loop_T code.length (fun i z => z.1 = code.length ∧ z.2 = (i : Int) ∧ ∀ j : Nat, j < i → AW code j) (fun i z hi hz => ?_) (fun z hz => ?_) ⟨rfl, rfl, fun j hj => by omega⟩
   ·obtain ⟨n, k⟩ := z
    obtain ⟨h0, rfl, hs⟩ := hz
    simp only [] at h0
    subst h0
    unfold tree_Right.l2
    dsimp only
    refine .tt (by omega) ?_
    refine Tot.gd (by omega) ?_
    refine Tot.let fun x hx => ?_
    refine .bind (R := fun b => b = false ↔ (0 < i → (preds code i).length = 1)) ?_ fun b hb => ?_
    ·refine .ite (fun h => ?_) fun h => .some ⟨fun _ c => by omega, fun _ => rfl⟩
     refine Tot.gd (by omega) ?_
     refine Tot.gd (by omega) ?_
     refine Tot.let fun v hv => ?_
     rw [ho.wy i hi, hpr i hi] at hv
     refine .some ?_
     simp only [Bool.not_eq_false', decide_eq_true_eq]
     exact ⟨fun c _ => by omega, fun c => by have := c (by omega); omega⟩
    refine .ite (fun h => .some ?_) fun h => ?_
    ·simp only [reduceCtorEq, false_iff]
     intro c
     have := hb.2 (c i hi).1
     rw [h] at this; cases this
    have h1 := hb.1 (by simpa using h)
    have hab := above_iff hn ho hpr hi (fun j j0 j1 => by
     by_cases e : j = i
     ·subst e; exact h1 j0
     ·exact (hs j (by omega)).1 j0)
    refine Tot.let fun r hr => ?_
    have hsh : r.1 = sh (gi code i).Op := by rw [hr, hx]; rfl
    rw [hsh, hx]
    refine .bind (R := fun b => b = false ↔ (((sh (gi code i).Op).a = true → UA code i (gi code i).A) ∧ ((sh (gi code i).Op).b = true → UA code i (gi code i).B))) ?_ fun b hb => ?_
    ·refine .ite (fun ha => .bind (hab _) fun y hy => .ite (fun h2 => .ite (fun hbb => .bind (hab _) fun z hz => .some ?_) fun hbb => .some ?_) fun h2 => .some ?_) fun ha => .ite (fun hbb => .bind (hab _) fun z hz => .some ?_) fun hbb => .some ?_
     ·have := hy.1 h2
      simp only [ha, hbb, this, true_and, forall_const, ← hz]; cases z <;> simp
     ·have := hy.1 h2
      simp [ha, hbb, this]
     ·have : ¬ UA code i (gi code i).A := fun c => h2 (hy.2 c)
      simp [ha, this]
     ·simp only [ha, hbb, true_and, forall_const, ← hz]; cases z <;> simp
     ·simp [ha, hbb]
    refine .ite (fun h => .some ?_) fun h => ?_
    ·simp only [reduceCtorEq, false_iff]
     intro c
     have := hb.2 ⟨(c i hi).2.1, (c i hi).2.2⟩
     rw [h] at this; cases this
    have h2 := hb.1 (by simpa using h)
    refine Tot.let fun v hv => ?_
    rw [wr64 (by omega)] at hv
    refine .some ⟨rfl, by simp only []; omega, fun j hj => ?_⟩
    by_cases e : j = i
    ·subst e; exact ⟨h1, h2.1, h2.2⟩
    ·exact hs j (by omega)
   ·obtain ⟨n, k⟩ := z
    obtain ⟨h0, rfl, hs⟩ := hz
    unfold tree_Right.l2
    exact .ff (by simp only []; omega) (.some (by simp only [true_iff]; exact hs))
  cases o with
  | inl o => exact .some ⟨fun e => (by cases e), fun p => by have := hoo.2 p.w; cases this⟩
  | inr o => exact .some ⟨fun _ => ⟨⟨n1, n4⟩, hz, ho.ap, hoo.1 rfl⟩, fun _ => rfl⟩
end Go.Proofs.Ytbhekpcimmaijaa.W
namespace Go.Proofs.Ytbhekpcimmaijaa.W
open Go Go.RowKit Go.Proofs.Ytbhekpcimmaijaa Go.Proofs.Ytbhekpcimmaijaa.X
open Go.Proofs.Ytbhekpcimmaijaa.B (wr aget aset loop loop_in loop_out loop_tot wrap16)

def ur (hm : List api_Home) (t sp : Int) : Int := if 0 ≤ (gi hm t).Reg then 14 + (gi hm t).Reg else sp
def ul (hm : List api_Home) (t sp : Int) : List api_Inst := if 0 ≤ (gi hm t).Reg then [] else [⟨10, sp, 1, 0, 8 * (gi hm t).Slot⟩]
def kp (hm : List api_Home) (t : Int) : List api_Inst := if 0 ≤ (gi hm t).Reg then [] else [⟨11, 11, 1, 0, 8 * (gi hm t).Slot⟩]
def mv (hm : List api_Home) (t : Int) : List api_Inst := if 0 ≤ (gi hm t).Reg then [⟨1, 14 + (gi hm t).Reg, 11, 0, 0⟩] else []
def num32 (r n : Int) : List api_Inst := [⟨2, r, 0, 0, wrap16 (n / 65536)⟩, ⟨3, r, r, 0, n % 65536⟩]
def num (r n : Int) : List api_Inst :=
 if -32768 ≤ n ∧ n ≤ 32767 then [⟨1, r, 0, 0, n⟩]
 else if n < -2147483648 ∨ 2147483648 ≤ n then num32 r (n / 4294967296) ++ [⟨5, r, r, 0, 32⟩, ⟨4, r, r, 0, n / 65536 % 65536⟩, ⟨3, r, r, 0, n % 65536⟩]
 else num32 r n
def cal (n : Int) : List api_Inst := [⟨1, 0, 0, 0, n⟩, ⟨23, 0, 0, 0, 0⟩]
def dcd (r : Int) : List api_Inst := [⟨16, 0, r, r, 0⟩, ⟨18, 3, 0, 0, 4⟩]
def bnd (r n : Int) : List api_Inst := [⟨17, 0, r, 0, 0⟩, ⟨18, 1, 0, 0, 12⟩, ⟨1, 0, 0, 0, 3⟩, ⟨23, 0, 0, 0, 0⟩, ⟨17, 0, r, 0, n⟩, ⟨18, 0, 0, 0, 12⟩, ⟨1, 0, 0, 0, 3⟩, ⟨23, 0, 0, 0, 0⟩, ⟨5, 12, r, 0, 3⟩]
def pc (hm : List api_Home) (x : api_Ins) (d : Int) : List api_Inst :=
 if x.Op = 1 then num (ur hm x.D 11) x.K ++ kp hm x.D
 else if x.Op = 2 then ul hm x.A 11 ++ (ul hm x.B 10 ++ (⟨6, ur hm x.D 11, ur hm x.A 11, ur hm x.B 10, 0⟩ :: kp hm x.D))
 else if x.Op = 3 then ul hm x.A 11 ++ (ul hm x.B 10 ++ (⟨7, ur hm x.D 11, ur hm x.B 10, ur hm x.A 11, 0⟩ :: kp hm x.D))
 else if x.Op = 4 then ul hm x.A 11 ++ (ul hm x.B 10 ++ (⟨8, ur hm x.D 11, ur hm x.A 11, ur hm x.B 10, 0⟩ :: kp hm x.D))
 else if x.Op = 5 then ul hm x.A 11 ++ (ul hm x.B 10 ++ (⟨17, 0, ur hm x.B 10, 0, 0⟩ :: ⟨18, 3, 0, 0, 12⟩ :: (cal 2 ++ (⟨9, ur hm x.D 11, ur hm x.A 11, ur hm x.B 10, 0⟩ :: kp hm x.D))))
 else if x.Op = 6 then ⟨10, ur hm x.D 11, 2, 0, 8 * x.Loc⟩ :: (dcd (ur hm x.D 11) ++ kp hm x.D)
 else if x.Op = 7 then ul hm x.A 11 ++ [⟨11, ur hm x.A 11, 2, 0, 8 * x.Loc⟩]
 else if x.Op = 13 then ul hm x.A 11 ++ (bnd (ur hm x.A 11) x.Len ++ (⟨1, 12, 12, 0, 8 * x.Loc⟩ :: ⟨12, ur hm x.D 11, 2, 12, 0⟩ :: (dcd (ur hm x.D 11) ++ kp hm x.D)))
 else if x.Op = 14 then ul hm x.A 11 ++ (bnd (ur hm x.A 11) x.Len ++ (⟨1, 12, 12, 0, 8 * x.Loc⟩ :: (ul hm x.B 10 ++ [⟨13, ur hm x.B 10, 2, 12, 0⟩])))
 else if x.Op = 15 then ul hm x.A 11 ++ (⟨1, 3, ur hm x.A 11, 0, 0⟩ :: cal 1)
 else if x.Op = 16 then ul hm x.A 11 ++ (ul hm x.B 10 ++ [⟨16, 0, ur hm x.A 11, ur hm x.B 10, 0⟩, ⟨18, 1, 0, 0, d⟩])
 else if x.Op = 17 then ul hm x.A 11 ++ (ul hm x.B 10 ++ [⟨16, 0, ur hm x.A 11, ur hm x.B 10, 0⟩, ⟨18, 3, 0, 0, d⟩])
 else if x.Op = 18 then cal 0
 else if x.Op = 8 then ⟨20, 0, 0, 0, 0⟩ :: ⟨10, ur hm x.D 11, 2, 0, 8 * x.Loc⟩ :: ⟨20, 0, 0, 0, 0⟩ :: kp hm x.D
 else if x.Op = 9 then ul hm x.A 10 ++ [⟨20, 0, 0, 0, 0⟩, ⟨11, ur hm x.A 10, 2, 0, 8 * x.Loc⟩, ⟨20, 0, 0, 0, 0⟩]
 else if x.Op = 10 then ul hm x.A 10 ++ (⟨1, 12, 0, 0, 8 * x.Loc⟩ :: ⟨20, 0, 0, 0, 0⟩ :: ⟨14, 11, 2, 12, 0⟩ :: ⟨15, ur hm x.A 10, 2, 12, 0⟩ :: ⟨18, 3, 0, 0, -8⟩ :: ⟨20, 0, 0, 0, 0⟩ :: (mv hm x.D ++ kp hm x.D))
 else if x.Op = 11 then ul hm x.A 10 ++ (⟨1, 12, 0, 0, 8 * x.Loc⟩ :: ⟨20, 0, 0, 0, 0⟩ :: ⟨14, 11, 2, 12, 0⟩ :: ⟨6, 9, 11, ur hm x.A 10, 0⟩ :: ⟨15, 9, 2, 12, 0⟩ :: ⟨18, 3, 0, 0, -12⟩ :: ⟨20, 0, 0, 0, 0⟩ :: (mv hm x.D ++ kp hm x.D))
 else ul hm x.A 10 ++ (ul hm x.B 9 ++ [⟨1, 12, 0, 0, 8 * x.Loc⟩, ⟨20, 0, 0, 0, 0⟩, ⟨14, 11, 2, 12, 0⟩, ⟨16, 0, 11, ur hm x.A 10, 0⟩, ⟨18, 3, 0, 0, 20⟩, ⟨15, ur hm x.B 9, 2, 12, 0⟩, ⟨18, 3, 0, 0, -16⟩, ⟨20, 0, 0, 0, 0⟩, ⟨19, 0, 0, 0, 12⟩, ⟨20, 0, 0, 0, 0⟩, ⟨19, 0, 0, 0, d⟩])
def isJ (x : api_Ins) : Bool := (sh x.Op).to_
def jl (hm : List api_Home) (x : api_Ins) (o : Int) : List emit_jump := if isJ x = true then [⟨o + (pc hm x 0).length - 1, x.To⟩] else []
structure HB (hm : List api_Home) (t : Int) : Prop where
 r : 0 ≤ t ∧ t < hm.length
 h : (0 ≤ (gi hm t).Reg ∧ (gi hm t).Reg < 8) ∨ ((gi hm t).Reg < 0 ∧ 0 ≤ (gi hm t).Slot ∧ (gi hm t).Slot < 400)
structure PB (hm : List api_Home) (x : api_Ins) : Prop where
 op : isOp x.Op = true
 d : (sh x.Op).d = true → HB hm x.D
 a : (sh x.Op).a = true → HB hm x.A
 b : (sh x.Op).b = true → HB hm x.B
 loc : 0 ≤ x.Loc ∧ x.Loc < 16
 len : 0 ≤ x.Len ∧ x.Len ≤ 16
 k : -9223372036854775808 ≤ x.K ∧ x.K < 9223372036854775808
theorem lo16 (n : Int) (h : -9223372036854775808 ≤ n ∧ n < 9223372036854775808) : bits .and .i64 n 65535 = n % 65536 := by
 have e : (BitVec.ofInt 64 n &&& BitVec.ofInt 64 65535).toNat = (n % 18446744073709551616).toNat % 65536 := by
  rw [BitVec.toNat_and, BitVec.toNat_ofInt, show (BitVec.ofInt 64 65535).toNat = 65535 from by decide]
  exact Nat.and_two_pow_sub_one_eq_mod _ 16
 show IntKind.i64.wrap ((BitVec.ofInt 64 n &&& BitVec.ofInt 64 65535).toNat : Int) = _
 rw [e, B.wrap_i64]
 unfold wrap64
 omega
section
variable {hm : List api_Home} {out : List api_Inst} {at_ : List Int} {js : List emit_jump}
theorem addE (op t a b i : Int) (h : out.length ≤ 10000) : emit_writer_add_12.m op t a b i hm hm.length out at_ js = some (out ++ [⟨op, t, a, b, i⟩]) := by
 unfold emit_writer_add_12.m
 rw [if_pos (by simp; omega)]
theorem targetE {t : Int} (h : HB hm t) : emit_writer_target_8.m t hm hm.length out at_ js = some (ur hm t 11) := by
 unfold emit_writer_target_8.m ur
 have := h.r; have := h.h
 rw [if_pos (by omega), if_pos (by omega)]
 by_cases c : 0 ≤ (gi hm t).Reg
 ·simp only [letC]; rw [if_pos c, if_pos c, wr64 (by omega)]
 ·simp only [letC]; rw [if_neg c, if_neg c]
theorem useE {t sp : Int} (h : HB hm t) (ho : out.length ≤ 10000) : emit_writer_use_8.m t sp hm hm.length out at_ js = some (out ++ ul hm t sp, ur hm t sp) := by
 unfold emit_writer_use_8.m ur ul
 have := h.r; have := h.h
 rw [if_pos (by omega), if_pos (by omega)]
 by_cases c : 0 ≤ (gi hm t).Reg
 ·simp only [letC]; rw [if_pos c, if_pos c, if_pos c, wr64 (by omega), List.append_nil]
 ·simp only [letC]; rw [if_neg c, if_neg c, if_neg c, wr64 (by omega), addE _ _ _ _ _ ho]; rfl
theorem keepE {t : Int} (h : HB hm t) (ho : out.length ≤ 10000) : emit_writer_keep_4.m t hm hm.length out at_ js = some (out ++ kp hm t) := by
 unfold emit_writer_keep_4.m kp
 have := h.r; have := h.h
 rw [if_pos (by omega), if_pos (by omega)]
 by_cases c : 0 ≤ (gi hm t).Reg
 ·simp only [letC]; rw [if_neg (by omega), if_pos c, List.append_nil]
 ·simp only [letC]; rw [if_pos (by omega), if_neg c, wr64 (by omega), addE _ _ _ _ _ ho]; rfl
theorem callE {n : Int} (ho : out.length ≤ 9990) : emit_writer_call_8.m n hm hm.length out at_ js = some (out ++ cal n) := by
 unfold emit_writer_call_8.m cal
 rw [addE _ _ _ _ _ (by omega), Option.bind_some, addE _ _ _ _ _ (by simp; omega), Option.bind_some, List.append_assoc]; rfl
theorem dcdE {r : Int} (ho : out.length ≤ 9990) : emit_writer_decided_4.m r hm hm.length out at_ js = some (out ++ dcd r) := by
 unfold emit_writer_decided_4.m dcd
 rw [addE _ _ _ _ _ (by omega), Option.bind_some, addE _ _ _ _ _ (by simp; omega), Option.bind_some, List.append_assoc]; rfl
theorem syncE (ho : out.length ≤ 9990) : emit_writer_sync_5.m hm hm.length out at_ js = some (out ++ [⟨20, 0, 0, 0, 0⟩]) := by
 unfold emit_writer_sync_5.m
 rw [addE _ _ _ _ _ (by omega), Option.bind_some]
theorem bndE {r n : Int} (ho : out.length ≤ 9980) : emit_writer_bounds_5.m r n hm hm.length out at_ js = some (out ++ bnd r n) := by
 unfold emit_writer_bounds_5.m bnd
 rw [addE _ _ _ _ _ (by omega), Option.bind_some, addE _ _ _ _ _ (by simp; omega), Option.bind_some, callE (by simp; omega), Option.bind_some, addE _ _ _ _ _ (by simp [cal]; omega), Option.bind_some,
  addE _ _ _ _ _ (by simp [cal]; omega), Option.bind_some, callE (by simp [cal]; omega), Option.bind_some, addE _ _ _ _ _ (by simp [cal]; omega), Option.bind_some]
 simp [cal]
theorem num32E {r n : Int} (h : -9223372036854775808 ≤ n ∧ n < 9223372036854775808) (ho : out.length ≤ 9990) : emit_writer_number32_4.m r n hm hm.length out at_ js = some (out ++ num32 r n) := by
 unfold emit_writer_number32_4.m num32
 simp only [letC]
 rw [addE _ _ _ _ _ (by omega), Option.bind_some, addE _ _ _ _ _ (by simp; omega), Option.bind_some, lo16 n h, List.append_assoc]
 have e1 : wr .i64 (wr .i16 (n / 2 ^ (min (16 : Int).toNat 64))) = wrap16 (n / 65536) := by
  show wrap64 (wrap16 (n / 65536)) = wrap16 (n / 65536)
  unfold wrap64 wrap16; omega
 rw [e1]; rfl
theorem numE {r n : Int} (h : -9223372036854775808 ≤ n ∧ n < 9223372036854775808) (ho : out.length ≤ 9980) : emit_writer_number_4.m r n hm hm.length out at_ js = some (out ++ num r n) := by
 unfold emit_writer_number_4.m num
 have e1 : (if n ≥ (-32768 : Int) then (some ((decide (n ≤ (32767 : Int))) : Bool)) else (some (false : Bool)) : Option Bool) = some (decide (-32768 ≤ n ∧ n ≤ 32767)) := by
  by_cases c : -32768 ≤ n <;> simp [c]
 have e2 : (if n < (-2147483648 : Int) then (some (true : Bool)) else (some ((decide (n ≥ (2147483648 : Int))) : Bool)) : Option Bool) = some (decide (n < -2147483648 ∨ 2147483648 ≤ n)) := by
  by_cases c : n < -2147483648 <;> simp [c]
 rw [e1, Option.bind_some]
 by_cases c1 : -32768 ≤ n ∧ n ≤ 32767
 ·rw [if_pos (by simpa using c1), if_pos c1, addE _ _ _ _ _ (by omega), Option.bind_some]
 ·rw [if_neg (by simpa using c1), if_neg c1, e2, Option.bind_some]
  by_cases c2 : n < -2147483648 ∨ 2147483648 ≤ n
  ·rw [if_pos (by simpa using c2), if_pos c2]
   have e3 : n / 2 ^ (min (32 : Int).toNat 64) = n / 4294967296 := rfl
   have e4 : n / 2 ^ (min (16 : Int).toNat 64) = n / 65536 := rfl
   simp only [letC]
   rw [e3, e4, num32E (by omega) (by omega), Option.bind_some, addE _ _ _ _ _ (by simp [num32]; omega), Option.bind_some, addE _ _ _ _ _ (by simp [num32]; omega), Option.bind_some, addE _ _ _ _ _ (by simp [num32]; omega), Option.bind_some, lo16 _ (by omega), lo16 _ h]
   simp [num32]
  ·rw [if_neg (by simpa using c2), if_neg c2, num32E h (by omega), Option.bind_some]
end

theorem ul_len (hm : List api_Home) (t sp : Int) : (ul hm t sp).length ≤ 1 := by unfold ul; split <;> simp
theorem kp_len (hm : List api_Home) (t : Int) : (kp hm t).length ≤ 1 := by unfold kp; split <;> simp
theorem mv_len (hm : List api_Home) (t : Int) : (mv hm t).length ≤ 1 := by unfold mv; split <;> simp
theorem num_len (r n : Int) : (num r n).length ≤ 5 := by unfold num num32; split <;> (try split) <;> simp
theorem sh_1 : sh 1 = ⟨true, false, false, true, false, false, false, false⟩ := rfl
theorem sh_2 : sh 2 = ⟨true, true, true, false, false, false, false, false⟩ := rfl
theorem sh_3 : sh 3 = ⟨true, true, true, false, false, false, false, false⟩ := rfl
theorem sh_4 : sh 4 = ⟨true, true, true, false, false, false, false, false⟩ := rfl
theorem sh_5 : sh 5 = ⟨true, true, true, false, false, false, false, false⟩ := rfl
theorem sh_6 : sh 6 = ⟨true, false, false, false, false, true, false, false⟩ := rfl
theorem sh_7 : sh 7 = ⟨false, true, false, false, false, true, false, false⟩ := rfl
theorem sh_8 : sh 8 = ⟨true, false, false, false, false, true, false, true⟩ := rfl
theorem sh_9 : sh 9 = ⟨false, true, false, false, false, true, false, true⟩ := rfl
theorem sh_10 : sh 10 = ⟨true, true, false, false, false, true, false, true⟩ := rfl
theorem sh_11 : sh 11 = ⟨true, true, false, false, false, true, false, true⟩ := rfl
theorem sh_12 : sh 12 = ⟨false, true, true, false, true, true, false, true⟩ := rfl
theorem sh_13 : sh 13 = ⟨true, true, false, false, false, true, true, false⟩ := rfl
theorem sh_14 : sh 14 = ⟨false, true, true, false, false, true, true, false⟩ := rfl
theorem sh_15 : sh 15 = ⟨false, true, false, false, false, false, false, false⟩ := rfl
theorem sh_16 : sh 16 = ⟨false, true, true, false, true, false, false, false⟩ := rfl
theorem sh_17 : sh 17 = ⟨false, true, true, false, true, false, false, false⟩ := rfl
theorem sh_18 : sh 18 = ⟨false, false, false, false, false, false, false, false⟩ := rfl
theorem isOp_c {op : Int} (h : isOp op = true) : op = 1 ∨ op = 2 ∨ op = 3 ∨ op = 4 ∨ op = 5 ∨ op = 6 ∨ op = 7 ∨ op = 8 ∨ op = 9 ∨ op = 10 ∨ op = 11 ∨ op = 12 ∨ op = 13 ∨ op = 14 ∨ op = 15 ∨ op = 16 ∨ op = 17 ∨ op = 18 := by
 rcases ops_c op with c | c
 ·exact c
 ·unfold isOp tree_shape.m letC at h
  simp [c] at h
theorem loc8 {n : Int} (h : 0 ≤ n ∧ n < 16) : wr .i64 (8 * n) = 8 * n := wr64 (by omega)
section
variable {hm : List api_Home} {out : List api_Inst} {at_ : List Int} {js : List emit_jump} {x : api_Ins}
theorem pieceE (hx : PB hm x) (ho : out.length ≤ 9900) (hj : js.length ≤ 1000) :
 emit_writer_piece_7.m x hm hm.length out at_ js = some (out ++ pc hm x 0, js ++ jl hm x out.length) := by
 have l1 := ul_len hm x.A 11; have l2 := ul_len hm x.B 10; have l3 := ul_len hm x.A 10; have l4 := ul_len hm x.B 9
 have l5 := kp_len hm x.D; have l6 := mv_len hm x.D; have l7 := num_len (ur hm x.D 11) x.K
 have hd := hx.d; have ha := hx.a; have hb := hx.b; have hk := hx.k; have hl := loc8 hx.loc
 rcases isOp_c hx.op with c | c | c | c | c | c | c | c | c | c | c | c | c | c | c | c | c | c
 all_goals
  rw [c] at hd ha hb
  simp only [sh_1, sh_2, sh_3, sh_4, sh_5, sh_6, sh_7, sh_8, sh_9, sh_10, sh_11, sh_12, sh_13, sh_14, sh_15, sh_16, sh_17, sh_18, forall_const, Bool.false_eq_true, false_implies] at hd ha hb
  unfold emit_writer_piece_7.m jl isJ pc
  simp only [c, sh_1, sh_2, sh_3, sh_4, sh_5, sh_6, sh_7, sh_8, sh_9, sh_10, sh_11, sh_12, sh_13, sh_14, sh_15, sh_16, sh_17, sh_18, Int.reduceEq, if_true, if_false, ↓reduceIte, Option.bind_some, decide_true, decide_false, Bool.false_eq_true]
  try unfold emit_writer_atomic_7.m
  try unfold emit_writer_reckon_7.m
  try unfold emit_writer_leave_4.m
  try simp only [c, Int.reduceEq, if_true, if_false, ↓reduceIte, Option.bind_some, decide_true, decide_false, Bool.false_eq_true]
  simp (disch := first | assumption | omega | (simp only [List.length_append, List.length_cons, List.length_nil, bnd, cal, dcd]; omega)) only [letC, hl, targetE, useE, keepE, callE, dcdE, syncE, bndE, numE, addE, Option.bind_some]
  first
  | done
  | (rw [if_pos hd.r, if_pos hd.r]; have hh := hd.h; unfold mv; by_cases c2 : 0 ≤ (gi hm x.D).Reg; (have w : wr .i64 (14 + (gi hm x.D).Reg) = 14 + (gi hm x.D).Reg := wr64 (by omega); simp (disch := first | assumption | omega | (simp only [List.length_append, List.length_cons, List.length_nil, bnd, cal, dcd]; omega)) only [ge_iff_le, if_pos c2, w, keepE, addE, Option.bind_some]; simp); (simp (disch := first | assumption | omega | (simp only [List.length_append, List.length_cons, List.length_nil, bnd, cal, dcd]; omega)) only [ge_iff_le, if_neg c2, keepE, addE, Option.bind_some]; simp))
  | (simp [cal, bnd, dcd]; done)
  | (simp [cal, bnd, dcd]; omega)
  | (rw [if_pos (by simp; omega)]; simp (disch := first | assumption | omega | (simp only [List.length_append, List.length_cons, List.length_nil, bnd, cal, dcd]; omega)) only [addE, Option.bind_some]; simp; try omega)
  | (simp only [List.length_cons, List.length_nil]; rw [if_pos (by omega)]; simp (disch := first | assumption | omega | (simp only [List.length_append, List.length_cons, List.length_nil, bnd, cal, dcd]; omega)) only [addE, Option.bind_some]; simp; try omega)
end

theorem gi_apl {α : Type} [Inhabited α] {l m : List α} {i : Int} (h0 : 0 ≤ i) (h : i < l.length) : gi (l ++ m) i = gi l i := by
 unfold gi
 rw [List.getD_eq_getElem?_getD, List.getD_eq_getElem?_getD, List.getElem?_append_left (by omega)]
theorem gi_apr {α : Type} [Inhabited α] {l m : List α} {i : Int} (h : l.length ≤ i) : gi (l ++ m) i = gi m (i - l.length) := by
 unfold gi
 rw [List.getD_eq_getElem?_getD, List.getD_eq_getElem?_getD, List.getElem?_append_right (by omega), show (i - (l.length : Int)).toNat = i.toNat - l.length by omega]
theorem gi_apa {α : Type} [Inhabited α] {l : List α} {x : α} {i : Int} (h : i = l.length) : gi (l ++ [x]) i = x := by
 rw [gi_apr (by omega), h, Int.sub_self]; rfl
theorem pc_d {hm : List api_Home} {x : api_Ins} (hx : isOp x.Op = true) (h : isJ x = false) (d : Int) : pc hm x d = pc hm x 0 := by
 rcases isOp_c hx with c | c | c | c | c | c | c | c | c | c | c | c | c | c | c | c | c | c
 all_goals
  simp only [isJ, c, sh_12, sh_16, sh_17, Bool.true_eq_false] at h
  try simp only [pc, c, Int.reduceEq, if_true, if_false, ↓reduceIte]
theorem pc_j {hm : List api_Home} {x : api_Ins} (hx : isOp x.Op = true) (h : isJ x = true) : ∃ ini op t, ∀ d, pc hm x d = ini ++ [⟨op, t, 0, 0, d⟩] := by
 rcases isOp_c hx with c | c | c | c | c | c | c | c | c | c | c | c | c | c | c | c | c | c
 all_goals
  first
  | (simp only [isJ, c, sh_1, sh_2, sh_3, sh_4, sh_5, sh_6, sh_7, sh_8, sh_9, sh_10, sh_11, sh_13, sh_14, sh_15, sh_18, Bool.false_eq_true] at h; done)
  | (simp only [pc, c, Int.reduceEq, if_true, if_false, ↓reduceIte]; first | exact ⟨ul hm x.A 11 ++ (ul hm x.B 10 ++ [⟨16, 0, ur hm x.A 11, ur hm x.B 10, 0⟩]), 18, _, fun d => by rw [List.append_assoc, List.append_assoc]; rfl⟩ | exact ⟨ul hm x.A 10 ++ (ul hm x.B 9 ++ [⟨1, 12, 0, 0, 8 * x.Loc⟩, ⟨20, 0, 0, 0, 0⟩, ⟨14, 11, 2, 12, 0⟩, ⟨16, 0, 11, ur hm x.A 10, 0⟩, ⟨18, 3, 0, 0, 20⟩, ⟨15, ur hm x.B 9, 2, 12, 0⟩, ⟨18, 3, 0, 0, -16⟩, ⟨20, 0, 0, 0, 0⟩, ⟨19, 0, 0, 0, 12⟩, ⟨20, 0, 0, 0, 0⟩]), 19, _, fun d => by rw [List.append_assoc, List.append_assoc]; rfl⟩)
theorem pc_len {hm : List api_Home} {x : api_Ins} (hx : isOp x.Op = true) (d : Int) : (pc hm x d).length = (pc hm x 0).length := by
 cases h : isJ x
 ·rw [pc_d hx h]
 ·obtain ⟨ini, op, t, e⟩ := pc_j (hm := hm) hx h
  rw [e, e]; simp
theorem pc_20 {hm : List api_Home} {x : api_Ins} (hx : isOp x.Op = true) : 1 ≤ (pc hm x 0).length ∧ (pc hm x 0).length ≤ 20 := by
 have l1 := ul_len hm x.A 11; have l2 := ul_len hm x.B 10; have l3 := ul_len hm x.A 10; have l4 := ul_len hm x.B 9
 have l5 := kp_len hm x.D; have l6 := mv_len hm x.D; have l7 := num_len (ur hm x.D 11) x.K
 have l8 : 1 ≤ (num (ur hm x.D 11) x.K).length := by unfold num num32; split <;> (try split) <;> simp
 rcases isOp_c hx with c | c | c | c | c | c | c | c | c | c | c | c | c | c | c | c | c | c
 all_goals
  simp only [pc, c, Int.reduceEq, if_true, if_false, ↓reduceIte, List.length_append, List.length_cons, List.length_nil, bnd, cal, dcd]
  omega
def emL (hm : List api_Home) (code : List api_Ins) : Nat → List api_Inst
 | 0 => []
 | i + 1 => emL hm code i ++ pc hm (gi code i) 0
def atN (hm : List api_Home) (code : List api_Ins) (i : Nat) : Nat := (emL hm code i).length
def atL (hm : List api_Home) (code : List api_Ins) : Nat → List Int
 | 0 => []
 | i + 1 => atL hm code i ++ [(atN hm code i : Int)]
def jsN (hm : List api_Home) (code : List api_Ins) : Nat → List emit_jump
 | 0 => []
 | i + 1 => jsN hm code i ++ jl hm (gi code i) (atN hm code i)
def dsp (hm : List api_Home) (code : List api_Ins) (i : Nat) : Int := 4 * ((atN hm code (gi code i).To.toNat : Int) - ((atN hm code i : Int) + (pc hm (gi code i) 0).length - 1))
def finN (hm : List api_Home) (code : List api_Ins) : Nat → List api_Inst
 | 0 => []
 | i + 1 => finN hm code i ++ pc hm (gi code i) (dsp hm code i)
def pt (ps : List Int) (out : List api_Inst) (g : emit_jump) : List api_Inst := out.set g.from_.toNat ⟨(gi out g.from_).Op, (gi out g.from_).T, (gi out g.from_).A, (gi out g.from_).B, 4 * (gi ps g.to_ - g.from_)⟩
section
variable {hm : List api_Home} {code : List api_Ins}
theorem atN_succ (i : Nat) : atN hm code (i + 1) = atN hm code i + (pc hm (gi code i) 0).length := by unfold atN; rw [emL, List.length_append]
theorem atL_len : ∀ n, (atL hm code n).length = n
 | 0 => rfl
 | n + 1 => by rw [atL, List.length_append, atL_len n]; rfl
theorem atL_gi : ∀ {n k : Nat}, k < n → gi (atL hm code n) (k : Int) = atN hm code k
 | n + 1, k, h => by
  rw [atL]
  by_cases c : k < n
  ·rw [gi_apl (by omega) (by rw [atL_len]; omega), atL_gi c]
  ·have : k = n := by omega
   subst this
   exact gi_apa (by rw [atL_len])
theorem atN_le (ho : ∀ i : Nat, i < code.length → isOp (gi code i).Op = true) : ∀ i, i ≤ code.length → atN hm code i ≤ 20 * i
 | 0, _ => Nat.le_refl _
 | i + 1, h => by
  have := atN_le ho i (by omega)
  have := (pc_20 (hm := hm) (ho i (by omega))).2
  rw [atN_succ]; omega
theorem atN_mono (i : Nat) : ∀ {k}, i ≤ k → atN hm code i ≤ atN hm code k
 | 0, h => by
  have : i = 0 := by omega
  subst this; exact Nat.le_refl _
 | k + 1, h => by
  by_cases c : i ≤ k
  ·have := atN_mono i c; rw [atN_succ]; omega
  ·have : i = k + 1 := by omega
   subst this; exact Nat.le_refl _
theorem finN_len (ho : ∀ i : Nat, i < code.length → isOp (gi code i).Op = true) : ∀ i, i ≤ code.length → (finN hm code i).length = atN hm code i
 | 0, _ => rfl
 | i + 1, h => by rw [finN, List.length_append, finN_len ho i (by omega), pc_len (ho i (by omega)), atN_succ]
theorem jsN_of : ∀ {i : Nat} {g : emit_jump}, g ∈ jsN hm code i → ∃ k : Nat, k < i ∧ isJ (gi code k) = true ∧ g = ⟨(atN hm code k : Int) + (pc hm (gi code k) 0).length - 1, (gi code k).To⟩
 | i + 1, g, h => by
  rw [jsN, List.mem_append] at h
  rcases h with h | h
  ·obtain ⟨k, hk, r⟩ := jsN_of h
   exact ⟨k, by omega, r⟩
  ·unfold jl at h
   split at h
   ·rename_i c
    exact ⟨i, by omega, c, by simpa using h⟩
   ·cases h
theorem jsN_len : ∀ i, (jsN hm code i).length ≤ i
 | 0 => Nat.le_refl _
 | i + 1 => by
  have := jsN_len i
  rw [jsN, List.length_append]
  unfold jl; split <;> simp <;> omega
theorem pt_app (ps : List Int) (out r : List api_Inst) (g : emit_jump) (h : 0 ≤ g.from_ ∧ g.from_ < out.length) : pt ps (out ++ r) g = pt ps out g ++ r := by
 unfold pt
 rw [gi_apl h.1 h.2, List.set_append_left _ _ (by omega)]
theorem pt_len (ps : List Int) (out : List api_Inst) (g : emit_jump) : (pt ps out g).length = out.length := by unfold pt; simp
theorem ptf_len (ps : List Int) : ∀ (J : List emit_jump) (out : List api_Inst), (J.foldl (pt ps) out).length = out.length
 | [], out => rfl
 | g :: J, out => by rw [List.foldl_cons, ptf_len ps J, pt_len]
theorem ptf_app (ps : List Int) : ∀ (J : List emit_jump) (out r : List api_Inst), (∀ g ∈ J, 0 ≤ g.from_ ∧ g.from_ < out.length) → J.foldl (pt ps) (out ++ r) = J.foldl (pt ps) out ++ r
 | [], out, r, h => rfl
 | g :: J, out, r, h => by
  rw [List.foldl_cons, List.foldl_cons, pt_app ps out r g (h g (by simp))]
  exact ptf_app ps J _ r fun g' hg' => by rw [pt_len]; exact h g' (by simp [hg'])
theorem js_from (ho : ∀ i : Nat, i < code.length → isOp (gi code i).Op = true) {i : Nat} (hi : i ≤ code.length) {g : emit_jump} (h : g ∈ jsN hm code i) : 0 ≤ g.from_ ∧ g.from_ < atN hm code i := by
 obtain ⟨k, hk, _, rfl⟩ := jsN_of h
 have := (pc_20 (hm := hm) (ho k (by omega))).1
 have h2 := atN_mono (hm := hm) (code := code) (k + 1) (k := i) (by omega)
 rw [atN_succ] at h2
 dsimp only
 omega
theorem fin_eq (ho : ∀ i : Nat, i < code.length → isOp (gi code i).Op = true) (ht : ∀ i : Nat, i < code.length → isJ (gi code i) = true → 0 ≤ (gi code i).To ∧ (gi code i).To < code.length) :
 ∀ i, i ≤ code.length → (jsN hm code i).foldl (pt (atL hm code code.length)) (emL hm code i) = finN hm code i
 | 0, _ => rfl
 | i + 1, h => by
  have hx := ho i (by omega)
  rw [jsN, List.foldl_append, emL, ptf_app _ _ _ _ (fun g hg => js_from ho (by omega) hg), fin_eq ho ht i (by omega), finN]
  unfold jl
  cases c : isJ (gi code i)
  ·rw [if_neg (by simp), pc_d hx c (dsp hm code i)]; rfl
  ·rw [if_pos rfl, List.foldl_cons, List.foldl_nil]
   have ⟨t0, t1⟩ := ht i (by omega) c
   obtain ⟨ini, op, t, e⟩ := pc_j (hm := hm) hx c
   have e1 : gi (atL hm code code.length) (gi code i).To = atN hm code (gi code i).To.toNat := by
    have := atL_gi (hm := hm) (code := code) (n := code.length) (k := (gi code i).To.toNat) (by omega)
    rwa [Int.toNat_of_nonneg t0] at this
   have hl := finN_len (hm := hm) ho i (by omega)
   have hp : (pc hm (gi code i) 0).length = ini.length + 1 := by rw [e]; simp
   unfold pt dsp
   dsimp only
   rw [e1, hp, e 0, e, ← List.append_assoc]
   have hq : ((atN hm code i : Int) + ((ini.length + 1 : Nat) : Int) - 1) = ((finN hm code i ++ ini).length : Int) := by rw [List.length_append, hl]; omega
   rw [hq, gi_apa rfl, Int.toNat_natCast, List.set_append_right _ _ (Nat.le_refl _), Nat.sub_self, List.append_assoc]
   rfl
end

def hmo (code : List api_Ins) (regs : Int) : List api_Home := (hs code regs code.length).out
def emo (code : List api_Ins) (regs : Int) : List api_Inst := finN (hmo code regs) code code.length
section
variable {code : List api_Ins} {l : List api_Loc} {regs : Int}
theorem made_HB (hr : 1 ≤ regs ∧ regs ≤ 8) (hn : code.length ≤ 400) (hg : Good code code.length) (h : HI code regs code.length (hs code regs code.length)) {j : Nat} (hj : j < code.length) (hm : mks (gi code j) = true) : HB (hmo code regs) (gi code j).D := by
 have h2 := h.o.o2 j hj hm
 have h3 := h.o.ye j hj hm
 have h4 := h.o.s0
 refine ⟨⟨(hg j hj hm).1, h2⟩, ?_⟩
 unfold hmo
 omega
theorem ua_HB (hr : 1 ≤ regs ∧ regs ≤ 8) (hn : code.length ≤ 400) (hg : Good code code.length) (h : HI code regs code.length (hs code regs code.length)) {i : Nat} (hi : i < code.length) {t : Int} (hu : UA code i t) : HB (hmo code regs) t := by
 obtain ⟨k, hk, hm, rfl⟩ := hu
 exact made_HB hr hn hg h (by have := hk.lt; omega) hm
theorem all_PB (hr : 1 ≤ regs ∧ regs ≤ 8) (hR : RP code l) (hl : l.length ≤ 16) (hk : ∀ x ∈ code, -9223372036854775808 ≤ x.K ∧ x.K < 9223372036854775808) (h : HI code regs code.length (hs code regs code.length)) {i : Nat} (hi : i < code.length) : PB (hmo code regs) (gi code i) := by
 have hp := (hR.p i hi).1
 have hw := hR.w i hi
 have hn := hR.n.2
 have hq : (0 ≤ (gi code i).Loc ∧ (gi code i).Loc < 16) ∧ (0 ≤ (gi code i).Len ∧ (gi code i).Len ≤ 16) := by
  have hpl := hp.pl
  unfold PlP at hpl
  cases c : (sh (gi code i).Op).place
  ·have := hpl.2 c; omega
  ·have ⟨h1, h2, h3, h4, _⟩ := hpl.1 c
   unfold wid at h2 h4
   cases c2 : (sh (gi code i).Op).row
   ·have := h1 c2
    rw [c2] at h2 h4
    simp at h2 h4
    omega
   ·rw [c2] at h2 h4
    simp at h2 h4
    omega
 exact ⟨hp.op, fun c => made_HB hr hn hR.good h hi (by rw [mks_sh]; exact c), fun c => ua_HB hr hn hR.good h hi (hw.2.1 c), fun c => ua_HB hr hn hR.good h hi (hw.2.2 c), hq.1, hq.2, hk _ (gi_mem (by omega) (by omega))⟩
theorem homes_R (hn : code.length ≤ 400) (hl : l.length ≤ 16) :
 (∃ e : Int, (e = 1 ∨ e = 3) ∧ alloc_Homes.m code l regs = some (.inl e)) ∨
 (RP code l ∧ (1 ≤ regs ∧ regs ≤ 8) ∧ HI code regs code.length (hs code regs code.length) ∧ alloc_Homes.m code l regs = some (.inr (hmo code regs, (hmo code regs).length))) := by
 obtain ⟨r, e, h⟩ := homes_T code l regs hn hl
 obtain ⟨b, hb, hb2⟩ := tree_right code l hn hl
 cases r with
 | inl z => exact .inl ⟨z, h, e⟩
 | inr z =>
  obtain ⟨hg, r1, r2, rfl, hi⟩ := h
  refine .inr ⟨?_, ⟨r1, r2⟩, hi, e⟩
  cases b with
  | true => exact hb2.1 rfl
  | false =>
   unfold alloc_Homes.m at e
   rw [hb, Option.bind_some, if_neg (by simp)] at e
   cases e
theorem l3_loop (hn : code.length ≤ 400) (hp : ∀ i : Nat, i < code.length → PB (hmo code regs) (gi code i)) :
 loop (emit_Emit.l3 code (hmo code regs, (hmo code regs).length)) ((([] : List api_Inst), ([] : List Int), ([] : List emit_jump), 0) : (List api_Inst) × (List Int) × (List emit_jump) × Int) =
  some (emL (hmo code regs) code code.length, atL (hmo code regs) code code.length, jsN (hmo code regs) code code.length) := by
 refine loop_st (f := emit_Emit.l3 code (hmo code regs, (hmo code regs).length)) code.length (fun i => (emL (hmo code regs) code i, atL (hmo code regs) code i, jsN (hmo code regs) code i, (i : Int))) _ (fun i hi => ?_) ?_
 ·unfold emit_Emit.l3
  dsimp only
  have ho : ∀ i : Nat, i < code.length → isOp (gi code i).Op = true := fun i hi => (hp i hi).op
  have h1 := atN_le (hm := hmo code regs) ho i (by omega)
  have h2 := jsN_len (hm := hmo code regs) (code := code) i
  have h3 := atL_len (hm := hmo code regs) (code := code) i
  rw [if_pos (by omega), if_pos (by omega)]
  simp only [letC]
  rw [if_pos (by simp only [List.length_cons, List.length_nil]; omega), pieceE (hp i hi) (by unfold atN at h1; omega) (by omega), Option.bind_some, wr64 (by omega)]
  rfl
 ·unfold emit_Emit.l3
  dsimp only
  rw [if_neg (by omega)]
theorem l4_loop (hn : code.length ≤ 400) (hp : ∀ i : Nat, i < code.length → PB (hmo code regs) (gi code i)) (ht : ∀ i : Nat, i < code.length → isJ (gi code i) = true → 0 ≤ (gi code i).To ∧ (gi code i).To < code.length) :
 loop (emit_Emit.l4 (emL (hmo code regs) code code.length, atL (hmo code regs) code code.length, jsN (hmo code regs) code code.length)) ((emL (hmo code regs) code code.length, 0) : (List api_Inst) × Int) = some (emo code regs) := by
 have ho : ∀ i : Nat, i < code.length → isOp (gi code i).Op = true := fun i hi => (hp i hi).op
 have hf := fin_eq (hm := hmo code regs) ho ht code.length (Nat.le_refl _)
 have hjl := jsN_len (hm := hmo code regs) (code := code) code.length
 generalize hhm : hmo code regs = hm at *
 generalize hJ : jsN hm code code.length = J at *
 refine loop_st (f := emit_Emit.l4 (emL hm code code.length, atL hm code code.length, J)) J.length (fun j => ((J.take j).foldl (pt (atL hm code code.length)) (emL hm code code.length), (j : Int))) _ (fun j hj => ?_) ?_
 ·unfold emit_Emit.l4
  dsimp only
  have hmem : gi J (j : Int) ∈ jsN hm code code.length := by rw [hJ]; exact gi_mem (by omega) (by omega)
  obtain ⟨k, hk, hkj, hg⟩ := jsN_of hmem
  have hfr := js_from ho (Nat.le_refl _) hmem
  have ⟨t0, t1⟩ := ht k hk hkj
  have h3 := atL_len (hm := hm) (code := code) code.length
  have hto : (gi J (j : Int)).to_ = (gi code k).To := by rw [hg]
  have hlen : ((J.take j).foldl (pt (atL hm code code.length)) (emL hm code code.length)).length = atN hm code code.length := by rw [ptf_len]; rfl
  have hal := atN_le (hm := hm) ho code.length (Nat.le_refl _)
  have e1 : gi (atL hm code code.length) (gi J (j : Int)).to_ = atN hm code (gi code k).To.toNat := by
   have := atL_gi (hm := hm) (code := code) (n := code.length) (k := (gi code k).To.toNat) (by omega)
   rw [Int.toNat_of_nonneg t0] at this; rw [hto]; exact this
  have hml := atN_mono (hm := hm) (code := code) (gi code k).To.toNat (k := code.length) (by omega)
  have hel : (emL hm code code.length).length = atN hm code code.length := rfl
  have g1 : (j : Int) < (J.length : Int) := by omega
  have g2 : 0 ≤ (j : Int) ∧ (j : Int) < (J.length : Int) := by omega
  have w1 : wr .i64 ((atN hm code (gi code k).To.toNat : Int) - (gi J (j : Int)).from_) = (atN hm code (gi code k).To.toNat : Int) - (gi J (j : Int)).from_ := wr64 (by omega)
  have w2 : wr .i64 (4 * ((atN hm code (gi code k).To.toNat : Int) - (gi J (j : Int)).from_)) = 4 * ((atN hm code (gi code k).To.toNat : Int) - (gi J (j : Int)).from_) := wr64 (by omega)
  have w3 : wr .i64 ((j : Int) + 1) = ((j + 1 : Nat) : Int) := wr64 (by omega)
  rw [if_pos g1, if_pos g2]
  simp only [letC]
  rw [if_pos (by rw [hto, h3]; exact ⟨t0, t1⟩), if_pos (by rw [hel]; exact hfr), if_pos (by rw [hlen]; exact hfr), e1, w1, w2, w3, take_succ' hj, List.foldl_append]
  simp only [List.foldl_cons, List.foldl_nil, pt, e1]
 ·unfold emit_Emit.l4
  dsimp only
  rw [if_neg (by omega), List.take_length, hf]
  unfold emo
  rw [hhm]
theorem emit_R (hn : code.length ≤ 400) (hl : l.length ≤ 16) (hk : ∀ x ∈ code, -9223372036854775808 ≤ x.K ∧ x.K < 9223372036854775808) (c : Nat) :
 (∃ e : Int, (e = 1 ∨ e = 3) ∧ alloc_Homes.m code l regs = some (.inl e) ∧ emit_Emit.m l regs code c = some (.inr (.inl e))) ∨
 (RP code l ∧ (1 ≤ regs ∧ regs ≤ 8) ∧ HI code regs code.length (hs code regs code.length) ∧ (∀ i : Nat, i < code.length → PB (hmo code regs) (gi code i)) ∧ alloc_Homes.m code l regs = some (.inr (hmo code regs, (hmo code regs).length)) ∧
  emit_Emit.m l regs code c = some (.inr (.inr (emo code regs, (emo code regs).length)))) := by
 unfold emit_Emit.m
 rcases homes_R (code := code) (l := l) (regs := regs) hn hl with ⟨e, he, h⟩ | ⟨hR, hr, hi, h⟩
 ·refine .inl ⟨e, he, h, ?_⟩
  rw [h, Option.bind_some]
  dsimp only
  rw [if_neg (by omega)]
 ·have hp : ∀ i : Nat, i < code.length → PB (hmo code regs) (gi code i) := fun i h' => all_PB hr hR hl hk hi h'
  refine .inr ⟨hR, hr, hi, hp, h, ?_⟩
  rw [h, Option.bind_some]
  dsimp only
  have ho : ∀ i : Nat, i < code.length → isOp (gi code i).Op = true := fun i hi => (hp i hi).op
  rw [l3_loop hn hp, Option.bind_some, l4_loop hn hp (fun i hi hj => by have := (hR.p i hi).1.to1 hj; omega), Option.bind_some]
  have := finN_len (hm := hmo code regs) ho code.length (Nat.le_refl _)
  unfold emo
  rw [this]; rfl
end

def EncI (y : api_Inst) : Prop := Tot (fun r => r.2 = 0) (isa_Encode.m y)
def OkI (y : api_Inst) : Prop := (0 ≤ y.T ∧ y.T < 32) ∧ (0 ≤ y.A ∧ y.A < 32) ∧ (0 ≤ y.B ∧ y.B < 32) ∧
 (((y.Op = 1 ∨ y.Op = 2) ∧ y.B = 0 ∧ -32768 ≤ y.Imm ∧ y.Imm ≤ 32767) ∨ ((y.Op = 3 ∨ y.Op = 4) ∧ y.B = 0 ∧ 0 ≤ y.Imm ∧ y.Imm ≤ 65535) ∨ (y.Op = 5 ∧ y.B = 0 ∧ 0 ≤ y.Imm ∧ y.Imm ≤ 63) ∨
  ((y.Op = 6 ∨ y.Op = 7 ∨ y.Op = 8 ∨ y.Op = 9 ∨ y.Op = 12 ∨ y.Op = 13 ∨ y.Op = 14 ∨ y.Op = 15) ∧ y.Imm = 0) ∨
  ((y.Op = 10 ∨ y.Op = 11) ∧ y.B = 0 ∧ -32768 ≤ y.Imm ∧ y.Imm ≤ 32764 ∧ y.Imm % 4 = 0) ∨ (y.Op = 16 ∧ y.T = 0 ∧ y.Imm = 0) ∨ (y.Op = 17 ∧ y.T = 0 ∧ y.B = 0 ∧ -32768 ≤ y.Imm ∧ y.Imm ≤ 32767) ∨
  (y.Op = 18 ∧ y.T ≤ 3 ∧ y.A = 0 ∧ y.B = 0 ∧ -32768 ≤ y.Imm ∧ y.Imm ≤ 32764 ∧ y.Imm % 4 = 0) ∨ (y.Op = 19 ∧ y.T = 0 ∧ y.A = 0 ∧ y.B = 0 ∧ -33554432 ≤ y.Imm ∧ y.Imm ≤ 33554428 ∧ y.Imm % 4 = 0) ∨
  ((y.Op = 20 ∨ y.Op = 21 ∨ y.Op = 22 ∨ y.Op = 23) ∧ y.T = 0 ∧ y.A = 0 ∧ y.B = 0 ∧ y.Imm = 0))
theorem enc_of {y : api_Inst} {f : Int} (hf : (isa_formOf.m y.Op).1 = f) (hc : isa_check.m f y = some 0) : EncI y := by
 unfold EncI isa_Encode.m
 refine .let fun r hr => ?_
 rw [← hr] at hf
 rw [hf]
 refine .bindE hc (.tt rfl ?_)
 simp only [letC]
 refine .bind (R := fun _ => True) ?_ fun o _ => .some rfl
 repeat' first | exact .some trivial | refine .ite (fun _ => ?_) fun _ => ?_
theorem reg_ok {n : Int} (h : 0 ≤ n ∧ n < 32) : isa_reg.m n = true := by
 unfold isa_reg.m
 rw [if_pos (by omega)]; exact decide_eq_true h.2
theorem tmod4 {n : Int} (h : n % 4 = 0) : Int.tmod n 4 = 0 := Int.tmod_eq_zero_of_dvd (Int.dvd_of_emod_eq_zero h)
theorem enc_ok {y : api_Inst} (h : OkI y) : EncI y := by
 obtain ⟨hT, hA, hB, h⟩ := h
 have r0 : isa_reg.m 0 = true := rfl
 have rT := reg_ok hT; have rA := reg_ok hA; have rB := reg_ok hB
 rcases h with ⟨ho, h⟩ | ⟨ho, h⟩ | ⟨ho, h⟩ | ⟨ho, h⟩ | ⟨ho, h⟩ | ⟨ho, h⟩ | ⟨ho, h⟩ | ⟨ho, h⟩ | ⟨ho, h⟩ | ⟨ho, h⟩
 ·refine enc_of (f := 1) (by rcases ho with c | c <;> rw [c] <;> rfl) ?_
  unfold isa_check.m; simp only [isa_used.m, letC]
  have n1 : ¬ y.Imm < -32768 := by omega
  have n2 : ¬ 32767 < y.Imm := by omega
  simp [r0, n1, n2, rT, rA, rB, h]
 ·refine enc_of (f := 2) (by rcases ho with c | c <;> rw [c] <;> rfl) ?_
  unfold isa_check.m; simp only [isa_used.m, letC]
  have n1 : ¬ y.Imm < 0 := by omega
  have n2 : ¬ 65535 < y.Imm := by omega
  simp [r0, n1, n2, rT, rA, rB, h]
 ·refine enc_of (f := 3) (by rw [ho]; rfl) ?_
  unfold isa_check.m; simp only [isa_used.m, letC]
  have n1 : ¬ y.Imm < 0 := by omega
  have n2 : ¬ 63 < y.Imm := by omega
  simp [r0, n1, n2, rT, rA, rB, h]
 ·refine enc_of (f := 4) (by rcases ho with c | c | c | c | c | c | c | c <;> rw [c] <;> rfl) ?_
  unfold isa_check.m; simp only [isa_used.m, letC]
  simp [rT, rA, rB, h]
 ·have := tmod4 h.2.2.2
  refine enc_of (f := 5) (by rcases ho with c | c <;> rw [c] <;> rfl) ?_
  unfold isa_check.m; simp only [isa_used.m, letC]
  have n1 : ¬ y.Imm < -32768 := by omega
  have n2 : ¬ 32764 < y.Imm := by omega
  simp [r0, n1, n2, rT, rA, rB, h, this]
 ·refine enc_of (f := 6) (by rw [ho]; rfl) ?_
  unfold isa_check.m; simp only [isa_used.m, letC]
  rw [h.1] at rT
  simp [rT, rA, rB, h]
 ·refine enc_of (f := 7) (by rw [ho]; rfl) ?_
  unfold isa_check.m; simp only [isa_used.m, letC]
  rw [h.1] at rT
  have n1 : ¬ y.Imm < -32768 := by omega
  have n2 : ¬ 32767 < y.Imm := by omega
  simp [r0, n1, n2, rT, rA, rB, h]
 ·have := tmod4 h.2.2.2.2.2
  refine enc_of (f := 8) (by rw [ho]; rfl) ?_
  unfold isa_check.m; simp only [isa_used.m, letC]
  rw [h.2.1] at rA
  have n1 : ¬ y.Imm < -32768 := by omega
  have n2 : ¬ 32764 < y.Imm := by omega
  have n3 : ¬ y.T < 0 := by omega
  have n4 : ¬ 3 < y.T := by omega
  simp [r0, n1, n2, n3, n4, rT, rA, rB, h, this]
 ·have := tmod4 h.2.2.2.2.2
  refine enc_of (f := 9) (by rw [ho]; rfl) ?_
  unfold isa_check.m; simp only [isa_used.m, letC]
  rw [h.1] at rT
  have n1 : ¬ y.Imm < -33554432 := by omega
  have n2 : ¬ 33554428 < y.Imm := by omega
  simp [r0, n1, n2, rT, rA, rB, h, this]
 ·refine enc_of (f := 10) (by rcases ho with c | c | c | c <;> rw [c] <;> rfl) ?_
  unfold isa_check.m; simp only [isa_used.m, letC]
  rw [h.1] at rT
  simp [rT, rA, rB, h]
theorem z32 : 0 ≤ (0 : Int) ∧ (0 : Int) < 32 := by decide
section
variable {op t a b i : Int}
theorem kS (ho : op = 1 ∨ op = 2) (ht : 0 ≤ t ∧ t < 32) (ha : 0 ≤ a ∧ a < 32) (hi : -32768 ≤ i ∧ i ≤ 32767) : OkI ⟨op, t, a, 0, i⟩ := ⟨ht, ha, z32, .inl ⟨ho, rfl, hi⟩⟩
theorem kL (ho : op = 3 ∨ op = 4) (ht : 0 ≤ t ∧ t < 32) (ha : 0 ≤ a ∧ a < 32) (hi : 0 ≤ i ∧ i ≤ 65535) : OkI ⟨op, t, a, 0, i⟩ := ⟨ht, ha, z32, .inr (.inl ⟨ho, rfl, hi⟩)⟩
theorem kF (ho : op = 5) (ht : 0 ≤ t ∧ t < 32) (ha : 0 ≤ a ∧ a < 32) (hi : 0 ≤ i ∧ i ≤ 63) : OkI ⟨op, t, a, 0, i⟩ := ⟨ht, ha, z32, .inr (.inr (.inl ⟨ho, rfl, hi⟩))⟩
theorem kT (ho : op = 6 ∨ op = 7 ∨ op = 8 ∨ op = 9 ∨ op = 12 ∨ op = 13 ∨ op = 14 ∨ op = 15) (ht : 0 ≤ t ∧ t < 32) (ha : 0 ≤ a ∧ a < 32) (hb : 0 ≤ b ∧ b < 32) : OkI ⟨op, t, a, b, 0⟩ := ⟨ht, ha, hb, .inr (.inr (.inr (.inl ⟨ho, rfl⟩)))⟩
theorem kD (ho : op = 10 ∨ op = 11) (ht : 0 ≤ t ∧ t < 32) (ha : 0 ≤ a ∧ a < 32) (hi : -32768 ≤ i ∧ i ≤ 32764 ∧ i % 4 = 0) : OkI ⟨op, t, a, 0, i⟩ := ⟨ht, ha, z32, .inr (.inr (.inr (.inr (.inl ⟨ho, rfl, hi⟩))))⟩
theorem kH (ho : op = 16) (ha : 0 ≤ a ∧ a < 32) (hb : 0 ≤ b ∧ b < 32) : OkI ⟨op, 0, a, b, 0⟩ := ⟨z32, ha, hb, .inr (.inr (.inr (.inr (.inr (.inl ⟨ho, rfl, rfl⟩)))))⟩
theorem kI (ho : op = 17) (ha : 0 ≤ a ∧ a < 32) (hi : -32768 ≤ i ∧ i ≤ 32767) : OkI ⟨op, 0, a, 0, i⟩ := ⟨z32, ha, z32, .inr (.inr (.inr (.inr (.inr (.inr (.inl ⟨ho, rfl, rfl, hi⟩))))))⟩
theorem kB (ho : op = 18) (ht : 0 ≤ t ∧ t ≤ 3) (hi : -32768 ≤ i ∧ i ≤ 32764 ∧ i % 4 = 0) : OkI ⟨op, t, 0, 0, i⟩ := ⟨⟨ht.1, by have := ht.2; dsimp only; omega⟩, z32, z32, .inr (.inr (.inr (.inr (.inr (.inr (.inr (.inl ⟨ho, ht.2, rfl, rfl, hi⟩)))))))⟩
theorem kJ (ho : op = 19) (hi : -33554432 ≤ i ∧ i ≤ 33554428 ∧ i % 4 = 0) : OkI ⟨op, 0, 0, 0, i⟩ := ⟨z32, z32, z32, .inr (.inr (.inr (.inr (.inr (.inr (.inr (.inr (.inl ⟨ho, rfl, rfl, rfl, hi⟩))))))))⟩
theorem kO (ho : op = 20 ∨ op = 21 ∨ op = 22 ∨ op = 23) : OkI ⟨op, 0, 0, 0, 0⟩ := ⟨z32, z32, z32, .inr (.inr (.inr (.inr (.inr (.inr (.inr (.inr (.inr ⟨ho, rfl, rfl, rfl, rfl⟩))))))))⟩
end
def AllE (ys : List api_Inst) : Prop := ∀ y ∈ ys, OkI y
theorem AllE.nil : AllE [] := fun y h => by cases h
theorem AllE.cons {y : api_Inst} {ys : List api_Inst} (h : OkI y) (k : AllE ys) : AllE (y :: ys) := fun z hz => by
 rcases List.mem_cons.1 hz with rfl | c
 ·exact h
 ·exact k z c
theorem AllE.app {xs ys : List api_Inst} (h : AllE xs) (k : AllE ys) : AllE (xs ++ ys) := fun z hz => by
 rcases List.mem_append.1 hz with c | c
 ·exact h z c
 ·exact k z c
section
variable {hm : List api_Home} {x : api_Ins}
theorem ur_b {t sp : Int} (h : HB hm t) (hs : 0 ≤ sp ∧ sp < 32) : 0 ≤ ur hm t sp ∧ ur hm t sp < 32 := by
 have := h.h
 unfold ur; split <;> omega
theorem ul_all {t sp : Int} (h : HB hm t) (hs : 0 ≤ sp ∧ sp < 32) : AllE (ul hm t sp) := by
 have := h.h
 unfold ul; split
 ·exact .nil
 ·exact .cons (by first | exact kS (by decide) (by omega) (by omega) (by omega) | exact kL (by decide) (by omega) (by omega) (by omega) | exact kF (by decide) (by omega) (by omega) (by omega) | exact kT (by decide) (by omega) (by omega) (by omega) | exact kD (by decide) (by omega) (by omega) (by omega) | exact kH (by decide) (by omega) (by omega) | exact kI (by decide) (by omega) (by omega) | exact kB (by decide) (by omega) (by omega) | exact kJ (by decide) (by omega) | exact kO (by decide)) .nil
theorem kp_all {t : Int} (h : HB hm t) : AllE (kp hm t) := by
 have := h.h
 unfold kp; split
 ·exact .nil
 ·exact .cons (by first | exact kS (by decide) (by omega) (by omega) (by omega) | exact kL (by decide) (by omega) (by omega) (by omega) | exact kF (by decide) (by omega) (by omega) (by omega) | exact kT (by decide) (by omega) (by omega) (by omega) | exact kD (by decide) (by omega) (by omega) (by omega) | exact kH (by decide) (by omega) (by omega) | exact kI (by decide) (by omega) (by omega) | exact kB (by decide) (by omega) (by omega) | exact kJ (by decide) (by omega) | exact kO (by decide)) .nil
theorem mv_all {t : Int} (h : HB hm t) : AllE (mv hm t) := by
 have := h.h
 unfold mv; split
 ·exact .cons (by first | exact kS (by decide) (by omega) (by omega) (by omega) | exact kL (by decide) (by omega) (by omega) (by omega) | exact kF (by decide) (by omega) (by omega) (by omega) | exact kT (by decide) (by omega) (by omega) (by omega) | exact kD (by decide) (by omega) (by omega) (by omega) | exact kH (by decide) (by omega) (by omega) | exact kI (by decide) (by omega) (by omega) | exact kB (by decide) (by omega) (by omega) | exact kJ (by decide) (by omega) | exact kO (by decide)) .nil
 ·exact .nil
theorem num_all {r n : Int} (hr : 0 ≤ r ∧ r < 32) : AllE (num r n) := by
 have h32 : ∀ n : Int, AllE (num32 r n) := fun n => by
  unfold num32
  exact .cons (kS (by decide) (by omega) (by omega) (by unfold wrap16; omega)) (.cons (by first | exact kS (by decide) (by omega) (by omega) (by omega) | exact kL (by decide) (by omega) (by omega) (by omega) | exact kF (by decide) (by omega) (by omega) (by omega) | exact kT (by decide) (by omega) (by omega) (by omega) | exact kD (by decide) (by omega) (by omega) (by omega) | exact kH (by decide) (by omega) (by omega) | exact kI (by decide) (by omega) (by omega) | exact kB (by decide) (by omega) (by omega) | exact kJ (by decide) (by omega) | exact kO (by decide)) .nil)
 unfold num
 split
 ·exact .cons (by first | exact kS (by decide) (by omega) (by omega) (by omega) | exact kL (by decide) (by omega) (by omega) (by omega) | exact kF (by decide) (by omega) (by omega) (by omega) | exact kT (by decide) (by omega) (by omega) (by omega) | exact kD (by decide) (by omega) (by omega) (by omega) | exact kH (by decide) (by omega) (by omega) | exact kI (by decide) (by omega) (by omega) | exact kB (by decide) (by omega) (by omega) | exact kJ (by decide) (by omega) | exact kO (by decide)) .nil
 ·split
  ·exact .app (h32 _) (.cons (by first | exact kS (by decide) (by omega) (by omega) (by omega) | exact kL (by decide) (by omega) (by omega) (by omega) | exact kF (by decide) (by omega) (by omega) (by omega) | exact kT (by decide) (by omega) (by omega) (by omega) | exact kD (by decide) (by omega) (by omega) (by omega) | exact kH (by decide) (by omega) (by omega) | exact kI (by decide) (by omega) (by omega) | exact kB (by decide) (by omega) (by omega) | exact kJ (by decide) (by omega) | exact kO (by decide)) (.cons (by first | exact kS (by decide) (by omega) (by omega) (by omega) | exact kL (by decide) (by omega) (by omega) (by omega) | exact kF (by decide) (by omega) (by omega) (by omega) | exact kT (by decide) (by omega) (by omega) (by omega) | exact kD (by decide) (by omega) (by omega) (by omega) | exact kH (by decide) (by omega) (by omega) | exact kI (by decide) (by omega) (by omega) | exact kB (by decide) (by omega) (by omega) | exact kJ (by decide) (by omega) | exact kO (by decide)) (.cons (by first | exact kS (by decide) (by omega) (by omega) (by omega) | exact kL (by decide) (by omega) (by omega) (by omega) | exact kF (by decide) (by omega) (by omega) (by omega) | exact kT (by decide) (by omega) (by omega) (by omega) | exact kD (by decide) (by omega) (by omega) (by omega) | exact kH (by decide) (by omega) (by omega) | exact kI (by decide) (by omega) (by omega) | exact kB (by decide) (by omega) (by omega) | exact kJ (by decide) (by omega) | exact kO (by decide)) .nil)))
  ·exact h32 _
theorem pc_all (hx : PB hm x) {d : Int} (hd0 : -32768 ≤ d ∧ d ≤ 32764) (hd4 : d % 4 = 0) : AllE (pc hm x d) := by
 have hd := hx.d; have ha := hx.a; have hb := hx.b; have hk := hx.k; have hl := hx.loc; have hn := hx.len
 rcases isOp_c hx.op with c | c | c | c | c | c | c | c | c | c | c | c | c | c | c | c | c | c
 all_goals
  rw [c] at hd ha hb
  simp only [sh_1, sh_2, sh_3, sh_4, sh_5, sh_6, sh_7, sh_8, sh_9, sh_10, sh_11, sh_12, sh_13, sh_14, sh_15, sh_16, sh_17, sh_18, forall_const, Bool.false_eq_true, false_implies] at hd ha hb
  simp only [pc, c, Int.reduceEq, if_true, if_false, ↓reduceIte, bnd, cal, dcd]
  try have q1 := ur_b (sp := 11) ha (by omega)
  try have q2 := ur_b (sp := 10) ha (by omega)
  try have q3 := ur_b (sp := 10) hb (by omega)
  try have q4 := ur_b (sp := 9) hb (by omega)
  try have q5 := ur_b (sp := 11) hd (by omega)
  repeat' with_reducible first | exact AllE.nil | exact ul_all (by assumption) (by omega) | exact kp_all (by assumption) | exact mv_all (by assumption) | exact num_all (by assumption) | refine AllE.cons (by first | exact kS (by decide) (by omega) (by omega) (by omega) | exact kL (by decide) (by omega) (by omega) (by omega) | exact kF (by decide) (by omega) (by omega) (by omega) | exact kT (by decide) (by omega) (by omega) (by omega) | exact kD (by decide) (by omega) (by omega) (by omega) | exact kH (by decide) (by omega) (by omega) | exact kI (by decide) (by omega) (by omega) | exact kB (by decide) (by omega) (by omega) | exact kJ (by decide) (by omega) | exact kO (by decide)) ?_ | refine AllE.app ?_ ?_
end
end Go.Proofs.Ytbhekpcimmaijaa.W
set_option maxRecDepth 100000
namespace Go.Proofs.Ytbhekpcimmaijaa.W
open Go Go.RowKit Go.Proofs.Ytbhekpcimmaijaa Go.Proofs.Ytbhekpcimmaijaa.X
open Go.Proofs.Ytbhekpcimmaijaa.B (wr aget aset loop loop_in loop_out loop_tot)

theorem emit2 (code : List api_Ins) (l : List api_Loc) (regs : Int) (n : Nat) : emit_Emit_2.m code l regs = emit_Emit.m l regs code n := rfl
end Go.Proofs.Ytbhekpcimmaijaa.W
namespace Go.Proofs.Ytbhekpcimmaijaa.W
open Go Go.RowKit Go.Proofs.Ytbhekpcimmaijaa Go.Proofs.Ytbhekpcimmaijaa.X
open Go.Proofs.Ytbhekpcimmaijaa.B (wr aget aset loop loop_in loop_out loop_tot wrap16)

def InsW (x : api_Ins) : Prop := (Lit.int .i64 x.Op).wf = true ∧ (Lit.int .i64 x.D).wf = true ∧ (Lit.int .i64 x.A).wf = true ∧ (Lit.int .i64 x.B).wf = true ∧ (Lit.int .i64 x.Loc).wf = true ∧ (Lit.int .i64 x.Len).wf = true ∧ (Lit.int .i64 x.K).wf = true ∧ (Lit.int .i64 x.To).wf = true
theorem wf_in {n : Int} (h : (Lit.int .i64 n).wf = true) : -9223372036854775808 ≤ n ∧ n < 9223372036854775808 := by
 simp [Lit.wf, IntKind.max, IntKind.min, IntKind.bits, IntKind.signed] at h
 omega
theorem InsW.ks {code : List api_Ins} (h : ∀ x ∈ code, InsW x) : ∀ x ∈ code, -9223372036854775808 ≤ x.K ∧ x.K < 9223372036854775808 := fun x hx => wf_in (h x hx).2.2.2.2.2.2.1
section
variable {code : List api_Ins} {hm : List api_Home}
theorem dsp_b (hn : code.length ≤ 400) (hp : ∀ i : Nat, i < code.length → PB hm (gi code i)) {i : Nat} (hi : i < code.length) (hj : isJ (gi code i) = true) (ht : (i : Int) + 1 < (gi code i).To ∧ (gi code i).To < code.length) : 0 ≤ dsp hm code i ∧ dsp hm code i ≤ 32764 ∧ dsp hm code i % 4 = 0 := by
 have ho : ∀ i : Nat, i < code.length → isOp (gi code i).Op = true := fun i hi => (hp i hi).op
 have h1 := atN_le (hm := hm) ho code.length (Nat.le_refl _)
 have h2 := atN_mono (hm := hm) (code := code) (i + 1) (k := (gi code i).To.toNat) (by omega)
 have h3 := atN_mono (hm := hm) (code := code) (gi code i).To.toNat (k := code.length) (by omega)
 have h4 := (pc_20 (hm := hm) (ho i hi)).1
 have h5 := atN_succ (hm := hm) (code := code) i
 unfold dsp
 omega
theorem finN_all (hn : code.length ≤ 400) (hp : ∀ i : Nat, i < code.length → PB hm (gi code i)) (ht : ∀ i : Nat, i < code.length → isJ (gi code i) = true → (i : Int) + 1 < (gi code i).To ∧ (gi code i).To < code.length) : ∀ i, i ≤ code.length → AllE (finN hm code i)
 | 0, _ => AllE.nil
 | i + 1, h => by
  rw [finN]
  refine (finN_all hn hp ht i (by omega)).app ?_
  cases c : isJ (gi code i)
  ·rw [pc_d (hp i (by omega)).op c]
   exact pc_all (hp i (by omega)) (by omega) (by omega)
  ·have := dsp_b hn hp (by omega) c (ht i (by omega) c)
   exact pc_all (hp i (by omega)) (by omega) this.2.2
end
theorem emit_long {code : List api_Ins} {l : List api_Loc} {regs : Int} (h : 400 < code.length) (c : Nat) : alloc_Homes.m code l regs = some (.inl 3) ∧ emit_Emit.m l regs code c = some (.inr (.inl 3)) := by
 have e : alloc_Homes.m code l regs = some (.inl 3) := by
  unfold alloc_Homes.m tree_Right.m
  rw [if_neg (show ¬ (code.length : Int) < 1 by omega), if_pos (show (code.length : Int) > 400 by omega)]
  rfl
 refine ⟨e, ?_⟩
 unfold emit_Emit.m
 rw [e]; rfl
end Go.Proofs.Ytbhekpcimmaijaa.W
namespace Go.Proofs.Ytbhekpcimmaijaa.W
open Go Go.RowKit Go.Proofs.Ytbhekpcimmaijaa Go.Proofs.Ytbhekpcimmaijaa.X
open Go.Proofs.Ytbhekpcimmaijaa.B (wr aget aset loop loop_in loop_out loop_tot wrap16 bt W64 b1 bt_b1 b1_W bt_or)

structure M where
 ans : List Int
 regs : Arr thread_cell 32
 stk : Arr thread_cell 400
 less : Bool
 same : Bool
 held : Int
 ctrl : Int
 fen : Int
 hold : Int
 ev : Int
 out : List api_Event
abbrev Tup := (List Int) × (Arr thread_cell 32) × (Arr thread_cell 400) × Bool × Bool × Int × Int × Int × Int × Int × (List api_Event) × Int × Int
def M.tup (s : M) (pc n : Int) : Tup := (s.ans, s.regs, s.stk, s.less, s.same, s.held, s.ctrl, s.fen, s.hold, s.ev, s.out, pc, n)
def stp (code : List api_Inst) (locs base : Int) (s : M) (x : api_Inst) : Option ((M × Int) ⊕ Int) :=
 (thread_thread_step_2.m x code locs base s.ans s.regs s.stk s.less s.same s.held s.ctrl s.fen s.hold s.ev s.out).map fun r => match r with
  | .inl z => .inl (⟨z.1, z.2.1, z.2.2.1, z.2.2.2.1, z.2.2.2.2.1, z.2.2.2.2.2.1, z.2.2.2.2.2.2.1, z.2.2.2.2.2.2.2.1, z.2.2.2.2.2.2.2.2.1, z.2.2.2.2.2.2.2.2.2.1, z.2.2.2.2.2.2.2.2.2.2.1⟩, z.2.2.2.2.2.2.2.2.2.2.2)
  | .inr e => .inr e
section
variable {code : List api_Inst} {locs base : Int}
def Tells (code : List api_Inst) (locs base : Int) (pc n : Int) (s : M) (r : List api_Event × Int) : Prop :=
 ∃ o, loop (thread_Do_2.l2 code locs base) (s.tup pc n) = some o ∧ (match o with | .inl z => (z.2.2.2.2.2.2.2.2.2.2.2, z.1) | .inr z => (z.2.2.2.2.2.2.2.2.2.2.1, z.2.2.2.2.2.2.2.2.2.2.2)) = r
theorem Tells.step {pc n : Int} {s s' : M} {d : Int} {r : List api_Event × Int} (h : 0 ≤ pc ∧ pc < code.length) (hn : 0 ≤ n ∧ n < 8000) (hl : code.length ≤ 8000) (e : stp code locs base s (gi code pc) = some (.inl (s', d))) (hd : 0 ≤ pc + d ∧ pc + d ≤ 8000) (k : Tells code locs base (pc + d) (n + 1) s' r) : Tells code locs base pc n s r := by
 obtain ⟨o, ho, hr⟩ := k
 refine ⟨o, ?_, hr⟩
 refine (loop_in ?_).trans ho
 unfold stp at e
 unfold thread_Do_2.l2 M.tup
 dsimp only
 rw [if_neg (show ¬ pc < 0 by omega), show decide (pc ≥ (code.length : Int)) = false from decide_eq_false (by omega), Option.bind_some, if_neg (by decide), if_neg (show ¬ n = 8000 by omega), if_pos h]
 simp only [letC]
 generalize hz : thread_thread_step_2.m (gi code pc) code locs base s.ans s.regs s.stk s.less s.same s.held s.ctrl s.fen s.hold s.ev s.out = z at e
 cases z with
 | none => cases e
 | some z =>
  rw [Option.bind_some]
  cases z with
  | inr q => cases e
  | inl z =>
   have e' := Sum.inl.inj (Option.some.inj e)
   have e1 := congrArg Prod.fst e'
   have e2 := congrArg Prod.snd e'
   dsimp only at e1 e2
   subst e1 e2
   dsimp only
   rw [wr64 (by omega), wr64 (by omega)]
theorem Tells.fin {pc n : Int} {s : M} {st : Int} (h : 0 ≤ pc ∧ pc < code.length) (hn : 0 ≤ n ∧ n < 8000) (e : stp code locs base s (gi code pc) = some (.inr st)) : Tells code locs base pc n s (s.out, st) := by
 unfold stp at e
 generalize hz : thread_thread_step_2.m (gi code pc) code locs base s.ans s.regs s.stk s.less s.same s.held s.ctrl s.fen s.hold s.ev s.out = z at e
 cases z with
 | none => cases e
 | some z =>
  cases z with
  | inl q => cases e
  | inr q =>
   have e' := Sum.inr.inj (Option.some.inj e)
   subst e'
   refine ⟨.inr (s.ans, s.regs, s.stk, s.less, s.same, s.held, s.ctrl, s.fen, s.hold, s.ev, s.out, q), loop_out ?_, rfl⟩
   unfold thread_Do_2.l2 M.tup
   dsimp only
   rw [if_neg (show ¬ pc < 0 by omega), show decide (pc ≥ (code.length : Int)) = false from decide_eq_false (by omega), Option.bind_some, if_neg (by decide), if_neg (show ¬ n = 8000 by omega), if_pos h]
   simp only [letC]
   rw [hz, Option.bind_some]
def WP (code : List api_Inst) (locs base : Int) (Q : List api_Event × Int → Prop) (pc : Int) (s : M) : Prop := ∀ n : Int, 0 ≤ n → n ≤ pc → ∃ r, Tells code locs base pc n s r ∧ Q r
variable {Q : List api_Event × Int → Prop} {pc : Int} {s : M}
theorem WP.step {s' : M} {d : Int} (h : 0 ≤ pc ∧ pc < code.length) (hl : code.length ≤ 8000) (e : stp code locs base s (gi code pc) = some (.inl (s', d))) (hd : 1 ≤ d ∧ pc + d ≤ 8000) (k : WP code locs base Q (pc + d) s') : WP code locs base Q pc s := fun n h0 h1 => by
 obtain ⟨r, hr, hq⟩ := k (n + 1) (by omega) (by omega)
 exact ⟨r, hr.step h (by omega) hl e (by omega), hq⟩
theorem WP.fin {st : Int} (h : 0 ≤ pc ∧ pc < code.length) (hl : code.length ≤ 8000) (e : stp code locs base s (gi code pc) = some (.inr st)) (k : Q (s.out, st)) : WP code locs base Q pc s := fun n h0 h1 => ⟨_, Tells.fin h (by omega) e, k⟩
end

def zr (s : M) (a : Int) : thread_cell := if a = 0 then ⟨0, 0⟩ else s.regs.g a
def M.setR (s : M) (t : Int) (c : thread_cell) : M := { s with regs := s.regs.s t c }
def uni (a b : Int) : Int := bits .or .u64 a b
@[reducible] def R32 (t : Int) : Prop := 0 ≤ t ∧ t < ((32 : Nat) : Int)
theorem R0 : R32 0 := by decide
def M.tel (s : M) (k p v pr ad da : Int) : M := { s with out := s.out ++ [⟨k, p, v, pr, ad, da, s.ctrl, s.fen⟩] }
section
variable {code : List api_Inst} {locs base : Int} {s : M}
section
variable {a : Int}
theorem or_eq (ha : R32 a) (s : M) : thread_thread_or_2.m a code locs base s.ans s.regs s.stk s.less s.same s.held s.ctrl s.fen s.hold s.ev s.out = some (zr s a) := by
 unfold thread_thread_or_2.m zr
 by_cases h : a = 0
 ·rw [if_pos h, if_pos h]
 ·rw [if_neg h, if_neg h, if_pos ha]
end
theorem tell_eq (e : api_Event) (h : s.out.length ≤ 64) : thread_thread_tell_2.m e code locs base s.ans s.regs s.stk s.less s.same s.held s.ctrl s.fen s.hold s.ev s.out =
 some (if s.out.length = 64 then .inl () else .inr (s.tel e.Kind e.Loc e.Val e.Pair e.Addr e.Data).out) := by
 unfold thread_thread_tell_2.m
 by_cases c : s.out.length = 64
 ·rw [if_pos (by omega), if_pos c]
 ·rw [if_neg (by omega), if_neg c, if_pos (by simp; omega)]; rfl
variable {t a b i : Int}

theorem i_addi (ht : R32 t) (ha : R32 a) : stp code locs base s ⟨1, t, a, 0, i⟩ = some (.inl (s.setR t ⟨wr .i64 ((zr s a).n + i), (zr s a).hang⟩, 1)) := by
 unfold stp thread_thread_step_2.m
 dsimp only
 rw [if_pos ha, letC, if_pos R0, letC, or_eq ha, Option.bind_some]
 simp only [Int.reduceEq, ↓reduceIte]
 rw [if_pos ht]; rfl
theorem i_addis (ht : R32 t) (ha : R32 a) : stp code locs base s ⟨2, t, a, 0, i⟩ = some (.inl (s.setR t ⟨wr .i64 ((zr s a).n + wr .i64 (i * 65536)), (zr s a).hang⟩, 1)) := by
 unfold stp thread_thread_step_2.m
 dsimp only
 rw [if_pos ha, letC, if_pos R0, letC, or_eq ha, Option.bind_some]
 simp only [Int.reduceEq, ↓reduceIte]
 rw [letC, if_pos ht]; rfl
theorem i_ori (ht : R32 t) (ha : R32 a) : stp code locs base s ⟨3, t, a, 0, i⟩ = some (.inl (s.setR t ⟨bits .or .i64 (s.regs.g a).n i, (s.regs.g a).hang⟩, 1)) := by
 unfold stp thread_thread_step_2.m
 dsimp only
 rw [if_pos ha, letC, if_pos R0, letC, or_eq ha, Option.bind_some]
 simp only [Int.reduceEq, ↓reduceIte]
 rw [letC, if_pos ht]; rfl
theorem i_oris (ht : R32 t) (ha : R32 a) : stp code locs base s ⟨4, t, a, 0, i⟩ = some (.inl (s.setR t ⟨bits .or .i64 (s.regs.g a).n (wr .i64 (i * 65536)), (s.regs.g a).hang⟩, 1)) := by
 unfold stp thread_thread_step_2.m
 dsimp only
 rw [if_pos ha, letC, if_pos R0, letC, or_eq ha, Option.bind_some]
 simp only [Int.reduceEq, ↓reduceIte]
 rw [letC, if_pos ht]; rfl
theorem i_sldi (ht : R32 t) (ha : R32 a) (hi : 0 ≤ i ∧ i < 64) : stp code locs base s ⟨5, t, a, 0, i⟩ = some (.inl (s.setR t ⟨wr .i64 ((s.regs.g a).n * 2 ^ i.toNat), (s.regs.g a).hang⟩, 1)) := by
 unfold stp thread_thread_step_2.m
 dsimp only
 rw [if_pos ha, letC, if_pos R0, letC, or_eq ha, Option.bind_some]
 simp only [Int.reduceEq, ↓reduceIte]
 have w : wr .u64 i = i := by show i % 18446744073709551616 = i; omega
 rw [w, if_pos hi.1, letC, if_pos ht, show min i.toNat 64 = i.toNat by omega]; rfl
theorem i_add (ht : R32 t) (ha : R32 a) (hb : R32 b) : stp code locs base s ⟨6, t, a, b, 0⟩ = some (.inl (s.setR t ⟨wr .i64 ((s.regs.g a).n + (s.regs.g b).n), uni (s.regs.g a).hang (s.regs.g b).hang⟩, 1)) := by
 unfold stp thread_thread_step_2.m
 dsimp only
 rw [if_pos ha, letC, if_pos hb, letC, or_eq ha, Option.bind_some]
 simp only [Int.reduceEq, ↓reduceIte]
 rw [letC, if_pos ht]; rfl
theorem i_subf (ht : R32 t) (ha : R32 a) (hb : R32 b) : stp code locs base s ⟨7, t, a, b, 0⟩ = some (.inl (s.setR t ⟨wr .i64 ((s.regs.g b).n - (s.regs.g a).n), uni (s.regs.g a).hang (s.regs.g b).hang⟩, 1)) := by
 unfold stp thread_thread_step_2.m
 dsimp only
 rw [if_pos ha, letC, if_pos hb, letC, or_eq ha, Option.bind_some]
 simp only [Int.reduceEq, ↓reduceIte]
 rw [letC, if_pos ht]; rfl
theorem i_mulld (ht : R32 t) (ha : R32 a) (hb : R32 b) : stp code locs base s ⟨8, t, a, b, 0⟩ = some (.inl (s.setR t ⟨wr .i64 ((s.regs.g a).n * (s.regs.g b).n), uni (s.regs.g a).hang (s.regs.g b).hang⟩, 1)) := by
 unfold stp thread_thread_step_2.m
 dsimp only
 rw [if_pos ha, letC, if_pos hb, letC, or_eq ha, Option.bind_some]
 simp only [Int.reduceEq, ↓reduceIte]
 rw [letC, if_pos ht]; rfl
theorem i_divd (ht : R32 t) (ha : R32 a) (hb : R32 b) (hz : (s.regs.g b).n ≠ 0) : stp code locs base s ⟨9, t, a, b, 0⟩ = some (.inl (s.setR t ⟨wr .i64 (Int.tdiv (s.regs.g a).n (s.regs.g b).n), uni (s.regs.g a).hang (s.regs.g b).hang⟩, 1)) := by
 unfold stp thread_thread_step_2.m
 dsimp only
 rw [if_pos ha, letC, if_pos hb, letC, or_eq ha, Option.bind_some]
 simp only [Int.reduceEq, ↓reduceIte]
 have q : thread_quotient.m (s.regs.g a).n (s.regs.g b).n = some (wr .i64 (Int.tdiv (s.regs.g a).n (s.regs.g b).n)) := by
  unfold thread_quotient.m
  rw [if_neg hz, if_pos hz]
 rw [q, Option.bind_some, letC, if_pos ht]; rfl
theorem i_cmpd (ha : R32 a) (hb : R32 b) : stp code locs base s ⟨16, 0, a, b, 0⟩ = some (.inl ({ s with less := decide ((s.regs.g a).n < (s.regs.g b).n), same := decide ((s.regs.g a).n = (s.regs.g b).n), held := uni (s.regs.g a).hang (s.regs.g b).hang }, 1)) := by
 unfold stp thread_thread_step_2.m
 dsimp only
 rw [if_pos ha, letC, if_pos hb, letC, or_eq ha, Option.bind_some]
 simp only [Int.reduceEq, ↓reduceIte]
 rfl
theorem i_cmpdi (ha : R32 a) : stp code locs base s ⟨17, 0, a, 0, i⟩ = some (.inl ({ s with less := decide ((s.regs.g a).n < i), same := decide ((s.regs.g a).n = i), held := (s.regs.g a).hang }, 1)) := by
 unfold stp thread_thread_step_2.m
 dsimp only
 rw [if_pos ha, letC, if_pos R0, letC, or_eq ha, Option.bind_some]
 simp only [Int.reduceEq, ↓reduceIte]
 rfl
def cnd (s : M) (c : Int) : Bool := if c = 0 then s.less else if c = 1 then !s.less else if c = 2 then s.same else !s.same
theorem i_bc {c d : Int} (hd : -4000000 ≤ d ∧ d ≤ 4000000) : stp code locs base s ⟨18, c, 0, 0, 4 * d⟩ = some (.inl ({ s with ctrl := uni s.ctrl s.held }, if cnd s c = true then d else 1)) := by
 unfold stp thread_thread_step_2.m
 dsimp only
 rw [if_pos R0, letC, if_pos R0, letC, or_eq R0, Option.bind_some]
 simp only [Int.reduceEq, ↓reduceIte, decide_false, decide_true, Option.bind_some, Bool.false_eq_true]
 rw [letC, show Int.tdiv (4 * d) 4 = d by rw [Int.mul_tdiv_cancel_left _ (by decide)]]
 have e : thread_thread_branch_2.m c code locs base s.ans s.regs s.stk s.less s.same s.held s.ctrl s.fen s.hold s.ev s.out = cnd s c := rfl
 rw [e]
 by_cases h : cnd s c = true
 ·rw [if_pos h, if_pos h, letC, wr64 (by omega)]; rfl
 ·rw [if_neg h, if_neg h]; rfl
theorem i_b {d : Int} (hd : -4000000 ≤ d ∧ d ≤ 4000000) : stp code locs base s ⟨19, 0, 0, 0, 4 * d⟩ = some (.inl (s, d)) := by
 unfold stp thread_thread_step_2.m
 dsimp only
 rw [if_pos R0, letC, if_pos R0, letC, or_eq R0, Option.bind_some]
 simp only [Int.reduceEq, ↓reduceIte, decide_false, decide_true, Option.bind_some, Bool.false_eq_true]
 rw [letC, show Int.tdiv (4 * d) 4 = d by rw [Int.mul_tdiv_cancel_left _ (by decide)], wr64 (by omega)]; rfl
theorem i_sync (hl : s.out.length ≤ 64) : stp code locs base s ⟨20, 0, 0, 0, 0⟩ = some (if s.out.length = 64 then .inr 5 else .inl (s.tel 3 0 0 0 0 0, 1)) := by
 unfold stp thread_thread_step_2.m
 dsimp only
 rw [if_pos R0, letC, if_pos R0, letC, or_eq R0, Option.bind_some]
 simp only [Int.reduceEq, ↓reduceIte, decide_false, decide_true, Option.bind_some, Bool.false_eq_true]
 rw [tell_eq _ hl, Option.bind_some]
 by_cases c : s.out.length = 64
 ·rw [if_pos c, if_pos c]; rfl
 ·rw [if_neg c, if_neg c]; rfl
theorem i_sc (hl : s.out.length ≤ 64) : stp code locs base s ⟨23, 0, 0, 0, 0⟩ =
 some (if (s.regs.g 0).n = 0 then .inr 1 else if (s.regs.g 0).n = 1 then (if s.out.length = 64 then .inr 5 else .inl (s.tel 6 0 (s.regs.g 3).n 0 0 0, 1)) else if (s.regs.g 0).n = 2 then .inr 2 else if (s.regs.g 0).n = 3 then .inr 3 else .inr 6) := by
 unfold stp thread_thread_step_2.m
 dsimp only
 rw [if_pos R0, letC, if_pos R0, letC, or_eq R0, Option.bind_some]
 simp only [Int.reduceEq, ↓reduceIte, decide_false, decide_true, Option.bind_some, Bool.false_eq_true]
 unfold thread_thread_call_2.m
 simp only [letC]
 by_cases c0 : (s.regs.g 0).n = 0
 ·rw [if_pos c0, if_pos c0]; rfl
 rw [if_neg c0, if_neg c0]
 by_cases c1 : (s.regs.g 0).n = 1
 ·rw [if_pos c1, if_pos c1, tell_eq _ hl, Option.bind_some]
  by_cases c : s.out.length = 64
  ·rw [if_pos c, if_pos c]; rfl
  ·rw [if_neg c, if_neg c]; rfl
 rw [if_neg c1, if_neg c1]
 by_cases c2 : (s.regs.g 0).n = 2
 ·rw [if_pos c2, if_pos c2]; rfl
 rw [if_neg c2, if_neg c2]
 by_cases c3 : (s.regs.g 0).n = 3
 ·rw [if_pos c3, if_pos c3]; rfl
 ·rw [if_neg c3, if_neg c3]; rfl
structure Lay (locs base : Int) : Prop where
 l : 0 ≤ locs ∧ locs ≤ 16
 b : 1048576 ≤ base ∧ base ≤ 1179648
theorem place_loc (h : Lay locs base) {k : Int} (hk : 0 ≤ k ∧ k < locs) : thread_thread_place_2.m (65536 + 8 * k) code locs base s.ans s.regs s.stk s.less s.same s.held s.ctrl s.fen s.hold s.ev s.out = .inl k := by
 have hl := h.l
 unfold thread_thread_place_2.m
 simp only [letC]
 rw [show wr .i64 (65536 + 8 * k - 65536) = 8 * k by rw [wr64 (by omega)]; omega, show wr .i64 (8 * locs) = 8 * locs from wr64 (by omega), if_pos (show 8 * k ≥ 0 by omega), if_pos (show 8 * k < 8 * locs by omega), Int.mul_tmod_right, if_pos (show decide ((0 : Int) = 0) = true from rfl),
  Int.mul_tdiv_cancel_left _ (by decide), wr64 (by omega)]
theorem place_slot (h : Lay locs base) {k : Int} (hk : 0 ≤ k ∧ k < 400) : thread_thread_place_2.m (base + 8 * k) code locs base s.ans s.regs s.stk s.less s.same s.held s.ctrl s.fen s.hold s.ev s.out = .inl (-1 - k) := by
 have hl := h.l; have hb := h.b
 unfold thread_thread_place_2.m
 simp only [letC]
 have e1 : wr .i64 (base + 8 * k - 65536) = base + 8 * k - 65536 := wr64 (by omega)
 have e2 : wr .i64 (base + 8 * k - base) = 8 * k := by rw [wr64 (by omega)]; omega
 have e3 : wr .i64 (8 * locs) = 8 * locs := wr64 (by omega)
 rw [e1, e2, e3, if_pos (show base + 8 * k - 65536 ≥ 0 by clear e1 e2 e3; omega), if_neg (show ¬ base + 8 * k - 65536 < 8 * locs by clear e1 e2 e3; omega), if_neg (by decide), if_pos (show 8 * k ≥ 0 by clear e1 e2 e3; omega), if_pos (show 8 * k < 3200 by clear e1 e2 e3; omega), Int.mul_tmod_right, if_pos (show decide ((0 : Int) = 0) = true from rfl),
  Int.mul_tdiv_cancel_left _ (by decide), show wr .i64 k = k from wr64 (by clear e1 e2 e3; omega), show wr .i64 (-1 - k) = -1 - k from wr64 (by clear e1 e2 e3; omega)]
def M.rd (s : M) (op t p n : Int) (r : List Int) (ad : Int) : M :=
 { (s.tel 1 p n 0 ad 0) with ans := r, regs := s.regs.s t ⟨n, b1 (s.out.length : Int)⟩, hold := if op = 14 then p else s.hold, ev := if op = 14 then (s.out.length : Int) else s.ev }
theorem load_loc (h : Lay locs base) (hl : s.out.length ≤ 64) {op k hg : Int} (hk : 0 ≤ k ∧ k < locs) (ht : R32 t) : thread_thread_load_2.m ⟨op, t, a, b, i⟩ ⟨65536 + 8 * k, hg⟩ code locs base s.ans s.regs s.stk s.less s.same s.held s.ctrl s.fen s.hold s.ev s.out =
 some (match s.ans with
  | [] => .inr 4
  | n :: r => if s.out.length = 64 then .inr 5 else .inl (r, (s.rd op t k n r hg).regs, (s.rd op t k n r hg).hold, (s.rd op t k n r hg).ev, (s.rd op t k n r hg).out)) := by
 unfold thread_thread_load_2.m
 simp only [place_loc h hk]
 rw [letC]
 dsimp only
 rw [if_neg (show ¬ k < 0 by omega)]
 cases ha : s.ans with
 | nil => rfl
 | cons n r =>
  have ht' := tell_eq (code := code) (locs := locs) (base := base) (s := s) ⟨1, k, n, 0, hg, 0, 0, 0⟩ hl
  rw [ha] at ht'
  rw [if_neg (show ¬ ((n :: r).length : Int) = 0 by rw [List.length_cons]; omega), if_pos (show 0 ≤ (0 : Int) ∧ (0 : Int) < ((n :: r).length : Int) by rw [List.length_cons]; omega)]
  simp only [letC]
  rw [show gi (n :: r) 0 = n from rfl, ht', Option.bind_some]
  by_cases c : s.out.length = 64
  ·rw [if_pos c, if_pos c]
  rw [if_neg c, if_neg c]
  dsimp only
  rw [if_pos (show 0 ≤ (1 : Int) ∧ (1 : Int) ≤ ((n :: r).length : Int) ∧ ((n :: r).length : Int) ≤ ((n :: r).length : Int) by rw [List.length_cons]; omega)]
  have w : wr .u64 (s.out.length : Int) = (s.out.length : Int) := by show (s.out.length : Int) % 18446744073709551616 = s.out.length; omega
  rw [w, if_pos (by clear w; omega), if_pos ht]
  have e2 : ((n :: r).drop (1 : Int).toNat).take (((n :: r).length : Int).toNat - (1 : Int).toNat) = r := by simp
  have e3 : wr .u64 (1 * 2 ^ (min ((s.out.length : Int)).toNat 64)) = b1 (s.out.length : Int) := by
   unfold b1
   rw [show (s.out.length : Int) % 18446744073709551616 = s.out.length by clear e2 w; omega]; rfl
  rw [e2, e3]
  unfold M.rd
  dsimp only
  by_cases c2 : op = 14
  ·rw [if_pos c2, if_pos c2, if_pos c2]
  ·rw [if_neg c2, if_neg c2, if_neg c2]
theorem load_slot (h : Lay locs base) {op k hg : Int} (hk : 0 ≤ k ∧ k < 400) (ho : op ≠ 14) (ht : R32 t) : thread_thread_load_2.m ⟨op, t, a, b, i⟩ ⟨base + 8 * k, hg⟩ code locs base s.ans s.regs s.stk s.less s.same s.held s.ctrl s.fen s.hold s.ev s.out =
 some (.inl (s.ans, s.regs.s t ⟨(s.stk.g k).n, uni (s.stk.g k).hang hg⟩, s.hold, s.ev, s.out)) := by
 unfold thread_thread_load_2.m
 simp only [place_slot h hk]
 rw [letC]
 dsimp only
 rw [if_pos (show -1 - k < 0 by omega)]
 simp only [letC]
 rw [show wr .i64 (-1 - (-1 - k)) = k by rw [wr64 (by omega)]; omega, if_pos (show 0 ≤ k ∧ k < ((400 : Nat) : Int) from hk), if_pos ht, if_neg ho]
 rfl
theorem store_loc (h : Lay locs base) (hl : s.out.length ≤ 64) {op k hg : Int} (hk : 0 ≤ k ∧ k < locs) (ho : op ≠ 15) (ht : R32 t) : thread_thread_store_2.m ⟨op, t, a, b, i⟩ ⟨65536 + 8 * k, hg⟩ code locs base s.ans s.regs s.stk s.less s.same s.held s.ctrl s.fen s.hold s.ev s.out =
 some (if s.out.length = 64 then .inl 5 else .inr (s.stk, s.less, s.same, s.held, s.hold, (s.tel 2 k (s.regs.g t).n 0 hg (s.regs.g t).hang).out)) := by
 unfold thread_thread_store_2.m
 simp only [place_loc h hk]
 rw [letC]
 dsimp only
 rw [if_pos ht, letC, if_neg ho, if_neg (show ¬ k < 0 by omega), tell_eq _ hl, Option.bind_some]
 by_cases c : s.out.length = 64
 ·rw [if_pos c, if_pos c]
 ·rw [if_neg c, if_neg c]
theorem store_slot (h : Lay locs base) {op k hg : Int} (hk : 0 ≤ k ∧ k < 400) (ho : op ≠ 15) (ht : R32 t) : thread_thread_store_2.m ⟨op, t, a, b, i⟩ ⟨base + 8 * k, hg⟩ code locs base s.ans s.regs s.stk s.less s.same s.held s.ctrl s.fen s.hold s.ev s.out =
 some (.inr (s.stk.s k ⟨(s.regs.g t).n, uni (s.regs.g t).hang hg⟩, s.less, s.same, s.held, s.hold, s.out)) := by
 unfold thread_thread_store_2.m
 simp only [place_slot h hk]
 rw [letC]
 dsimp only
 rw [if_pos ht, letC, if_neg ho, if_pos (show -1 - k < 0 by omega)]
 simp only [letC]
 rw [show wr .i64 (-1 - (-1 - k)) = k by rw [wr64 (by omega)]; omega, if_pos (show 0 ≤ k ∧ k < ((400 : Nat) : Int) from hk)]
 rfl
theorem store_cx (h : Lay locs base) (hl : s.out.length ≤ 64) {k hg : Int} (hk : 0 ≤ k ∧ k < locs) (hh : s.hold = k) (ht : R32 t) : thread_thread_store_2.m ⟨15, t, a, b, i⟩ ⟨65536 + 8 * k, hg⟩ code locs base s.ans s.regs s.stk s.less s.same s.held s.ctrl s.fen s.hold s.ev s.out =
 some (if s.out.length = 64 then .inl 5 else .inr (s.stk, false, true, 0, -1, (s.tel 2 k (s.regs.g t).n (wr .i64 (s.ev + 1)) hg (s.regs.g t).hang).out)) := by
 unfold thread_thread_store_2.m
 simp only [place_loc h hk]
 rw [letC]
 dsimp only
 rw [if_pos ht, letC, if_pos trivial, if_pos (show k ≥ 0 by omega), Option.bind_some, decide_eq_true hh.symm, if_pos rfl, tell_eq _ hl, Option.bind_some]
 by_cases c : s.out.length = 64
 ·rw [if_pos c, if_pos c]; rfl
 ·rw [if_neg c, if_neg c]; rfl
end

section
variable {code : List api_Inst} {locs base : Int} {s : M} {t k : Int}
theorem i_ldL (L : Lay locs base) (hl : s.out.length ≤ 64) (ht : R32 t) (hk : 0 ≤ k ∧ k < locs) (h2 : (s.regs.g 2).n = 65536) : stp code locs base s ⟨10, t, 2, 0, 8 * k⟩ =
 some (match s.ans with | [] => .inr 4 | n :: r => if s.out.length = 64 then .inr 5 else .inl (s.rd 10 t k n r (s.regs.g 2).hang, 1)) := by
 have hL := L.l
 unfold stp thread_thread_step_2.m
 dsimp only
 rw [if_pos (show R32 2 by decide), letC, if_pos R0, letC, or_eq (show R32 2 by decide), Option.bind_some]
 simp only [Int.reduceEq, ↓reduceIte]
 have z : zr s 2 = s.regs.g 2 := rfl
 rw [z, h2, show wr .i64 (65536 + 8 * k) = 65536 + 8 * k from wr64 (by omega), load_loc L hl hk ht, Option.bind_some]
 cases s.ans with
 | nil => rfl
 | cons n r =>
  dsimp only
  by_cases c : s.out.length = 64
  ·rw [if_pos c, if_pos c]; rfl
  ·rw [if_neg c, if_neg c]; rfl
theorem i_ldS (L : Lay locs base) (ht : R32 t) (hk : 0 ≤ k ∧ k < 400) (h1 : (s.regs.g 1).n = base) : stp code locs base s ⟨10, t, 1, 0, 8 * k⟩ =
 some (.inl (s.setR t ⟨(s.stk.g k).n, uni (s.stk.g k).hang (s.regs.g 1).hang⟩, 1)) := by
 have hL := L.b
 unfold stp thread_thread_step_2.m
 dsimp only
 rw [if_pos (show R32 1 by decide), letC, if_pos R0, letC, or_eq (show R32 1 by decide), Option.bind_some]
 simp only [Int.reduceEq, ↓reduceIte]
 have z : zr s 1 = s.regs.g 1 := rfl
 rw [z, h1, show wr .i64 (base + 8 * k) = base + 8 * k from wr64 (by omega), load_slot L hk (by decide) ht, Option.bind_some]
 rfl
theorem i_stdL (L : Lay locs base) (hl : s.out.length ≤ 64) (ht : R32 t) (hk : 0 ≤ k ∧ k < locs) (h2 : (s.regs.g 2).n = 65536) : stp code locs base s ⟨11, t, 2, 0, 8 * k⟩ =
 some (if s.out.length = 64 then .inr 5 else .inl (s.tel 2 k (s.regs.g t).n 0 (s.regs.g 2).hang (s.regs.g t).hang, 1)) := by
 have hL := L.l
 unfold stp thread_thread_step_2.m
 dsimp only
 rw [if_pos (show R32 2 by decide), letC, if_pos R0, letC, or_eq (show R32 2 by decide), Option.bind_some]
 simp only [Int.reduceEq, ↓reduceIte]
 have z : zr s 2 = s.regs.g 2 := rfl
 rw [z, h2, show wr .i64 (65536 + 8 * k) = 65536 + 8 * k from wr64 (by omega), store_loc L hl hk (by decide) ht, Option.bind_some]
 by_cases c : s.out.length = 64
 ·rw [if_pos c, if_pos c]; rfl
 ·rw [if_neg c, if_neg c]; rfl
theorem i_stdS (L : Lay locs base) (ht : R32 t) (hk : 0 ≤ k ∧ k < 400) (h1 : (s.regs.g 1).n = base) : stp code locs base s ⟨11, t, 1, 0, 8 * k⟩ =
 some (.inl ({ s with stk := s.stk.s k ⟨(s.regs.g t).n, uni (s.regs.g t).hang (s.regs.g 1).hang⟩ }, 1)) := by
 have hL := L.b
 unfold stp thread_thread_step_2.m
 dsimp only
 rw [if_pos (show R32 1 by decide), letC, if_pos R0, letC, or_eq (show R32 1 by decide), Option.bind_some]
 simp only [Int.reduceEq, ↓reduceIte]
 have z : zr s 1 = s.regs.g 1 := rfl
 rw [z, h1, show wr .i64 (base + 8 * k) = base + 8 * k from wr64 (by omega), store_slot L hk (by decide) ht, Option.bind_some]
 rfl
def ad2 (s : M) : Int := uni (s.regs.g 2).hang (s.regs.g 12).hang
theorem i_ldx (L : Lay locs base) (hl : s.out.length ≤ 64) {op : Int} (ho : op = 12 ∨ op = 14) (ht : R32 t) (hk : 0 ≤ k ∧ k < locs) (h2 : (s.regs.g 2).n = 65536) (h12 : (s.regs.g 12).n = 8 * k) : stp code locs base s ⟨op, t, 2, 12, 0⟩ =
 some (match s.ans with | [] => .inr 4 | n :: r => if s.out.length = 64 then .inr 5 else .inl (s.rd op t k n r (ad2 s), 1)) := by
 have hL := L.l
 unfold stp thread_thread_step_2.m
 dsimp only
 rw [if_pos (show R32 2 by decide), letC, if_pos (show R32 12 by decide), letC, or_eq (show R32 2 by decide), Option.bind_some]
 have z : zr s 2 = s.regs.g 2 := rfl
 have hw : thread_two.m (wr .i64 ((s.regs.g 2).n + (s.regs.g 12).n)) (s.regs.g 2) (s.regs.g 12) = ⟨65536 + 8 * k, ad2 s⟩ := by
  rw [h2, h12, show wr .i64 (65536 + 8 * k) = 65536 + 8 * k from wr64 (by omega)]; rfl
 have key : (thread_thread_load_2.m ⟨op, t, 2, 12, 0⟩ ⟨65536 + 8 * k, ad2 s⟩ code locs base s.ans s.regs s.stk s.less s.same s.held s.ctrl s.fen s.hold s.ev s.out) = _ := load_loc L hl hk ht
 rcases ho with rfl | rfl
 all_goals
  simp only [Int.reduceEq, ↓reduceIte, Option.bind_some, decide_true, letC]
  rw [z, hw, key, Option.bind_some]
  cases s.ans with
  | nil => rfl
  | cons n r =>
   dsimp only
   by_cases c : s.out.length = 64
   ·rw [if_pos c, if_pos c]; rfl
   ·rw [if_neg c, if_neg c]; rfl
theorem i_stdx (L : Lay locs base) (hl : s.out.length ≤ 64) (ht : R32 t) (hk : 0 ≤ k ∧ k < locs) (h2 : (s.regs.g 2).n = 65536) (h12 : (s.regs.g 12).n = 8 * k) : stp code locs base s ⟨13, t, 2, 12, 0⟩ =
 some (if s.out.length = 64 then .inr 5 else .inl (s.tel 2 k (s.regs.g t).n 0 (ad2 s) (s.regs.g t).hang, 1)) := by
 have hL := L.l
 unfold stp thread_thread_step_2.m
 dsimp only
 rw [if_pos (show R32 2 by decide), letC, if_pos (show R32 12 by decide), letC, or_eq (show R32 2 by decide), Option.bind_some]
 have z : zr s 2 = s.regs.g 2 := rfl
 have hw : thread_two.m (wr .i64 ((s.regs.g 2).n + (s.regs.g 12).n)) (s.regs.g 2) (s.regs.g 12) = ⟨65536 + 8 * k, ad2 s⟩ := by
  rw [h2, h12, show wr .i64 (65536 + 8 * k) = 65536 + 8 * k from wr64 (by omega)]; rfl
 simp only [Int.reduceEq, ↓reduceIte, Option.bind_some, decide_true, decide_false, Bool.false_eq_true, letC]
 rw [z, hw, store_loc L hl hk (by decide) ht, Option.bind_some]
 by_cases c : s.out.length = 64
 ·rw [if_pos c, if_pos c]; rfl
 ·rw [if_neg c, if_neg c]; rfl
def M.cx (s : M) (t k : Int) : M := { (s.tel 2 k (s.regs.g t).n (wr .i64 (s.ev + 1)) (ad2 s) (s.regs.g t).hang) with less := false, same := true, held := 0, hold := -1 }
theorem i_stdcx (L : Lay locs base) (hl : s.out.length ≤ 64) (ht : R32 t) (hk : 0 ≤ k ∧ k < locs) (hh : s.hold = k) (h2 : (s.regs.g 2).n = 65536) (h12 : (s.regs.g 12).n = 8 * k) : stp code locs base s ⟨15, t, 2, 12, 0⟩ =
 some (if s.out.length = 64 then .inr 5 else .inl (s.cx t k, 1)) := by
 have hL := L.l
 unfold stp thread_thread_step_2.m
 dsimp only
 rw [if_pos (show R32 2 by decide), letC, if_pos (show R32 12 by decide), letC, or_eq (show R32 2 by decide), Option.bind_some]
 have z : zr s 2 = s.regs.g 2 := rfl
 have hw : thread_two.m (wr .i64 ((s.regs.g 2).n + (s.regs.g 12).n)) (s.regs.g 2) (s.regs.g 12) = ⟨65536 + 8 * k, ad2 s⟩ := by
  rw [h2, h12, show wr .i64 (65536 + 8 * k) = 65536 + 8 * k from wr64 (by omega)]; rfl
 simp only [Int.reduceEq, ↓reduceIte, Option.bind_some, decide_true, decide_false, Bool.false_eq_true, letC]
 rw [z, hw, store_cx L hl hk hh ht, Option.bind_some]
 by_cases c : s.out.length = 64
 ·rw [if_pos c, if_pos c]; rfl
 ·rw [if_neg c, if_neg c]; rfl
end
theorem arr_gs {α : Type} [Inhabited α] {n : Nat} (a : Arr α n) {i j : Int} {x : α} (hi : 0 ≤ i ∧ i < n) (hj : 0 ≤ j ∧ j < n) : (a.s i x).g j = if j = i then x else a.g j := by
 have hl := a.h
 unfold Arr.s Arr.g
 have := gi_set (l := a.l) (i := i.toNat) (j := j) (x := x) (by omega) hj.1 (by omega)
 dsimp only
 rw [this]
 by_cases c : j = i
 ·rw [if_pos c, if_pos (by omega)]
 ·rw [if_neg c, if_neg (by omega)]
theorem arr_self {α : Type} [Inhabited α] {n : Nat} (a : Arr α n) {i : Int} {x : α} (hi : 0 ≤ i ∧ i < n) : (a.s i x).g i = x := by rw [arr_gs a hi hi, if_pos rfl]
theorem arr_ne {α : Type} [Inhabited α] {n : Nat} (a : Arr α n) {i j : Int} {x : α} (hi : 0 ≤ i ∧ i < n) (hj : 0 ≤ j ∧ j < n) (h : j ≠ i) : (a.s i x).g j = a.g j := by rw [arr_gs a hi hj, if_neg h]
end Go.Proofs.Ytbhekpcimmaijaa.W
