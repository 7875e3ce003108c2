/- How values lie in memory; slices that are only read; slices of one's own. -/
import Derived.Test.YtcnchjlomcafeaaHeap
import Derived.Maps.AppendAt
import Derived.Laws.MakeOwn
set_option linter.unusedVariables false
set_option linter.unusedSimpArgs false
set_option linter.unusedSectionVars false
namespace Go.Proofs.Ytcnchjlomcafeaa.B
open Go Go.RowKit

/-- How an element lies in memory: its cells, what they lead to lying in blocks of F. -/
structure Enc (α : Type) where
  sz : Nat
  rep : (Nat → Prop) → World → α → List Value → Prop
  pos : 0 < sz
  len : ∀ {F w x cs}, rep F w x cs → cs.length = sz
  one : ∀ {F w x cs}, rep F w x cs → ∀ u ∈ cs, u.oneCell' = true
  up : ∀ {F G w w' x cs}, rep F w x cs → Up F w G w' → rep G w' x cs
def gi {α : Type} [Inhabited α] (xs : List α) (i : Int) : α := xs.getD i.toNat default
def gn {α : Type} [Inhabited α] (xs : List α) (i : Nat) : α := xs.getD i default
/-- One that lies in its cells alone. -/
def flatE {α : Type} (enc : α → List Value) (sz : Nat) (pos : 0 < sz) (len : ∀ x, (enc x).length = sz) (one : ∀ x, ∀ u ∈ enc x, u.oneCell' = true) : Enc α :=
  ⟨sz, fun _ _ x cs => cs = enc x, pos, fun h => by rw [h, len], fun h => by rw [h]; exact one _, fun h _ => h⟩
def intE (k : IntKind) : Enc Int := flatE (fun x => [.int k x]) 1 Nat.one_pos (fun _ => rfl) (fun x u hu => by simp at hu; subst hu; rfl)
def no : Nat → Prop := fun _ => False
def wz : World := default
theorem upNo (G : Nat → Prop) (w' : World) : Up no wz G w' := fun k h => h.elim
/-- The same, whatever else there is in memory. -/
def Flat {α : Type} (E : Enc α) : Prop := ∀ {F w x cs}, E.rep F w x cs → E.rep no wz x cs

section
variable {α : Type} {E : Enc α} {F G : Nat → Prop} {w w' : World}
inductive Reps (E : Enc α) (F : Nat → Prop) (w : World) : List α → List Value → Prop
  | nil : Reps E F w [] []
  | cons {x : α} {xs : List α} {c cs : List Value} (h : E.rep F w x c) (k : Reps E F w xs cs) : Reps E F w (x :: xs) (c ++ cs)
namespace Reps
theorem up {xs : List α} {cs : List Value} (h : Reps E F w xs cs) (u : Up F w G w') : Reps E G w' xs cs := by
  induction h with
  | nil => exact .nil
  | cons h k ih => exact .cons (E.up h u) ih
theorem flat (hE : Flat E) {xs : List α} {cs : List Value} (h : Reps E F w xs cs) : Reps E no wz xs cs := by
  induction h with
  | nil => exact .nil
  | cons h k ih => exact .cons (hE h) ih
theorem len {xs : List α} {cs : List Value} (h : Reps E F w xs cs) : cs.length = xs.length * E.sz := by
  induction h with
  | nil => simp
  | cons h k ih => rw [List.length_append, E.len h, ih, List.length_cons, Nat.succ_mul, Nat.add_comm]
theorem one_ {x : α} {c : List Value} (h : E.rep F w x c) : Reps E F w [x] c := by have := Reps.cons h .nil; rwa [List.append_nil] at this
theorem mem {xs : List α} {cs : List Value} (h : Reps E F w xs cs) : ∀ u ∈ cs, u.oneCell' = true := by
  induction h with
  | nil => simp
  | cons h k ih =>
    intro u hu
    rcases List.mem_append.1 hu with hu | hu
    · exact E.one h u hu
    · exact ih u hu
theorem append {xs ys : List α} {cs ds : List Value} (h : Reps E F w xs cs) (k : Reps E F w ys ds) : Reps E F w (xs ++ ys) (cs ++ ds) := by
  induction h with
  | nil => exact k
  | cons h _ ih => rw [List.append_assoc]; exact .cons h ih
theorem get {xs : List α} {cs : List Value} (h : Reps E F w xs cs) {i : Nat} {x : α} (hx : xs[i]? = some x) : ∃ c, E.rep F w x c ∧ (cs.drop (i * E.sz)).take E.sz = c := by
  induction h generalizing i with
  | nil => simp at hx
  | cons h k ih =>
    cases i with
    | zero =>
      simp at hx; subst hx
      refine ⟨_, h, ?_⟩
      rw [Nat.zero_mul, List.drop_zero, ← E.len h, List.take_left]
    | succ i =>
      simp at hx
      obtain ⟨c', hc, he⟩ := ih hx
      refine ⟨c', hc, ?_⟩
      rw [← he, Nat.succ_mul, Nat.add_comm, ← List.drop_drop]
      congr 1
      rw [← E.len h, List.drop_left]
theorem drop {xs : List α} {cs : List Value} (h : Reps E F w xs cs) (k : Nat) : Reps E F w (xs.drop k) (cs.drop (k * E.sz)) := by
  induction h generalizing k with
  | nil => simp; exact .nil
  | cons h k' ih =>
    cases k with
    | zero => simp; exact .cons h k'
    | succ k =>
      rw [List.drop_succ_cons, Nat.succ_mul, Nat.add_comm, ← List.drop_drop]
      have := ih k
      rw [← E.len h, List.drop_left]; rw [E.len h]; exact this
theorem take {xs : List α} {cs : List Value} (h : Reps E F w xs cs) (k : Nat) : Reps E F w (xs.take k) (cs.take (k * E.sz)) := by
  induction h generalizing k with
  | nil => simp; exact .nil
  | cons h k' ih =>
    cases k with
    | zero => simp; exact .nil
    | succ k =>
      rename_i c cs
      rw [List.take_succ_cons, Nat.succ_mul, Nat.add_comm, List.take_append]
      rw [List.take_of_length_le (l := c) (show c.length ≤ E.sz + k * E.sz by rw [E.len h]; omega), E.len h, Nat.add_sub_cancel_left]
      exact .cons h (ih k)
theorem set {xs : List α} {cs c : List Value} {y : α} (h : Reps E F w xs cs) {i : Nat} (hi : i < xs.length) (hy : E.rep F w y c) : Reps E F w (xs.set i y) (cs.take (i * E.sz) ++ c ++ cs.drop (i * E.sz + E.sz)) := by
  have h1 := h.take i
  have h2 := h.drop (i + 1)
  have : xs.set i y = xs.take i ++ ([y] ++ xs.drop (i + 1)) := by
    rw [List.set_eq_take_append_cons_drop, if_pos hi]; rfl
  rw [this, List.append_assoc]
  refine h1.append ((one_ hy).append ?_)
  rw [← Nat.succ_mul]; exact h2
theorem replicate {x : α} {c : List Value} (h : E.rep F w x c) : ∀ n, Reps E F w (List.replicate n x) (List.replicate n c).flatten
  | 0 => .nil
  | n + 1 => by simp only [List.replicate_succ, List.flatten_cons]; exact .cons h (replicate h n)
/-- Of what lies in its cells alone. -/
theorem cat {enc : α → List Value} {sz : Nat} {pos : 0 < sz} {len one} : ∀ {xs : List α} {cs : List Value}, Reps (flatE enc sz pos len one) F w xs cs ↔ cs = xs.flatMap enc := by
  intro xs cs
  constructor
  · intro h
    induction h with
    | nil => rfl
    | cons h k ih => rw [List.flatMap_cons, ih]; congr 1
  · rintro rfl
    induction xs with
    | nil => exact .nil
    | cons x xs ih => rw [List.flatMap_cons]; exact .cons rfl ih
end Reps

theorem CellsAt.block {a : Addr} {cs : List Value} (h : CellsAt w a cs) (hw : w'.heap[a.block]? = w.heap[a.block]?) : CellsAt w' a cs := fun j u hu => by
  have hc := h j u hu
  have hb : (a.add j).block = a.block := by unfold Addr.add; split <;> rfl
  rw [World.cell?_of_block (w := w) (by rw [hb]; exact hw)]
  exact hc
theorem CellsAt.part {a : Addr} {cs : List Value} (h : CellsAt w a cs) (k n : Nat) : CellsAt w (a.add k) ((cs.drop k).take n) := cells_sub h rfl

/-- A slice that is only read, its cells in blocks of F. -/
structure RdS (E : Enc α) (F : Nat → Prop) (w : World) (A : Option Addr) (c : Nat) (xs : List α) : Prop where
  len : xs.length ≤ c
  big : xs.length ≤ 140737488355328
  at_ : xs ≠ [] → ∃ a cs, A = some a ∧ F a.block ∧ CellsAt w a cs ∧ Reps E F w xs cs
namespace RdS
variable {A : Option Addr} {c : Nat} {xs : List α}
theorem nil (F : Nat → Prop) (w : World) : RdS E F w none 0 [] := ⟨Nat.le_refl _, Nat.zero_le _, fun h => absurd rfl h⟩
theorem up (h : RdS E F w A c xs) (u : Up F w G w') : RdS E G w' A c xs :=
  ⟨h.len, h.big, fun hne => by
    obtain ⟨a, cs, ha, hf, hc, hr⟩ := h.at_ hne
    exact ⟨a, cs, ha, (u _ hf).1, hc.block (u _ hf).2, hr.up u⟩⟩
/-- Element i. -/
theorem elem [Inhabited α] (h : RdS E F w A c xs) {i : Nat} (hi : i < xs.length) : ∃ a cs, A = some a ∧ F a.block ∧ CellsAt w (a.add (i * E.sz)) cs ∧ E.rep F w (gn xs i) cs := by
  obtain ⟨a, cs, ha, hf, hc, hr⟩ := h.at_ (fun e => by rw [e] at hi; simp at hi)
  obtain ⟨d, hd, he⟩ := hr.get (List.getElem?_eq_getElem hi)
  refine ⟨a, d, ha, hf, he ▸ hc.part _ _, ?_⟩
  have : gn xs i = xs[i] := by simp [gn, hi]
  rw [this]; exact hd
/-- A part of it. -/
theorem drop (h : RdS E F w A c xs) {k : Nat} (hk : k ≤ xs.length) (A' : Option Addr) (hA : A' = if c = k then A else A.map (·.add (k * E.sz))) : RdS E F w A' (c - k) (xs.drop k) :=
  ⟨by have := h.len; simp; omega, by have := h.big; simp; omega, fun hne => by
    have hk' : k < xs.length := by
      rcases Nat.lt_or_ge k xs.length with h' | h'
      · exact h'
      · exact absurd (List.drop_eq_nil_of_le h') hne
    obtain ⟨a, cs, ha, hf, hc, hr⟩ := h.at_ (fun e => by rw [e] at hk'; simp at hk')
    have : ¬ c = k := by have := h.len; omega
    rw [if_neg this, ha] at hA
    refine ⟨a.add (k * E.sz), cs.drop (k * E.sz), hA, by unfold Addr.add; split <;> exact hf, ?_, hr.drop k⟩
    have := hc.part (k * E.sz) (cs.length)
    rwa [List.take_of_length_le (by simp)] at this⟩
theorem take (h : RdS E F w A c xs) {k : Nat} (hk : k ≤ xs.length) : RdS E F w A c (xs.take k) :=
  ⟨by have := h.len; simp; omega, by have := h.big; simp; omega, fun hne => by
    obtain ⟨a, cs, ha, hf, hc, hr⟩ := h.at_ (fun e => by rw [e] at hne; simp at hne)
    refine ⟨a, cs.take (k * E.sz), ha, hf, fun j u hu => hc j u ?_, hr.take k⟩
    rw [List.getElem?_take] at hu
    split at hu
    · exact hu
    · cases hu⟩
theorem cov {R : List Rsc} (h : RdS E F w A c xs) : RdS E (Cov F R) w A c xs := h.up fun k hk => ⟨.inl hk, rfl⟩
end RdS

/-- A slice within an element. -/
def slE (E : Enc α) : Enc (List α) := ⟨1, fun F w x cs => ∃ A c, cs = [.slice A x.length c] ∧ RdS E F w A c x, Nat.one_pos, fun h => by obtain ⟨A, c, rfl, _⟩ := h; rfl, fun h u hu => by
    obtain ⟨A, c, rfl, _⟩ := h
    simp at hu; subst hu; rfl,
  fun h u => by
    obtain ⟨A, c, rfl, h0⟩ := h
    exact ⟨A, c, rfl, h0.up u⟩⟩
/-- A slice in a block of one's own. -/
def Own (E : Enc α) (F : Nat → Prop) (w : World) (e : TypeId) (A : Option Addr) (c : Nat) (xs : List α) (X : Rsc) : Prop :=
  (A = none ∧ c = 0 ∧ xs = [] ∧ X = []) ∨
  ∃ g cur cs, A = some ⟨g, 0, none⟩ ∧ X = [(g, .cells cur e (0, 0))] ∧ xs.length ≤ c ∧ c ≤ maxLen ∧ xs.length ≤ 140737488355328 ∧ cur.size = c * E.sz ∧ cur.toList.take (xs.length * E.sz) = cs ∧ Reps E F w xs cs
namespace Own
variable {M I : Nat → Prop} {w0 wr w1 : World} {R : List Rsc} {i : Nat} {e : TypeId} {A : Option Addr} {c : Nat} {xs : List α} {X : Rsc}
theorem nil (E : Enc α) (F : Nat → Prop) (w : World) (e : TypeId) : Own E F w e none 0 ([] : List α) [] := .inl ⟨rfl, rfl, rfl, rfl⟩
theorem up (o : Own E F w e A c xs X) (u : Up F w G w') : Own E G w' e A c xs X := by
  rcases o with o | ⟨g, cur, cs, h1, h2, h3, h4, h5, h6, h7, h8⟩
  · exact .inl o
  · exact .inr ⟨g, cur, cs, h1, h2, h3, h4, h5, h6, h7, h8.up u⟩
theorem flat (hE : Flat E) (o : Own E F w e A c xs X) : Own E no wz e A c xs X := by
  rcases o with o | ⟨g, cur, cs, h1, h2, h3, h4, h5, h6, h7, h8⟩
  · exact .inl o
  · exact .inr ⟨g, cur, cs, h1, h2, h3, h4, h5, h6, h7, h8.flat hE⟩
theorem any (o : Own E no wz e A c xs X) : Own E F w e A c xs X := o.up (upNo _ _)
theorem row (o : Own E F w e A c xs X) (h : Hp M I w0 wr w1 R) (hi : R[i]? = some X) : ∃ cs, Reps E F w xs cs ∧ w1.ownsRow 0 e E.sz (.slice A xs.length c) xs.length cs := by
  rcases o with ⟨rfl, rfl, rfl, rfl⟩ | ⟨g, cur, cs, rfl, rfl, h1, h2, _, h3, h4, h5⟩
  · exact ⟨[], .nil, by simp, .inl ⟨rfl, rfl⟩⟩
  · exact ⟨cs, h5, h5.len, .inr ⟨g, c, cur, rfl, Nat.zero_le _, h.get hi (j := 0) rfl, h1, h2, h3, h4⟩⟩
theorem big (o : Own E F w e A c xs X) : xs.length ≤ 140737488355328 := by
  rcases o with ⟨rfl, rfl, rfl, rfl⟩ | ⟨g, cur, cs, rfl, rfl, h1, h2, hb, h3, h4⟩
  · simp
  · exact hb
theorem le (o : Own E F w e A c xs X) : xs.length ≤ c := by
  rcases o with ⟨rfl, rfl, rfl, rfl⟩ | ⟨g, cur, cs, rfl, rfl, h1, h2, hb, h3, h4⟩
  · simp
  · exact h1
/-- It can be read. -/
theorem rd_ (o : Own E F w e A c xs X) (hX : ∀ p ∈ X, w1.heap[p.1]? = some p.2) (u : Up F w G w1) (hG : ∀ p ∈ X, G p.1) : RdS E G w1 A c xs := by
  rcases o with ⟨rfl, rfl, rfl, rfl⟩ | ⟨g, cur, cs, rfl, rfl, h1, h2, hb, h3, h4, h5⟩
  · exact RdS.nil _ _
  · refine ⟨h1, hb, fun _ => ⟨_, cs, rfl, hG _ (List.mem_singleton.2 rfl), fun j u hu => ?_, h5.up u⟩⟩
    rw [add_none]
    refine cell_at (hX _ (List.mem_singleton.2 rfl)) ?_
    rw [← h4, List.getElem?_take] at hu
    split at hu
    · rw [Nat.zero_add, ← Array.getElem?_toList]; exact hu
    · cases hu
theorem rd (o : Own E I wr e A c xs X) (h : Hp M I w0 wr w1 R) (hi : R[i]? = some X) : RdS E (Cov I R) w1 A c xs :=
  o.rd_ (fun p hp => h.own p (List.mem_flatten.2 ⟨X, List.mem_of_getElem? hi, hp⟩)) (fun k hk => ⟨.inl hk, h.imm k hk⟩) fun p hp => .inr ⟨p, List.mem_flatten.2 ⟨X, List.mem_of_getElem? hi, hp⟩, rfl⟩
/-- It is let go. -/
theorem froze (o : Own E I wr e A c xs X) (h : Hp M I w0 wr w1 (X :: R)) : RdS E (fun k => I k ∨ On [X] k) w1 A c xs :=
  o.rd_ (fun p hp => h.own p (by simp only [List.flatten_cons, List.mem_append]; exact .inl hp)) (fun k hk => ⟨.inl hk, h.imm k hk⟩) fun p hp => .inr ⟨p, by simpa using hp, rfl⟩
end Own
theorem RdS.now {M I : Nat → Prop} {w0 wr w1 : World} {R : List Rsc} {A : Option Addr} {c : Nat} {xs : List α} (r : RdS E I wr A c xs) (h : Hp M I w0 wr w1 R) : RdS E I w1 A c xs := r.up h.up
theorem RdS.pass {M I : Nat → Prop} {w0 wr w1 : World} {R Rest : List Rsc} {A : Option Addr} {c : Nat} {xs : List α} (r : RdS E I wr A c xs) (h : Hp M I w0 wr w1 R) : RdS E (Cov I Rest) w1 A c xs := (r.now h).cov
theorem Own.pass {M I : Nat → Prop} {w0 wr w1 : World} {R Rest : List Rsc} {i : Nat} {e : TypeId} {A : Option Addr} {c : Nat} {xs : List α} {X : Rsc} (o : Own E I wr e A c xs X) (h : Hp M I w0 wr w1 R) (hs : ∀ p ∈ Rest.flatten, p ∈ R.flatten) (hi : Rest[i]? = some X) : RdS E (Cov I Rest) w1 A c xs :=
  o.rd_ (fun p hp => h.own p (hs p (List.mem_flatten.2 ⟨X, List.mem_of_getElem? hi, hp⟩))) (fun k hk => ⟨.inl hk, h.imm k hk⟩) fun p hp => .inr ⟨p, List.mem_flatten.2 ⟨X, List.mem_of_getElem? hi, hp⟩, rfl⟩

/-- Of one resource's new form. -/
theorem Hp.swap {M I : Nat → Prop} {w0 wr w w' : World} {R : List Rsc} {i : Nat} {X X' : Rsc} (h : Hp M I w0 wr w R) (hi : R[i]? = some X) {row : Option Nat} (hg : w.grownBy w' row) (hr : ∀ k, row = some k → ∃ p ∈ X, p.1 = k)
    (hown : ∀ p ∈ X', w'.heap[p.1]? = some p.2) (hk : ∀ p ∈ X', (∃ q ∈ X, q.1 = p.1) ∨ w.heap.size ≤ p.1) (hn : (X'.map (·.1)).Nodup) : Hp M I w0 wr w' (R.set i X') := by
  have hlen : i < R.length := (List.getElem?_eq_some_iff.1 hi).1
  have hX : X = R[i] := by rw [List.getElem?_eq_getElem hlen] at hi; exact (Option.some.inj hi).symm
  have hsplit : R = R.take i ++ X :: R.drop (i + 1) := by rw [hX]; simp [List.getElem_cons_drop]
  have hset : R.set i X' = R.take i ++ X' :: R.drop (i + 1) := by
    rw [List.set_eq_take_append_cons_drop, if_pos hlen]
  have hrow : ∀ k, row = some k → k < w.heap.size ∧ ∃ p ∈ R.flatten, p.1 = k := by
    intro k hk
    obtain ⟨p, hp, rfl⟩ := hr k hk
    have : p ∈ R.flatten := List.mem_flatten.2 ⟨X, List.mem_of_getElem? hi, hp⟩
    exact ⟨h.lt this, p, this, rfl⟩
  have hfl : ∀ p, p ∈ (R.set i X').flatten → p ∈ X' ∨ (p ∈ R.flatten ∧ ∀ q ∈ X, q.1 ≠ p.1) := by
    intro p hp
    rw [hset] at hp
    simp only [List.flatten_append, List.flatten_cons, List.mem_append] at hp
    have hnd := h.nodup
    rw [hsplit] at hnd
    simp only [List.flatten_append, List.flatten_cons, List.map_append, List.nodup_append] at hnd
    rcases hp with hp | hp | hp
    · refine .inr ⟨?_, fun q hq e => ?_⟩
      · rw [hsplit]; simp only [List.flatten_append, List.flatten_cons, List.mem_append]; exact .inl hp
      · exact hnd.2.2 _ (List.mem_map.2 ⟨p, hp, rfl⟩) _ (List.mem_append.2 (.inl (List.mem_map.2 ⟨q, hq, rfl⟩))) e.symm
    · exact .inl hp
    · refine .inr ⟨?_, fun q hq e => ?_⟩
      · rw [hsplit]; simp only [List.flatten_append, List.flatten_cons, List.mem_append]; exact .inr (.inr hp)
      · exact hnd.2.1.2.2 _ (List.mem_map.2 ⟨q, hq, rfl⟩) _ (List.mem_map.2 ⟨p, hp, rfl⟩) e
  refine ⟨hg.os.trans h.os, hg.tape.trans h.tape, hg.output.trans h.output, Nat.le_trans h.le hg.size, ?_, ?_, ?_, ?_, ?_, ?_⟩
  · intro k hk hm
    refine (hg.block k (Nat.lt_of_lt_of_le hk h.le) fun e => ?_).trans (h.old k hk hm)
    obtain ⟨_, p, hp, rfl⟩ := hrow k e.symm
    rcases (h.fresh p hp).1 with hM | hM
    · exact hm hM
    · omega
  · intro k hk
    refine (hg.block k (h.ilt k hk) fun e => ?_).trans (h.imm k hk)
    obtain ⟨_, p, hp, rfl⟩ := hrow k e.symm
    exact (h.fresh p hp).2 hk
  · intro k hk; exact Nat.lt_of_lt_of_le (h.ilt k hk) hg.size
  · intro p hp
    rcases hfl p hp with hp | ⟨hp, hne⟩
    · exact hown p hp
    · refine (hg.block _ (h.lt hp) fun e => ?_).trans (h.own p hp)
      obtain ⟨q, hq, hqk⟩ := hr _ e.symm
      exact hne q hq hqk
  · intro p hp
    rcases hfl p hp with hp | ⟨hp, hne⟩
    · rcases hk p hp with ⟨q, hq, hqk⟩ | hle
      · rw [← hqk]; exact h.fresh q (List.mem_flatten.2 ⟨X, List.mem_of_getElem? hi, hq⟩)
      · exact ⟨.inr (Nat.le_trans h.le hle), fun hi => by have := h.ilt _ hi; omega⟩
    · exact h.fresh p hp
  · have hnd := h.nodup
    rw [hsplit] at hnd
    rw [hset]
    simp only [List.flatten_append, List.flatten_cons, List.map_append, List.nodup_append] at hnd ⊢
    have old : ∀ p ∈ X', ∀ q ∈ R.flatten, (∀ z ∈ X, z.1 ≠ q.1) → p.1 ≠ q.1 := by
      intro p hp q hq hne e
      rcases hk p hp with ⟨z, hz, hzk⟩ | hle
      · exact hne z hz (hzk.trans e)
      · have := h.lt hq; omega
    have inL : ∀ q ∈ (R.take i).flatten, q ∈ R.flatten := fun q hq => by rw [hsplit]; simp only [List.flatten_append, List.mem_append]; exact .inl hq
    have inR : ∀ q ∈ (R.drop (i + 1)).flatten, q ∈ R.flatten := fun q hq => by rw [hsplit]; simp only [List.flatten_append, List.flatten_cons, List.mem_append]; exact .inr (.inr hq)
    refine ⟨hnd.1, ⟨hn, hnd.2.1.2.1, ?_⟩, ?_⟩
    · intro x hx y hy
      obtain ⟨p, hp, rfl⟩ := List.mem_map.1 hx
      obtain ⟨q, hq, rfl⟩ := List.mem_map.1 hy
      exact old p hp q (inR q hq) fun z hz => hnd.2.1.2.2 _ (List.mem_map.2 ⟨z, hz, rfl⟩) _ (List.mem_map.2 ⟨q, hq, rfl⟩)
    · intro x hx y hy
      obtain ⟨p, hp, rfl⟩ := List.mem_map.1 hx
      rcases List.mem_append.1 hy with hy | hy
      · obtain ⟨q, hq, rfl⟩ := List.mem_map.1 hy
        exact (old q hq p (inL p hp) fun z hz => (hnd.2.2 _ (List.mem_map.2 ⟨p, hp, rfl⟩) _ (List.mem_append.2 (.inl (List.mem_map.2 ⟨z, hz, rfl⟩)))).symm).symm
      · exact hnd.2.2 _ (List.mem_map.2 ⟨p, hp, rfl⟩) _ (List.mem_append.2 (.inr hy))
end
end Go.Proofs.Ytcnchjlomcafeaa.B
