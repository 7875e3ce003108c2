/- Slices: that are only read; that the call owns. -/
import Derived.Test.YtallojficgiemaaStep
import Derived.Maps.AppendAt
import Derived.Laws.MakeOwn
set_option linter.unusedVariables false
set_option linter.unusedSimpArgs false
set_option linter.unusedSectionVars false
namespace Go.Proofs.Ytallojficgiemaa.B
open Go Go.RowKit

/-- How an element lies in memory. -/
structure Enc (α : Type) where
  enc : α → List Value
  sz : Nat
  dflt : α
  len : ∀ x, (enc x).length = sz
  pos : 0 < sz
  one : ∀ x, ∀ u ∈ enc x, u.oneCell' = true
def gi {α : Type} (E : Enc α) (xs : List α) (i : Int) : α := xs.getD i.toNat E.dflt
def gn {α : Type} (E : Enc α) (xs : List α) (i : Nat) : α := xs.getD i E.dflt
theorem one_of {v : Value} (h : v.oneCell' = true) : B.one v = true := by cases v <;> first | rfl | (simp [Value.oneCell'] at h)
def intE (k : IntKind) : Enc Int := ⟨fun x => [.int k x], 1, 0, fun _ => rfl, Nat.one_pos, fun x u hu => by simp at hu; subst hu; rfl⟩
def boolE : Enc Bool := ⟨fun x => [.bool x], 1, false, fun _ => rfl, Nat.one_pos, fun x u hu => by simp at hu; subst hu; rfl⟩
def strE : Enc ByteArray := ⟨fun x => [.string x], 1, ByteArray.empty, fun _ => rfl, Nat.one_pos, fun x u hu => by simp at hu; subst hu; rfl⟩
def floatE (k : FloatKind) : Enc Nat := ⟨fun x => [.float k x], 1, 0, fun _ => rfl, Nat.one_pos, fun x u hu => by simp at hu; subst hu; rfl⟩

section
variable {α : Type} {E : Enc α}
def cat (E : Enc α) (xs : List α) : List Value := xs.flatMap E.enc
theorem cat_len (xs : List α) : (cat E xs).length = xs.length * E.sz := by
  induction xs with
  | nil => simp [cat]
  | cons x xs ih => simp only [cat, List.flatMap_cons, List.length_append, E.len, List.length_cons] at ih ⊢; rw [ih, Nat.succ_mul, Nat.add_comm]
theorem cat_append (xs ys : List α) : cat E (xs ++ ys) = cat E xs ++ cat E ys := by simp [cat]
theorem cat_one (x : α) : cat E [x] = E.enc x := by simp [cat]
theorem cat_one_mem {xs : List α} {u : Value} (h : u ∈ cat E xs) : u.oneCell' = true := by
  obtain ⟨x, _, hx⟩ := List.mem_flatMap.1 h
  exact E.one x u hx
theorem cat_get {xs : List α} {i j : Nat} {x : α} {u : Value} (hx : xs[i]? = some x) (hu : (E.enc x)[j]? = some u) : (cat E xs)[i * E.sz + j]? = some u := by
  induction xs generalizing i with
  | nil => simp at hx
  | cons y xs ih =>
    simp only [cat, List.flatMap_cons]
    cases i with
    | zero =>
      simp at hx; subst hx
      have := (List.getElem?_eq_some_iff.1 hu).1
      rw [Nat.zero_mul, Nat.zero_add, List.getElem?_append_left this, hu]
    | succ i =>
      simp at hx
      rw [List.getElem?_append_right (by rw [E.len, Nat.succ_mul]; omega), E.len]
      rw [show (i + 1) * E.sz + j - E.sz = i * E.sz + j by rw [Nat.succ_mul]; omega]
      exact ih hx
theorem cat_back {xs : List α} {i j : Nat} {u : Value} (hj : j < E.sz) (hu : (cat E xs)[i * E.sz + j]? = some u) : ∃ x, xs[i]? = some x ∧ (E.enc x)[j]? = some u := by
  have hlt := (List.getElem?_eq_some_iff.1 hu).1
  rw [cat_len] at hlt
  have hi : i < xs.length := by
    rcases Nat.lt_or_ge i xs.length with h | h
    · exact h
    · have := Nat.mul_le_mul_right E.sz h; omega
  have hx := List.getElem?_eq_getElem hi
  refine ⟨_, hx, ?_⟩
  have hl : j < (E.enc xs[i]).length := by rw [E.len]; exact hj
  have h2 := cat_get (E := E) hx (List.getElem?_eq_getElem hl)
  rw [hu] at h2
  rw [List.getElem?_eq_getElem hl]; exact h2.symm

/-- A slice that is only read, its cells in blocks of F. -/
structure RdS (E : Enc α) (F : Nat → Prop) (w : World) (A : Option Addr) (c : Nat) (xs : List α) : Prop where
  len : xs.length ≤ c
  big : xs.length ≤ 140737488355328
  at_ : xs ≠ [] → ∃ a, A = some a ∧ F a.block ∧ CellsAt w a (cat E xs)
namespace RdS
variable {F G : Nat → Prop} {w w' : World} {A : Option Addr} {c : Nat} {xs : List α}
theorem nil (F : Nat → Prop) (w : World) : RdS E F w none 0 [] := ⟨Nat.le_refl _, Nat.zero_le _, fun h => absurd rfl h⟩
theorem move (h : RdS E F w A c xs) (hw : ∀ k, F k → w'.heap[k]? = w.heap[k]?) (hF : ∀ k, F k → G k) : RdS E G w' A c xs :=
  ⟨h.len, h.big, fun hne => by
    obtain ⟨a, ha, hf, hc⟩ := h.at_ hne
    refine ⟨a, ha, hF _ hf, fun j u hu => ?_⟩
    have hcell := hc j u hu
    have hb : (a.add j).block = a.block := by unfold Addr.add; split <;> rfl
    rw [World.cell?_of_block (w := w) (by rw [hb]; exact hw _ hf)]
    exact hcell⟩
theorem lt (h : RdS E F w A c xs) (hne : xs ≠ []) : ∃ a, A = some a ∧ F a.block ∧ a.block < w.heap.size := by
  obtain ⟨a, ha, hf, hc⟩ := h.at_ hne
  obtain ⟨x, r, rfl⟩ : ∃ x r, xs = x :: r := by cases xs with | nil => exact absurd rfl hne | cons x r => exact ⟨x, r, rfl⟩
  have hpos : 0 < (cat E (x :: r)).length := by rw [cat_len]; exact Nat.mul_pos (by simp) E.pos
  have h0 := hc 0 _ (List.getElem?_eq_getElem hpos)
  exact ⟨a, ha, hf, World.block_lt_of_cell? w a h0⟩
/-- What is read lies in blocks that are there. -/
theorem closed (h : RdS E F w A c xs) : RdS E (fun k => k < w.heap.size) w A c xs :=
  ⟨h.len, h.big, fun hne => by
    obtain ⟨a, ha, _, hc⟩ := h.at_ hne
    obtain ⟨a', ha', _, hlt⟩ := h.lt hne
    rw [ha] at ha'; injection ha' with ha'; subst ha'
    exact ⟨a, ha, hlt, hc⟩⟩
/-- Element i. -/
theorem elem (h : RdS E F w A c xs) {i : Nat} (hi : i < xs.length) : ∃ a, A = some a ∧ CellsAt w (a.add (i * E.sz)) (E.enc (gn E xs i)) := by
  obtain ⟨a, ha, _, hc⟩ := h.at_ (fun e => by rw [e] at hi; simp at hi)
  refine ⟨a, ha, fun j u hu => ?_⟩
  rw [add_add]
  refine hc _ u (cat_get (List.getElem?_eq_getElem hi) ?_)
  have : gn E xs i = xs[i] := by simp [gn, hi]
  rw [← this]; exact hu
/-- A part of it. -/
theorem drop (h : RdS E F w A c xs) {k : Nat} (hk : k ≤ xs.length) (A' : Option Addr) (hA : A' = if c = k then A else A.map (·.add (k * E.sz))) : RdS E F w A' (c - k) (xs.drop k) :=
  ⟨by have := h.len; simp; omega, by have := h.big; simp; omega, fun hne => by
    have hk' : k < xs.length := by
      rcases Nat.lt_or_ge k xs.length with h' | h'
      · exact h'
      · exact absurd (List.drop_eq_nil_of_le h') hne
    obtain ⟨a, ha, hf, hc⟩ := h.at_ (fun e => by rw [e] at hk'; simp at hk')
    have : ¬ c = k := by have := h.len; omega
    rw [if_neg this, ha] at hA
    refine ⟨a.add (k * E.sz), hA, by unfold Addr.add; split <;> exact hf, fun j u hu => ?_⟩
    rw [add_add]
    refine hc _ u ?_
    have : cat E xs = cat E (xs.take k) ++ cat E (xs.drop k) := by rw [← cat_append, List.take_append_drop]
    rw [this, List.getElem?_append_right (by rw [cat_len]; simp; rw [Nat.min_eq_left hk]; omega), cat_len]
    simp only [List.length_take, Nat.min_eq_left hk]
    rw [Nat.add_sub_cancel_left]; exact hu⟩
theorem take (h : RdS E F w A c xs) {k : Nat} (hk : k ≤ xs.length) : RdS E F w A c (xs.take k) :=
  ⟨by have := h.len; simp; omega, by have := h.big; simp; omega, fun hne => by
    obtain ⟨a, ha, hf, hc⟩ := h.at_ (fun e => by rw [e] at hne; simp at hne)
    refine ⟨a, ha, hf, fun j u hu => hc j u ?_⟩
    have : cat E xs = cat E (xs.take k) ++ cat E (xs.drop k) := by rw [← cat_append, List.take_append_drop]
    rw [this, List.getElem?_append_left ((List.getElem?_eq_some_iff.1 hu).1)]; exact hu⟩
end RdS

/-- A slice in a block of one's own. -/
def Own (E : Enc α) (e : TypeId) (A : Option Addr) (c : Nat) (xs : List α) (X : Rsc) : Prop :=
  (A = none ∧ c = 0 ∧ xs = [] ∧ X = []) ∨
  ∃ g cur, A = some ⟨g, 0, none⟩ ∧ X = [(g, .cells cur e (0, 0))] ∧ xs.length ≤ c ∧ c ≤ maxLen ∧ xs.length ≤ 140737488355328 ∧ cur.size = c * E.sz ∧ cur.toList.take (xs.length * E.sz) = cat E xs
namespace Own
variable {M I : Nat → Prop} {w0 wr w : World} {R : List Rsc} {i : Nat} {e : TypeId} {A : Option Addr} {c : Nat} {xs : List α} {X : Rsc}
theorem nil (E : Enc α) (e : TypeId) : Own E e none 0 ([] : List α) [] := .inl ⟨rfl, rfl, rfl, rfl⟩
theorem row (o : Own E e A c xs X) (h : Hp M I w0 wr w R) (hi : R[i]? = some X) : w.ownsRow 0 e E.sz (.slice A xs.length c) xs.length (cat E xs) := by
  refine ⟨cat_len xs, ?_⟩
  rcases o with ⟨rfl, rfl, rfl, rfl⟩ | ⟨g, cur, rfl, rfl, h1, h2, _, h3, h4⟩
  · exact .inl ⟨rfl, rfl⟩
  · exact .inr ⟨g, c, cur, rfl, Nat.zero_le _, h.get hi (j := 0) rfl, h1, h2, h3, h4⟩
theorem big (o : Own E e A c xs X) : xs.length ≤ 140737488355328 := by
  rcases o with ⟨rfl, rfl, rfl, rfl⟩ | ⟨g, cur, rfl, rfl, h1, h2, hb, h3, h4⟩
  · simp
  · exact hb
theorem le (o : Own E e A c xs X) : xs.length ≤ c := by
  rcases o with ⟨rfl, rfl, rfl, rfl⟩ | ⟨g, cur, rfl, rfl, h1, h2, hb, h3, h4⟩
  · simp
  · exact h1
/-- It can be read. -/
theorem rd (o : Own E e A c xs X) (h : Hp M I w0 wr w R) (hi : R[i]? = some X) : RdS E (fun k => ∃ p ∈ X, p.1 = k) w A c xs := by
  rcases o with ⟨rfl, rfl, rfl, rfl⟩ | ⟨g, cur, rfl, rfl, h1, h2, hb, h3, h4⟩
  · exact RdS.nil _ _
  · refine ⟨h1, hb, fun _ => ⟨_, rfl, ⟨_, List.mem_singleton.2 rfl, rfl⟩, fun j u hu => ?_⟩⟩
    rw [add_none]
    refine cell_at (h.get hi (j := 0) rfl) ?_
    rw [← h4, List.getElem?_take] at hu
    split at hu
    · rw [Nat.zero_add, ← Array.getElem?_toList]; exact hu
    · cases hu
end Own

/-- Of one resource's new form. -/
theorem Hp.swap {M I : Nat → Prop} {w0 wr w w' : World} {R : List Rsc} {i : Nat} {X X' : Rsc} (h : Hp M I w0 wr w R) (hi : R[i]? = some X) {row : Option Nat} (hg : w.grownBy w' row) (hr : ∀ k, row = some k → ∃ p ∈ X, p.1 = k)
    (hown : ∀ p ∈ X', w'.heap[p.1]? = some p.2) (hk : ∀ p ∈ X', (∃ q ∈ X, q.1 = p.1) ∨ w.heap.size ≤ p.1) (hn : (X'.map (·.1)).Nodup) : Hp M I w0 wr w' (R.set i X') := by
  have hlen : i < R.length := (List.getElem?_eq_some_iff.1 hi).1
  have hX : X = R[i] := by rw [List.getElem?_eq_getElem hlen] at hi; exact (Option.some.inj hi).symm
  have hsplit : R = R.take i ++ X :: R.drop (i + 1) := by rw [hX]; simp [List.getElem_cons_drop]
  have hset : R.set i X' = R.take i ++ X' :: R.drop (i + 1) := by
    rw [List.set_eq_take_append_cons_drop, if_pos hlen]
  have hrow : ∀ k, row = some k → k < w.heap.size ∧ ∃ p ∈ R.flatten, p.1 = k := by
    intro k hk
    obtain ⟨p, hp, rfl⟩ := hr k hk
    have : p ∈ R.flatten := List.mem_flatten.2 ⟨X, List.mem_of_getElem? hi, hp⟩
    exact ⟨h.lt this, p, this, rfl⟩
  have hfl : ∀ p, p ∈ (R.set i X').flatten → p ∈ X' ∨ (p ∈ R.flatten ∧ ∀ q ∈ X, q.1 ≠ p.1) := by
    intro p hp
    rw [hset] at hp
    simp only [List.flatten_append, List.flatten_cons, List.mem_append] at hp
    have hnd := h.nodup
    rw [hsplit] at hnd
    simp only [List.flatten_append, List.flatten_cons, List.map_append, List.nodup_append] at hnd
    rcases hp with hp | hp | hp
    · refine .inr ⟨?_, fun q hq e => ?_⟩
      · rw [hsplit]; simp only [List.flatten_append, List.flatten_cons, List.mem_append]; exact .inl hp
      · exact hnd.2.2 _ (List.mem_map.2 ⟨p, hp, rfl⟩) _ (List.mem_append.2 (.inl (List.mem_map.2 ⟨q, hq, rfl⟩))) e.symm
    · exact .inl hp
    · refine .inr ⟨?_, fun q hq e => ?_⟩
      · rw [hsplit]; simp only [List.flatten_append, List.flatten_cons, List.mem_append]; exact .inr (.inr hp)
      · exact hnd.2.1.2.2 _ (List.mem_map.2 ⟨q, hq, rfl⟩) _ (List.mem_map.2 ⟨p, hp, rfl⟩) e
  refine ⟨hg.os.trans h.os, hg.tape.trans h.tape, hg.output.trans h.output, Nat.le_trans h.le hg.size, ?_, ?_, ?_, ?_, ?_, ?_⟩
  · intro k hk hm
    refine (hg.block k (Nat.lt_of_lt_of_le hk h.le) fun e => ?_).trans (h.old k hk hm)
    obtain ⟨_, p, hp, rfl⟩ := hrow k e.symm
    rcases (h.fresh p hp).1 with hM | hM
    · exact hm hM
    · omega
  · intro k hk
    refine (hg.block k (h.ilt k hk) fun e => ?_).trans (h.imm k hk)
    obtain ⟨_, p, hp, rfl⟩ := hrow k e.symm
    exact (h.fresh p hp).2 hk
  · intro k hk; exact Nat.lt_of_lt_of_le (h.ilt k hk) hg.size
  · intro p hp
    rcases hfl p hp with hp | ⟨hp, hne⟩
    · exact hown p hp
    · refine (hg.block _ (h.lt hp) fun e => ?_).trans (h.own p hp)
      obtain ⟨q, hq, hqk⟩ := hr _ e.symm
      exact hne q hq hqk
  · intro p hp
    rcases hfl p hp with hp | ⟨hp, hne⟩
    · rcases hk p hp with ⟨q, hq, hqk⟩ | hle
      · rw [← hqk]; exact h.fresh q (List.mem_flatten.2 ⟨X, List.mem_of_getElem? hi, hq⟩)
      · exact ⟨.inr (Nat.le_trans h.le hle), fun hi => by have := h.ilt _ hi; omega⟩
    · exact h.fresh p hp
  · have hnd := h.nodup
    rw [hsplit] at hnd
    rw [hset]
    simp only [List.flatten_append, List.flatten_cons, List.map_append, List.nodup_append] at hnd ⊢
    have old : ∀ p ∈ X', ∀ q ∈ R.flatten, (∀ z ∈ X, z.1 ≠ q.1) → p.1 ≠ q.1 := by
      intro p hp q hq hne e
      rcases hk p hp with ⟨z, hz, hzk⟩ | hle
      · exact hne z hz (hzk.trans e)
      · have := h.lt hq; omega
    have inL : ∀ q ∈ (R.take i).flatten, q ∈ R.flatten := fun q hq => by rw [hsplit]; simp only [List.flatten_append, List.mem_append]; exact .inl hq
    have inR : ∀ q ∈ (R.drop (i + 1)).flatten, q ∈ R.flatten := fun q hq => by rw [hsplit]; simp only [List.flatten_append, List.flatten_cons, List.mem_append]; exact .inr (.inr hq)
    refine ⟨hnd.1, ⟨hn, hnd.2.1.2.1, ?_⟩, ?_⟩
    · intro x hx y hy
      obtain ⟨p, hp, rfl⟩ := List.mem_map.1 hx
      obtain ⟨q, hq, rfl⟩ := List.mem_map.1 hy
      exact old p hp q (inR q hq) fun z hz => hnd.2.1.2.2 _ (List.mem_map.2 ⟨z, hz, rfl⟩) _ (List.mem_map.2 ⟨q, hq, rfl⟩)
    · intro x hx y hy
      obtain ⟨p, hp, rfl⟩ := List.mem_map.1 hx
      rcases List.mem_append.1 hy with hy | hy
      · obtain ⟨q, hq, rfl⟩ := List.mem_map.1 hy
        exact (old q hq p (inL p hp) fun z hz => (hnd.2.2 _ (List.mem_map.2 ⟨p, hp, rfl⟩) _ (List.mem_append.2 (.inl (List.mem_map.2 ⟨z, hz, rfl⟩)))).symm).symm
      · exact hnd.2.2 _ (List.mem_map.2 ⟨p, hp, rfl⟩) _ (List.mem_append.2 (.inr hy))
end
end Go.Proofs.Ytallojficgiemaa.B
