/- Memory that a call owns, as a list of blocks; memory that it only reads. -/
import Derived.Test.YtcnchjlomcafeaaOps
set_option linter.unusedVariables false
set_option linter.unusedSimpArgs false
set_option linter.unusedSectionVars false
namespace Go.Proofs.Ytcnchjlomcafeaa.B
open Go Go.RowKit

abbrev Rsc := List (Nat × Obj)
/-- What is known of the world w: it was w0 at the beginning; blocks of M may have turned; blocks of I are as in wr; R is owned. -/
structure Hp (M I : Nat → Prop) (w0 wr w : World) (R : List Rsc) : Prop where
  os : w.os = w0.os
  tape : w.tape = w0.tape
  output : w.output = w0.output
  le : w0.heap.size ≤ w.heap.size
  old : ∀ k, k < w0.heap.size → ¬ M k → w.heap[k]? = w0.heap[k]?
  imm : ∀ k, I k → w.heap[k]? = wr.heap[k]?
  ilt : ∀ k, I k → k < w.heap.size
  own : ∀ p ∈ R.flatten, w.heap[p.1]? = some p.2
  fresh : ∀ p ∈ R.flatten, (M p.1 ∨ w0.heap.size ≤ p.1) ∧ ¬ I p.1
  nodup : (R.flatten.map (·.1)).Nodup

theorem hlt {w : World} {k : Nat} {o : Obj} (h : w.heap[k]? = some o) : k < w.heap.size := (Array.getElem?_eq_some_iff.1 h).1

namespace Hp
variable {M I : Nat → Prop} {w0 wr w : World} {R : List Rsc}

theorem below (h : Hp (fun _ => False) I w0 wr w R) : Below w0.heap.size w0 w := ⟨h.os, h.tape, h.output, h.le, fun k hk => h.old k hk id⟩
theorem lt (h : Hp M I w0 wr w R) {p : Nat × Obj} (hp : p ∈ R.flatten) : p.1 < w.heap.size := hlt (h.own p hp)
theorem mem {i j : Nat} {r : Rsc} {p : Nat × Obj} (hi : R[i]? = some r) (hj : r[j]? = some p) : p ∈ R.flatten :=
  List.mem_flatten.2 ⟨r, List.mem_of_getElem? hi, List.mem_of_getElem? hj⟩
theorem get (h : Hp M I w0 wr w R) {i j b : Nat} {r : Rsc} {o : Obj} (hi : R[i]? = some r) (hj : r[j]? = some (b, o)) : w.heap[b]? = some o := h.own (b, o) (mem hi hj)
/-- A new block. -/
theorem alloc (h : Hp M I w0 wr w R) (o : Obj) : Hp M I w0 wr { w with heap := w.heap.push o } (R ++ [[(w.heap.size, o)]]) := by
  have hk : ∀ k, k < w.heap.size → (w.heap.push o)[k]? = w.heap[k]? := fun k hk => by rw [Array.getElem?_push, if_neg (by omega)]
  refine ⟨h.os, h.tape, h.output, ?_, ?_, ?_, ?_, ?_, ?_, ?_⟩
  · have := h.le; simp; omega
  · intro k h1 h2
    exact (hk k (Nat.lt_of_lt_of_le h1 h.le)).trans (h.old k h1 h2)
  · intro k hi
    exact (hk k (h.ilt k hi)).trans (h.imm k hi)
  · intro k hi
    have := h.ilt k hi
    simp; omega
  · intro p hp
    rw [List.flatten_append, List.mem_append] at hp
    rcases hp with hp | hp
    · exact (hk _ (h.lt hp)).trans (h.own p hp)
    · simp at hp; subst hp; simp
  · intro p hp
    rw [List.flatten_append, List.mem_append] at hp
    rcases hp with hp | hp
    · exact h.fresh p hp
    · simp at hp; subst hp
      exact ⟨.inr h.le, fun hi => by have := h.ilt _ hi; simp at this⟩
  · rw [List.flatten_append, List.map_append, List.nodup_append]
    refine ⟨h.nodup, by simp, ?_⟩
    intro x hx y hy
    obtain ⟨p, hp, rfl⟩ := List.mem_map.1 hx
    have := h.lt hp
    simp at hy; subst hy
    omega
/-- Draws turn no block. -/
theorem drawn (h : Hp M I w0 wr w R) (m : Nat) : Hp M I w0 wr { w with drawn := m } R :=
  ⟨h.os, h.tape, h.output, h.le, h.old, h.imm, h.ilt, h.own, h.fresh, h.nodup⟩
theorem keys_set {R : List Rsc} {i j b : Nat} {r : Rsc} {o o' : Obj} (hi : R[i]? = some r) (hj : r[j]? = some (b, o)) :
    ((R.set i (r.set j (b, o'))).flatten.map (·.1)) = R.flatten.map (·.1) := by
  induction R generalizing i with
  | nil => simp at hi
  | cons q R ih =>
    cases i with
    | zero =>
      simp at hi; subst hi
      simp only [List.set_cons_zero, List.flatten_cons, List.map_append]
      congr 1
      apply List.ext_getElem?
      intro m
      simp only [List.getElem?_map, List.getElem?_set]
      split
      · rename_i e; subst e
        split
        · simp [hj]
        · rename_i hl; simp at hl; simp [List.getElem?_eq_none hl] at hj
      · rfl
    | succ i => simp at hi; simp [ih hi]
theorem mem_set {R : List Rsc} {i j b : Nat} {r : Rsc} {o o' : Obj} (hi : R[i]? = some r) (hj : r[j]? = some (b, o)) (hn : (R.flatten.map (·.1)).Nodup) {p : Nat × Obj}
    (hp : p ∈ (R.set i (r.set j (b, o'))).flatten) : p = (b, o') ∨ (p ∈ R.flatten ∧ p.1 ≠ b) := by
  have hn' : ((R.set i (r.set j (b, o'))).flatten.map (·.1)).Nodup := by rw [keys_set hi hj]; exact hn
  by_cases hb : p.1 = b
  · left
    have hmem : (b, o') ∈ (R.set i (r.set j (b, o'))).flatten := by
      refine List.mem_flatten.2 ⟨r.set j (b, o'), ?_, ?_⟩
      · have : i < R.length := (List.getElem?_eq_some_iff.1 hi).1
        exact List.mem_of_getElem? (i := i) (by rw [List.getElem?_set_self this])
      · have : j < r.length := (List.getElem?_eq_some_iff.1 hj).1
        exact List.mem_of_getElem? (i := j) (by rw [List.getElem?_set_self this])
    have inj : ∀ {l : List (Nat × Obj)}, (l.map (·.1)).Nodup → ∀ {x y}, x ∈ l → y ∈ l → x.1 = y.1 → x = y := by
      intro l
      induction l with
      | nil => intro _ x y hx; simp at hx
      | cons z l ih =>
        intro hn x y hx hy hxy
        simp only [List.map_cons, List.nodup_cons] at hn
        rcases List.mem_cons.1 hx with hx1 | hx1 <;> rcases List.mem_cons.1 hy with hy1 | hy1
        · rw [hx1, hy1]
        · exact absurd (List.mem_map.2 ⟨y, hy1, by rw [← hx1]; exact hxy.symm⟩) hn.1
        · exact absurd (List.mem_map.2 ⟨x, hx1, by rw [← hy1]; exact hxy⟩) hn.1
        · exact ih hn.2 hx1 hy1 hxy
    exact inj hn' hp hmem hb
  · right
    refine ⟨?_, hb⟩
    obtain ⟨s, hs, hps⟩ := List.mem_flatten.1 hp
    rcases List.mem_or_eq_of_mem_set hs with hs | rfl
    · exact List.mem_flatten.2 ⟨s, hs, hps⟩
    · rcases List.mem_or_eq_of_mem_set hps with hps | rfl
      · exact List.mem_flatten.2 ⟨r, List.mem_of_getElem? hi, hps⟩
      · exact absurd rfl hb
/-- One owned block turns. -/
theorem upd (h : Hp M I w0 wr w R) {i j b : Nat} {r : Rsc} {o o' : Obj} (hi : R[i]? = some r) (hj : r[j]? = some (b, o)) {w' : World}
    (h1 : w'.os = w.os) (h2 : w'.tape = w.tape) (h3 : w'.output = w.output) (h4 : w'.heap.size = w.heap.size)
    (h5 : ∀ k, k ≠ b → w'.heap[k]? = w.heap[k]?) (h6 : w'.heap[b]? = some o') : Hp M I w0 wr w' (R.set i (r.set j (b, o'))) := by
  have hb := mem hi hj
  refine ⟨h1.trans h.os, h2.trans h.tape, h3.trans h.output, by have := h.le; omega, ?_, ?_, ?_, ?_, ?_, ?_⟩
  · intro k hk hm
    refine (h5 k fun e => ?_).trans (h.old k hk hm)
    subst e
    rcases (h.fresh _ hb).1 with hM | hM
    · exact hm hM
    · simp at hM; omega
  · intro k hk
    refine (h5 k fun e => ?_).trans (h.imm k hk)
    subst e
    exact (h.fresh _ hb).2 hk
  · intro k hk; rw [h4]; exact h.ilt k hk
  · intro p hp
    rcases mem_set hi hj h.nodup hp with rfl | ⟨hp, hne⟩
    · exact h6
    · exact (h5 _ hne).trans (h.own p hp)
  · intro p hp
    rcases mem_set hi hj h.nodup hp with rfl | ⟨hp, hne⟩
    · exact h.fresh (b, o) hb
    · exact h.fresh _ hp
  · rw [keys_set hi hj]; exact h.nodup
/-- What is owned is let go. -/
theorem sub {R' : List Rsc} (h : Hp M I w0 wr w R) (hs : R'.flatten.Sublist R.flatten) : Hp M I w0 wr w R' :=
  ⟨h.os, h.tape, h.output, h.le, h.old, h.imm, h.ilt, fun p hp => h.own p (hs.subset hp), fun p hp => h.fresh p (hs.subset hp), h.nodup.sublist (hs.map _)⟩
end Hp

/-! ### cells -/
theorem cell_at {w : World} {b : Nat} {c : Array Value} {e : TypeId} {fz : Nat × Nat} {off : Nat} {v : Value} (h : w.heap[b]? = some (.cells c e fz)) (hc : c[off]? = some v) :
    w.cell? ⟨b, off, none⟩ = some v := by simp [World.cell?, h, hc]
theorem add_add (a : Addr) (m k : Nat) : (a.add m).add k = a.add (m + k) := by
  unfold Addr.add
  by_cases h1 : m = 0
  · subst h1; simp
  · by_cases h2 : k = 0
    · subst h2; simp
    · rw [if_neg h1, if_neg h2, if_neg (by omega)]; simp [Nat.add_assoc]
theorem add_none (b o k : Nat) : (⟨b, o, none⟩ : Addr).add k = ⟨b, o + k, none⟩ := by
  unfold Addr.add
  split
  · rename_i h; subst h; rfl
  · rfl
/-- The cells from an address on. -/
def CellsAt (w : World) (a : Addr) (vs : List Value) : Prop := ∀ j u, vs[j]? = some u → w.cell? (a.add j) = some u
theorem cells_box {w : World} {b : Nat} {l : List Value} {e : TypeId} {fz : Nat × Nat} {off sz : Nat} {vs : List Value} (h : w.heap[b]? = some (.cells l.toArray e fz)) (hv : (l.drop off).take sz = vs) :
    CellsAt w ⟨b, off, none⟩ vs := by
  intro j u hu
  subst hv
  rw [add_none]
  refine cell_at h ?_
  simp only [List.getElem?_toArray]
  rw [List.getElem?_take] at hu
  split at hu
  · rw [List.getElem?_drop] at hu; exact hu
  · cases hu
theorem cells_sub {w : World} {a : Addr} {l vs : List Value} {off sz : Nat} (h : CellsAt w a l) (hv : (l.drop off).take sz = vs) : CellsAt w (a.add off) vs := by
  intro j u hu
  subst hv
  rw [add_add]
  refine h _ _ ?_
  rw [List.getElem?_take] at hu
  split at hu
  · rw [List.getElem?_drop] at hu; exact hu
  · cases hu
theorem cells_zero {w : World} {a : Addr} {l : List Value} {v : Value} (h : CellsAt w a l) (hv : l[0]? = some v) : w.cell? a = some v := h 0 v hv

theorem run_load {P : Program} {w : World} {a : Addr} {v : Value} (h : w.cell? a = some v) : (load a).run P w = .ok v w := by
  simp [load, Sem.run, h]
theorem run_loadCellsFrom {P : Program} {w : World} {a : Addr} : ∀ (vs : List Value) (i : Nat) (acc : Array Value), (∀ j u, vs[j]? = some u → w.cell? (a.add (i + j)) = some u) →
    (loadCellsFrom a i vs.length acc).run P w = .ok (acc ++ vs.toArray) w := by
  intro vs
  induction vs with
  | nil => intro i acc h; simp [loadCellsFrom]
  | cons v vs ih =>
    intro i acc h
    simp only [List.length_cons, loadCellsFrom, Sem.run_bind]
    rw [run_load (v := v) (by simpa using h 0 v rfl), Result.andThen_ok, ih (i + 1) _ (fun j u hu => by have := h (j + 1) u hu; rw [show i + 1 + j = i + (j + 1) by omega]; exact this)]
    simp
theorem run_loadCells {P : Program} {w : World} {a : Addr} {vs : List Value} {n : Nat} (hn : vs.length = n) (h : CellsAt w a vs) : (loadCells a n).run P w = .ok vs.toArray w := by
  subst hn
  unfold loadCells
  rw [run_loadCellsFrom vs 0 #[] (fun j u hu => by rw [Nat.zero_add]; exact h j u hu)]
  simp
/-- A value of one cell. -/
def one : Value → Bool
  | .agg _ | .tuple _ => false
  | _ => true
theorem run_store {P : Program} {w : World} {a : Addr} {u v : Value} (h : w.cell? a = some u) (hf : w.frozen? a = false) (h1 : one v = true) : (store a v).run P w = .ok () (w.setCell a v) := by
  cases v <;> first | (simp [one] at h1; done) | simp [store, Sem.run, h, hf]
theorem setCell_block {w : World} {b off : Nat} {l : List Value} {e : TypeId} {fz : Nat × Nat} {v : Value} (h : w.heap[b]? = some (.cells l.toArray e fz)) :
    (w.setCell ⟨b, off, none⟩ v).heap[b]? = some (.cells (l.set off v).toArray e fz) := by
  simp [World.setCell, Array.getElem?_modify, h]
theorem run_storeCells {P : Program} {b e : Nat} : ∀ (vs : List Value) (i off : Nat) (l : List Value) (w : World), w.heap[b]? = some (.cells l.toArray e (0, 0)) → (∀ u ∈ vs, one u = true) → off + i + vs.length ≤ l.length →
    ∃ w', (storeCells ⟨b, off, none⟩ vs i).run P w = .ok () w' ∧ w'.os = w.os ∧ w'.tape = w.tape ∧ w'.output = w.output ∧ w'.heap.size = w.heap.size ∧ (∀ k, k ≠ b → w'.heap[k]? = w.heap[k]?) ∧
      w'.heap[b]? = some (.cells (l.take (off + i) ++ vs ++ l.drop (off + i + vs.length)).toArray e (0, 0)) := by
  intro vs
  induction vs with
  | nil => intro i off l w h _ _; exact ⟨w, by simp [storeCells], rfl, rfl, rfl, rfl, fun _ _ => rfl, by simpa using h⟩
  | cons v vs ih =>
    intro i off l w h h1 hl
    simp only [List.length_cons] at hl
    have hlt : off + i < l.length := by omega
    have hc : w.cell? ((⟨b, off, none⟩ : Addr).add i) = some l[off + i] := by rw [add_none]; exact cell_at h (by simp [hlt])
    have hf : w.frozen? ((⟨b, off, none⟩ : Addr).add i) = false := by rw [add_none]; simp [World.frozen?, h]
    have hset : (w.setCell ((⟨b, off, none⟩ : Addr).add i) v).heap[b]? = some (.cells (l.set (off + i) v).toArray e (0, 0)) := by rw [add_none]; exact setCell_block h
    obtain ⟨w', hr, a1, a2, a3, a4, a5, a6⟩ := ih (i + 1) off (l.set (off + i) v) _ hset (fun u hu => h1 u (List.mem_cons_of_mem _ hu)) (by simp; omega)
    refine ⟨w', ?_, a1, a2, a3, a4.trans (by simp [World.setCell]), fun k hk => (a5 k hk).trans ?_, ?_⟩
    · simp only [storeCells, Sem.run_bind]
      rw [run_store hc hf (h1 v (List.mem_cons_self ..)), Result.andThen_ok, hr]
    · rw [add_none]; simp only [World.setCell, Array.getElem?_modify]; rw [if_neg (by omega)]
    · rw [a6]
      congr 3
      apply List.ext_getElem?
      intro m
      simp only [List.getElem?_append, List.length_append, List.length_take, List.length_set, List.length_cons, List.getElem?_take, List.getElem?_set, List.getElem?_drop]
      grind
end Go.Proofs.Ytcnchjlomcafeaa.B
