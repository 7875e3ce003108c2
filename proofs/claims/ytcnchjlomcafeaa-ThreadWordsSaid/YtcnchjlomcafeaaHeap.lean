/- What a call owns when it begins, and gives back; what is frozen from some time on. -/
import Derived.Test.YtcnchjlomcafeaaStep
set_option linter.unusedVariables false
set_option linter.unusedSimpArgs false
set_option linter.unusedSectionVars false
namespace Go.Proofs.Ytcnchjlomcafeaa.B
open Go Go.RowKit

def On (R : List Rsc) (k : Nat) : Prop := ∃ p ∈ R.flatten, p.1 = k
structure Have (w : World) (R : List Rsc) : Prop where
  own : ∀ p ∈ R.flatten, w.heap[p.1]? = some p.2
  nodup : (R.flatten.map (·.1)).Nodup
/-- What may be read and does not change. -/
def Off (w : World) (R : List Rsc) (k : Nat) : Prop := k < w.heap.size ∧ ¬ On R k
structure Aft (w w' : World) (R R' : List Rsc) : Prop where
  os : w'.os = w.os
  tape : w'.tape = w.tape
  output : w'.output = w.output
  le : w.heap.size ≤ w'.heap.size
  old : ∀ k, k < w.heap.size → ¬ On R k → w'.heap[k]? = w.heap[k]?
  own : ∀ p ∈ R'.flatten, w'.heap[p.1]? = some p.2
  fresh : ∀ p ∈ R'.flatten, On R p.1 ∨ w.heap.size ≤ p.1
  nodup : (R'.flatten.map (·.1)).Nodup
/-- From one time to a later one: what could be read still can. -/
def Up (I : Nat → Prop) (w : World) (I' : Nat → Prop) (w' : World) : Prop := ∀ k, I k → I' k ∧ w'.heap[k]? = w.heap[k]?
theorem Up.refl (I : Nat → Prop) (w : World) : Up I w I w := fun k h => ⟨h, rfl⟩
theorem Up.trans {I I' I'' : Nat → Prop} {w w' w'' : World} (h : Up I w I' w') (k : Up I' w' I'' w'') : Up I w I'' w'' :=
  fun j hj => ⟨(k j (h j hj).1).1, (k j (h j hj).1).2.trans (h j hj).2⟩

theorem Have.nil (w : World) : Have w [] := ⟨by simp, by simp⟩
theorem On.nil {k : Nat} (h : On [] k) : False := by obtain ⟨p, hp, _⟩ := h; simp at hp

namespace Hp
variable {M I : Nat → Prop} {w0 wr w w' : World} {R : List Rsc}
theorem startR {F : Nat → Prop} {R : List Rsc} (h : Have w R) (hF : ∀ k, F k → Off w R k) : Hp (On R) F w w w R :=
  ⟨rfl, rfl, rfl, Nat.le_refl _, fun _ _ _ => rfl, fun _ _ => rfl, fun k hk => (hF k hk).1, h.own, fun p hp => ⟨.inl ⟨p, hp, rfl⟩, fun hk => (hF _ hk).2 ⟨p, hp, rfl⟩⟩, h.nodup⟩
theorem aft {R0 : List Rsc} {w1 : World} (h : Hp (On R0) I w wr w1 R) : Aft w w1 R0 R := ⟨h.os, h.tape, h.output, h.le, h.old, h.own, fun p hp => (h.fresh p hp).1, h.nodup⟩
theorem up (h : Hp M I w0 wr w R) : Up I wr I w := fun k hk => ⟨hk, h.imm k hk⟩
/-- What may be read, of what is not handed on. -/
theorem off (h : Hp M I w0 wr w R) {Rin : List Rsc} (hs : ∀ p ∈ Rin.flatten, p ∈ R.flatten) : ∀ k, I k → Off w Rin k :=
  fun k hk => ⟨h.ilt k hk, fun ⟨p, hp, e⟩ => (h.fresh p (hs p hp)).2 (e ▸ hk)⟩
/-- A call that is handed Rin, and gives back Rout. -/
theorem call {Rin Rest Rout : List Rsc} (h : Hp M I w0 wr w (Rin ++ Rest)) (a : Aft w w' Rin Rout) : Hp M I w0 wr w' (Rout ++ Rest) := by
  have hin : ∀ p, p ∈ Rin.flatten → p ∈ (Rin ++ Rest).flatten := fun p hp => by simp only [List.flatten_append, List.mem_append]; exact .inl hp
  have hre : ∀ p, p ∈ Rest.flatten → p ∈ (Rin ++ Rest).flatten := fun p hp => by simp only [List.flatten_append, List.mem_append]; exact .inr hp
  have hnd := h.nodup
  simp only [List.flatten_append, List.map_append, List.nodup_append] at hnd
  have hoff : ∀ p ∈ Rest.flatten, ¬ On Rin p.1 := fun p hp ⟨q, hq, e⟩ => hnd.2.2 _ (List.mem_map.2 ⟨q, hq, rfl⟩) _ (List.mem_map.2 ⟨p, hp, rfl⟩) e
  refine ⟨a.os.trans h.os, a.tape.trans h.tape, a.output.trans h.output, Nat.le_trans h.le a.le, ?_, ?_, ?_, ?_, ?_, ?_⟩
  · intro k hk hm
    refine (a.old k (Nat.lt_of_lt_of_le hk h.le) fun ⟨q, hq, e⟩ => ?_).trans (h.old k hk hm)
    rcases (h.fresh q (hin q hq)).1 with h1 | h1
    · exact hm (e ▸ h1)
    · omega
  · intro k hk
    exact (a.old k (h.ilt k hk) fun ⟨q, hq, e⟩ => (h.fresh q (hin q hq)).2 (e ▸ hk)).trans (h.imm k hk)
  · intro k hk; exact Nat.lt_of_lt_of_le (h.ilt k hk) a.le
  · intro p hp
    simp only [List.flatten_append, List.mem_append] at hp
    rcases hp with hp | hp
    · exact a.own p hp
    · exact (a.old _ (h.lt (hre p hp)) (hoff p hp)).trans (h.own p (hre p hp))
  · intro p hp
    simp only [List.flatten_append, List.mem_append] at hp
    rcases hp with hp | hp
    · rcases a.fresh p hp with ⟨q, hq, e⟩ | hle
      · rw [← e]; exact h.fresh q (hin q hq)
      · exact ⟨.inr (Nat.le_trans h.le hle), fun hi => by have := h.ilt _ hi; omega⟩
    · exact h.fresh p (hre p hp)
  · simp only [List.flatten_append, List.map_append, List.nodup_append]
    refine ⟨a.nodup, hnd.2.1, ?_⟩
    intro x hx y hy e
    obtain ⟨p, hp, rfl⟩ := List.mem_map.1 hx
    obtain ⟨q, hq, rfl⟩ := List.mem_map.1 hy
    rcases a.fresh p hp with hon | hle
    · exact hoff q hq (e ▸ hon)
    · have := h.lt (hre q hq); omega
/-- What is owned is let go, and does not change from here on. -/
theorem freeze {X : Rsc} (h : Hp M I w0 wr w (X :: R)) : Hp M (fun k => I k ∨ On [X] k) w0 w w R := by
  have hX : ∀ p, p ∈ X → p ∈ (X :: R).flatten := fun p hp => by simp only [List.flatten_cons, List.mem_append]; exact .inl hp
  have hR : ∀ p, p ∈ R.flatten → p ∈ (X :: R).flatten := fun p hp => by simp only [List.flatten_cons, List.mem_append]; exact .inr hp
  have hnd := h.nodup
  simp only [List.flatten_cons, List.map_append, List.nodup_append] at hnd
  refine ⟨h.os, h.tape, h.output, h.le, h.old, fun _ _ => rfl, ?_, fun p hp => h.own p (hR p hp), fun p hp => ⟨(h.fresh p (hR p hp)).1, ?_⟩, hnd.2.1⟩
  · rintro k (hk | ⟨p, hp, e⟩)
    · exact h.ilt k hk
    · simp at hp; rw [← e]; exact h.lt (hX p hp)
  · rintro (hk | ⟨q, hq, e⟩)
    · exact (h.fresh p (hR p hp)).2 hk
    · simp at hq
      exact hnd.2.2 _ (List.mem_map.2 ⟨q, hq, rfl⟩) _ (List.mem_map.2 ⟨p, hp, rfl⟩) e
theorem frozenUp {X : Rsc} (h : Hp M I w0 wr w (X :: R)) : Up I wr (fun k => I k ∨ On [X] k) w := fun k hk => ⟨.inl hk, h.imm k hk⟩
/-- What a call has made that does not change any more. -/
theorem callF {I' : Nat → Prop} {Rin Rest Rout : List Rsc} (h : Hp M I w0 wr w (Rin ++ Rest)) (a : Aft w w' Rin Rout) (hu : Up I w I' w') (hn : ∀ k, I' k → I k ∨ On Rin k ∨ w.heap.size ≤ k) (ho : ∀ k, I' k → Off w' Rout k) :
    Hp M I' w0 w' w' (Rout ++ Rest) := by
  have h2 := h.call a
  have hnd := h.nodup
  simp only [List.flatten_append, List.map_append, List.nodup_append] at hnd
  refine ⟨h2.os, h2.tape, h2.output, h2.le, h2.old, fun _ _ => rfl, fun k hk => (ho k hk).1, h2.own, fun p hp => ⟨(h2.fresh p hp).1, fun hk => ?_⟩, h2.nodup⟩
  simp only [List.flatten_append, List.mem_append] at hp
  rcases hp with hp | hp
  · exact (ho _ hk).2 ⟨p, hp, rfl⟩
  · have hp' : p ∈ (Rin ++ Rest).flatten := by simp only [List.flatten_append, List.mem_append]; exact .inr hp
    rcases hn _ hk with hk | ⟨q, hq, e⟩ | hk
    · exact (h.fresh p hp').2 hk
    · exact hnd.2.2 _ (List.mem_map.2 ⟨q, hq, rfl⟩) _ (List.mem_map.2 ⟨p, hp, rfl⟩) e
    · have := h.lt hp'; omega
end Hp
theorem Aft.below {w w' : World} {R' : List Rsc} (a : Aft w w' [] R') : Below w.heap.size w w' := ⟨a.os, a.tape, a.output, a.le, fun k hk => a.old k hk fun h => On.nil h⟩
theorem Aft.drop {w w' : World} {R R' : List Rsc} (a : Aft w w' R R') {R'' : List Rsc} (hs : R''.flatten.Sublist R'.flatten) : Aft w w' R R'' :=
  ⟨a.os, a.tape, a.output, a.le, a.old, fun p hp => a.own p (hs.subset hp), fun p hp => a.fresh p (hs.subset hp), a.nodup.sublist (hs.map _)⟩
/-- Blocks that can be read, of those that are not handed on. -/
def Cov (I : Nat → Prop) (R : List Rsc) (k : Nat) : Prop := I k ∨ On R k
section
variable {M I : Nat → Prop} {w0 wr w w' : World} {R : List Rsc}
theorem Hp.upCov {Rest : List Rsc} (h : Hp M I w0 wr w R) : Up I wr (Cov I Rest) w := fun k hk => ⟨.inl hk, h.imm k hk⟩
theorem flat_inj {R : List Rsc} (hn : (R.flatten.map (·.1)).Nodup) : ∀ {i j : Nat} {r s : Rsc} {p q : Nat × Obj}, R[i]? = some r → R[j]? = some s → p ∈ r → q ∈ s → p.1 = q.1 → i = j := by
  induction R with
  | nil => intro i j r s p q hi; simp at hi
  | cons X R ih =>
    intro i j r s p q hi hj hp hq he
    simp only [List.flatten_cons, List.map_append, List.nodup_append] at hn
    cases i with
    | zero =>
      cases j with
      | zero => rfl
      | succ j =>
        simp at hi hj; subst hi
        exact absurd he (hn.2.2 _ (List.mem_map.2 ⟨p, hp, rfl⟩) _ (List.mem_map.2 ⟨q, List.mem_flatten.2 ⟨s, List.mem_of_getElem? hj, hq⟩, rfl⟩))
    | succ i =>
      cases j with
      | zero =>
        simp at hi hj; subst hj
        exact absurd he.symm (hn.2.2 _ (List.mem_map.2 ⟨q, hq, rfl⟩) _ (List.mem_map.2 ⟨p, List.mem_flatten.2 ⟨r, List.mem_of_getElem? hi, hp⟩, rfl⟩))
      | succ j =>
        simp at hi hj
        rw [ih hn.2.1 hi hj hp hq he]
/-- What is owned, in another order, some of it let go. -/
theorem Hp.pick {R' : List Rsc} (idx : List Nat) (h : Hp M I w0 wr w R) (hn : idx.Nodup) (hR : idx.map (fun i => R.getD i []) = R') : Hp M I w0 wr w R' := by
  subst hR
  have hmem : ∀ p, p ∈ (idx.map (fun i => R.getD i [])).flatten → p ∈ R.flatten := by
    intro p hp
    obtain ⟨X, hX, hp⟩ := List.mem_flatten.1 hp
    obtain ⟨i, _, rfl⟩ := List.mem_map.1 hX
    by_cases hi : i < R.length
    · rw [List.getD_eq_getElem?_getD, List.getElem?_eq_getElem hi] at hp
      exact List.mem_flatten.2 ⟨R[i], List.getElem_mem hi, hp⟩
    · rw [List.getD_eq_getElem?_getD, List.getElem?_eq_none (by omega)] at hp; simp at hp
  refine ⟨h.os, h.tape, h.output, h.le, h.old, h.imm, h.ilt, fun p hp => h.own p (hmem p hp), fun p hp => h.fresh p (hmem p hp), ?_⟩
  induction idx with
  | nil => simp
  | cons i idx ih =>
    simp only [List.map_cons, List.flatten_cons, List.map_append, List.nodup_append]
    rw [List.nodup_cons] at hn
    refine ⟨?_, ih hn.2 (fun p hp => hmem p (by simp only [List.map_cons, List.flatten_cons, List.mem_append]; exact .inr hp)), ?_⟩
    · by_cases hi : i < R.length
      · rw [List.getD_eq_getElem?_getD, List.getElem?_eq_getElem hi]
        exact h.nodup.sublist ((List.sublist_flatten_of_mem (List.getElem_mem hi)).map _)
      · rw [List.getD_eq_getElem?_getD, List.getElem?_eq_none (by omega)]; simp
    · intro x hx y hy e
      subst e
      obtain ⟨p, hp, rfl⟩ := List.mem_map.1 hx
      obtain ⟨q, hq, hqp⟩ := List.mem_map.1 hy
      obtain ⟨X, hX, hq⟩ := List.mem_flatten.1 hq
      obtain ⟨j, hj, rfl⟩ := List.mem_map.1 hX
      have gi_ : ∀ {i : Nat} {p : Nat × Obj}, p ∈ R.getD i [] → R[i]? = some (R.getD i []) := by
        intro i p hp
        by_cases hi : i < R.length
        · simp [List.getD_eq_getElem?_getD, List.getElem?_eq_getElem hi]
        · rw [List.getD_eq_getElem?_getD, List.getElem?_eq_none (by omega)] at hp; simp at hp
      have := flat_inj h.nodup (gi_ hp) (gi_ hq) hp hq hqp.symm
      subst this
      exact hn.1 hj
theorem Hp.have1 (h : Hp M I w0 wr w R) (Rin Rest : List Rsc) (e : R = Rin ++ Rest) : Have w Rin := by
  subst e
  refine ⟨fun p hp => h.own p (by simp only [List.flatten_append, List.mem_append]; exact .inl hp), ?_⟩
  have hnd := h.nodup
  simp only [List.flatten_append, List.map_append, List.nodup_append] at hnd
  exact hnd.1
theorem subRest {R : List Rsc} (Rin Rest : List Rsc) (e : R = Rin ++ Rest) : ∀ p ∈ Rest.flatten, p ∈ R.flatten := fun p hp => by
  subst e; simp only [List.flatten_append, List.mem_append]; exact .inr hp
theorem Hp.offCov (h : Hp M I w0 wr w R) (Rin Rest : List Rsc) (e : R = Rin ++ Rest) : ∀ k, Cov I Rest k → Off w Rin k := by
  subst e
  have hnd := h.nodup
  simp only [List.flatten_append, List.map_append, List.nodup_append] at hnd
  have hin : ∀ p, p ∈ Rin.flatten → p ∈ (Rin ++ Rest).flatten := fun p hp => by simp only [List.flatten_append, List.mem_append]; exact .inl hp
  have hre : ∀ p, p ∈ Rest.flatten → p ∈ (Rin ++ Rest).flatten := fun p hp => by simp only [List.flatten_append, List.mem_append]; exact .inr hp
  rintro k (hk | ⟨q, hq, e⟩)
  · exact ⟨h.ilt k hk, fun ⟨p, hp, e⟩ => (h.fresh p (hin p hp)).2 (e ▸ hk)⟩
  · exact ⟨e ▸ h.lt (hre q hq), fun ⟨p, hp, e2⟩ => hnd.2.2 _ (List.mem_map.2 ⟨p, hp, rfl⟩) _ (List.mem_map.2 ⟨q, hq, rfl⟩) (e2.trans e.symm)⟩
theorem Hp.offI (h : Hp M I w0 wr w R) (Rin Rest : List Rsc) (e : R = Rin ++ Rest) : ∀ k, I k → Off w Rin k := fun k hk => h.offCov Rin Rest e k (.inl hk)
end
end Go.Proofs.Ytcnchjlomcafeaa.B
