/- Plain lemmas: loops that come to an end, words, lists. -/
import Derived.Test.YtcnchjlomcafeaaDefer
set_option linter.unusedVariables false
set_option linter.unusedSimpArgs false
namespace Go.Proofs.Ytcnchjlomcafeaa.B
open Go Go.RowKit

/-- A loop that comes to an end. -/
theorem loop_tot {S O : Type} {f : S → Option (S ⊕ O)} (I : S → Prop) (μ : S → Nat) (Q : O → Prop)
    (step : ∀ s, I s → (∃ s', f s = some (.inl s') ∧ I s' ∧ μ s' < μ s) ∨ (∃ o, f s = some (.inr o) ∧ Q o)) (s : S) (h : I s) : ∃ o, loop f s = some o ∧ Q o := by
  suffices H : ∀ n s, μ s ≤ n → I s → ∃ o, loop f s = some o ∧ Q o from H _ s (Nat.le_refl _) h
  intro n
  induction n with
  | zero =>
    intro s hn hs
    rcases step s hs with ⟨s', _, _, hlt⟩ | ⟨o, ho, hq⟩
    · omega
    · exact ⟨o, loop_out ho, hq⟩
  | succ n ih =>
    intro s hn hs
    rcases step s hs with ⟨s', he, hs', hlt⟩ | ⟨o, ho, hq⟩
    · obtain ⟨o, h1, h2⟩ := ih s' (by omega) hs'
      exact ⟨o, (loop_in he).trans h1, h2⟩
    · exact ⟨o, loop_out ho, hq⟩
/-- The same, the answer being known. -/
theorem loop_to {S O : Type} {f : S → Option (S ⊕ O)} (o : O) (I : S → Prop) (μ : S → Nat)
    (step : ∀ s, I s → (∃ s', f s = some (.inl s') ∧ I s' ∧ μ s' < μ s) ∨ f s = some (.inr o)) (s : S) (h : I s) : loop f s = some o := by
  obtain ⟨o', h1, rfl⟩ := loop_tot I μ (fun o' => o' = o) (fun s hs => (step s hs).imp id fun h => ⟨o, h, rfl⟩) s h
  exact h1
/-- A loop, run for so many rounds. -/
def loopF {S O : Type} (f : S → Option (S ⊕ O)) : Nat → S → Option O
  | 0, _ => none
  | n + 1, s => match f s with
    | none => none
    | some (.inl s') => loopF f n s'
    | some (.inr o) => some o
theorem loop_of_F {S O : Type} {f : S → Option (S ⊕ O)} : ∀ (n : Nat) {s : S} {o : O}, loopF f n s = some o → loop f s = some o
  | 0, s, o, h => by cases h
  | n + 1, s, o, h => by
    unfold loopF at h
    split at h
    · cases h
    · rename_i s' hf; exact (loop_in hf).trans (loop_of_F n h)
    · rename_i o' hf; cases h; exact loop_out hf
theorem w64 {x : Int} (h : -9223372036854775808 ≤ x ∧ x < 9223372036854775808) : wrap64 x = x := by unfold wrap64; omega
theorem gi_nat {α : Type} [Inhabited α] (l : List α) (i : Nat) (h : i < l.length) : gi l (i : Int) = l[i] := by simp [gi, h]
theorem gi_mem {α : Type} [Inhabited α] {l : List α} {i : Int} (h0 : 0 ≤ i) (h : i < l.length) : gi l i ∈ l := by
  have : i.toNat < l.length := by omega
  simp [gi, List.getD_eq_getElem?_getD, this]
theorem vg_vp {α : Type} [Inhabited α] {m : Nat} (u : Vector α m) (i j : Int) (x : α) (h0 : 0 ≤ i) (h1 : i < m) (g0 : 0 ≤ j) :
    vg (vp u i x) j = if i = j then x else vg u j := by
  have hi : i.toNat < m := by omega
  simp only [vg, gi, vp_toList, List.getD_eq_getElem?_getD, List.getElem?_set, Vector.length_toList]
  by_cases hij : i = j
  · subst hij; simp [hi]
  · rw [if_neg (by omega), if_neg hij]
end Go.Proofs.Ytcnchjlomcafeaa.B
