/- Maps from numbers: what is in them, as a list of pairs. -/
import Derived.Test.YtcnchjlomcafeaaDraw
import Derived.MapKept
set_option linter.unusedVariables false
set_option linter.unusedSimpArgs false
set_option linter.unusedSectionVars false
namespace Go.Proofs.Ytcnchjlomcafeaa.B
open Go Go.RowKit Go.MapKept

/-- The entries are those of the list. -/
def Ent {β : Type} (kk : IntKind) (ev : β → Value) (es : List MapEntry) (m : List (Int × β)) : Prop :=
  es.map (fun e => (e.key, e.val)) = m.map fun p => (Value.int kk p.1, ev p.2)
section
variable {β : Type} {kk : IntKind} {ev : β → Value}
/-- A map that is only read. -/
def RdM (kk : IntKind) (ev : β → Value) (F : Nat → Prop) (w : World) (A : Option Nat) (m : List (Int × β)) : Prop :=
  (A = none ∧ m = []) ∨ ∃ r es c, A = some r ∧ F r ∧ w.heap[r]? = some (.map es c) ∧ Ent kk ev es.toList m
/-- A map of one's own. -/
def OwnM (kk : IntKind) (ev : β → Value) (A : Option Nat) (m : List (Int × β)) (X : Rsc) : Prop :=
  ∃ r es c, A = some r ∧ X = [(r, .map es c)] ∧ Ent kk ev es.toList m
variable {P : Program} {M I F : Nat → Prop} {w0 wr w w' : World} {R : List Rsc} {A : Option Nat} {m : List (Int × β)} {X : Rsc}
theorem RdM.up {G : Nat → Prop} (h : RdM kk ev F w A m) (u : Up F w G w') : RdM kk ev G w' A m := by
  rcases h with h | ⟨r, es, c, h1, h2, h3, h4⟩
  · exact .inl h
  · exact .inr ⟨r, es, c, h1, (u _ h2).1, (u _ h2).2.trans h3, h4⟩
theorem RdM.now (r : RdM kk ev I wr A m) (h : Hp M I w0 wr w R) : RdM kk ev I w A m := r.up h.up
theorem RdM.pass {Rest : List Rsc} (r : RdM kk ev I wr A m) (h : Hp M I w0 wr w R) : RdM kk ev (Cov I Rest) w A m := r.up fun k hk => ⟨.inl hk, h.imm k hk⟩
theorem OwnM.pass {i : Nat} {Rest : List Rsc} (o : OwnM kk ev A m X) (h : Hp M I w0 wr w R) (hs : ∀ p ∈ Rest.flatten, p ∈ R.flatten) (hi : Rest[i]? = some X) : RdM kk ev (Cov I Rest) w A m := by
  obtain ⟨r, es, c, h1, h2, h3⟩ := o
  subst h2
  have hm : (r, Obj.map es c) ∈ Rest.flatten := List.mem_flatten.2 ⟨_, List.mem_of_getElem? hi, List.mem_singleton.2 rfl⟩
  exact .inr ⟨r, es, c, h1, .inr ⟨_, hm, rfl⟩, h.own _ (hs _ hm), h3⟩
theorem OwnM.rd {i : Nat} (o : OwnM kk ev A m X) (h : Hp M I w0 wr w R) (hi : R[i]? = some X) : RdM kk ev (Cov I R) w A m := o.pass h (fun _ h => h) hi
theorem OwnM.froze (o : OwnM kk ev A m X) (h : Hp M I w0 wr w (X :: R)) : RdM kk ev (fun k => I k ∨ On [X] k) w A m := by
  obtain ⟨r, es, c, h1, h2, h3⟩ := o
  subst h2
  exact .inr ⟨r, es, c, h1, .inr ⟨(r, Obj.map es c), by simp, rfl⟩, h.own (r, Obj.map es c) (by simp), h3⟩
variable {a : Act} {dst : Option Nat} {ty : TypeId} {pos : String} {af : Array Edge} {gd : Option (Nat × Bool)} {x y : Operand} {t kt et : TypeId} {k' : IntKind} {key : Int} {z : Value}
variable {ops : Array Oper} {Q : Exit → Act → World → Prop} {n d : Nat} {L : Env} {σ : Nat → Value} {ds : List Deferred} {rest : List Oper}
end
def mI (k : IntKind) (x : Int) : Value := .int k x
end Go.Proofs.Ytcnchjlomcafeaa.B
