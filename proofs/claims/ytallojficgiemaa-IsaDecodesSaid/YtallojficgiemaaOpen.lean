/- Arguments that a law is handed, opened: cells of a type are the cells of a value. -/
import Derived.Test.YtallojficgiemaaDraw
import Derived.WalkKit
import Derived.OpenShut
import Derived.ShutString
import Derived.ChangeOld
import Derived.Below
import Derived.SizedLaws
import Derived.ChangeArms
import Derived.WideShapes
set_option linter.unusedVariables false
set_option linter.unusedSimpArgs false
set_option linter.unusedSectionVars false
namespace Go.Proofs.Ytallojficgiemaa.B
open Go Go.RowKit Go.ChangeShapes Go.WideShapes

def OpF (P : Program) {α : Type} (E : Enc α) (ok : α → Prop) (t : TypeId) : Prop :=
  ∀ (H : Type) (enc : TypeId × Value → H) (w : World) (base : Nat) (spare : Nat → Bool) (held : Bool) (fuel : Nat) (cs : List Value) (x : DataW H × List MemPlace),
    DataW.trod enc P w base spare held fuel t cs = some x → ∃ a, cs = E.enc a ∧ ok a
section
variable {P : Program} {t : TypeId}
theorem opInt {k : IntKind} (ht : P.underlying t = some (.int k)) : OpF P (intE k) (fun n => (Lit.int k n).wf = true) t := by
  intro H enc w base spare held fuel cs x h
  obtain ⟨n, hc, _, hw⟩ := DataW.trod_int ht h
  exact ⟨n, hc, hw⟩
theorem opBool (ht : P.underlying t = some .bool) : OpF P boolE (fun _ => True) t := by
  intro H enc w base spare held fuel cs x h
  obtain ⟨b, hc, _⟩ := DataW.trod_bool ht h
  exact ⟨b, hc, trivial⟩
theorem opStr (ht : P.underlying t = some .string) : OpF P strE (fun s => s.size ≤ maxLen) t := by
  intro H enc w base spare held fuel cs x h
  obtain ⟨s, hc, _, hs⟩ := DataW.trod_string ht h
  exact ⟨s, hc, hs⟩
theorem fld {H : Type} {fs : Array Field} {xs : List (DataW H × List MemPlace)} {g : Field → Option (DataW H × List MemPlace)} (hlen : xs.length = fs.size)
    (hf : ∀ (i : Nat) (f : Field), fs[i]? = some f → g f = xs[i]?) (i : Nat) (f : Field) (hi : fs[i]? = some f) : ∃ y, g f = some y := by
  have hlt : i < xs.length := by rw [hlen]; exact (Array.getElem?_eq_some_iff.1 hi).1
  exact ⟨_, (hf i f hi).trans (List.getElem?_eq_getElem hlt)⟩
theorem dsplit {cs l : List Value} {o c c' o' : Nat} (e : (cs.drop o).take c' = l) (hc : c' = c) (ho : o + c = o') : cs.drop o = l ++ cs.drop o' := by
  subst hc; subst ho
  rw [← e, ← List.drop_drop, List.take_append_drop]
theorem dlast {cs : List Value} {o n : Nat} (h : cs.length = n) (ho : n = o) : cs.drop o = [] := List.drop_eq_nil_of_le (by omega)

/-- An argument of one cell. -/
theorem open_one {α : Type} {E : Enc α} {ok : α → Prop} {H : Type} {enc : TypeId × Value → H} {w : World} {base : Nat} {spare : Nat → Bool} {held : Bool} {v : Value} {d : DataW H} {p : List MemPlace}
    (ho : OpF P E ok t) (h : DataW.Trod enc P w base spare held t v d p) (h1 : v.cells = #[v]) : ∃ a, [v] = E.enc a ∧ ok a := by
  obtain ⟨fuel, hf⟩ := h
  rw [h1] at hf
  exact ho H enc w base spare held fuel _ _ hf
theorem open_int' {k : IntKind} {r : Reach} {b0 : Nat} {H : Type} {enc : TypeId × Value → H} {w : World} {base : Nat} {spare : Nat → Bool} {held : Bool} {v : Value} {d : DataW H} {p : List MemPlace}
    (ht : P.underlying t = some (.int k)) (hv : Value.okWide P w r b0 t v) (h : DataW.Trod enc P w base spare held t v d p) : ∃ n, v = .int k n ∧ (Lit.int k n).wf = true := by
  obtain ⟨n, e, _, _, hw⟩ := open_int ht hv h
  exact ⟨n, e, hw⟩
/-- An argument that is a struct of plain fields. -/
theorem open_struct' {α : Type} {E : Enc α} {ok : α → Prop} {fs : Array Field} {r : Reach} {b0 : Nat} {H : Type} {enc : TypeId × Value → H} {w : World} {base : Nat} {spare : Nat → Bool} {held : Bool} {v : Value} {d : DataW H} {p : List MemPlace}
    (ho : OpF P E ok t) (ht : P.underlying t = some (.struct fs)) (hv : Value.okWide P w r b0 t v) (h : DataW.Trod enc P w base spare held t v d p) : ∃ a, v = .agg (E.enc a).toArray ∧ ok a := by
  obtain ⟨cs, rfl, _⟩ := okWide_struct ht hv
  obtain ⟨fuel, hf⟩ := h
  obtain ⟨a, ha, hk⟩ := ho H enc w base spare held fuel _ _ hf
  refine ⟨a, ?_, hk⟩
  have : cs.toList = E.enc a := by simpa [Value.cells] using ha
  rw [← this]
theorem trod_lt' {H : Type} {enc : TypeId × Value → H} {w : World} {base : Nat} {spare : Nat → Bool} {held : Bool} {v : Value} {d : DataW H} {p : List MemPlace}
    (h : DataW.Trod enc P w base spare held t v d p) : ∀ x ∈ p, x.block < w.heap.size := by
  obtain ⟨fuel, hf⟩ := h
  exact DataW.trod_lt fuel _ _ _ hf
end
end Go.Proofs.Ytallojficgiemaa.B
