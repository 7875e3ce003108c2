/- Arguments that a law is handed, opened: cells of a type are the cells of a value. -/
import Derived.Test.YtcnchjlomcafeaaDefer
import Derived.WalkKit
import Derived.OpenShut
import Derived.ShutString
import Derived.ChangeOld
import Derived.Below
import Derived.SizedLaws
import Derived.ChangeArms
import Derived.WideShapes
import Derived.Deep.Slices
set_option linter.unusedVariables false
set_option linter.unusedSimpArgs false
set_option linter.unusedSectionVars false
namespace Go.Proofs.Ytcnchjlomcafeaa.B
open Go Go.RowKit Go.ChangeShapes Go.WideShapes

/-- All blocks that there are. -/
def Blk (w : World) (k : Nat) : Prop := k < w.heap.size
def OpF (P : Program) {α : Type} (E : Enc α) (ok : α → Prop) (t : TypeId) : Prop :=
  ∀ (H : Type) (enc : TypeId × Value → H) (w : World) (base : Nat) (spare : Nat → Bool) (held : Bool) (fuel : Nat) (cs : List Value) (x : DataW H × List MemPlace),
    DataW.trod enc P w base spare held fuel t cs = some x → (∀ n ∈ x.1.weights P t, n ≤ reachBytes) → ∃ a, E.rep (Blk w) w a cs ∧ ok a
section
variable {P : Program} {t : TypeId}
theorem opInt {k : IntKind} (ht : P.underlying t = some (.int k)) : OpF P (intE k) (fun n => (Lit.int k n).wf = true) t := by
  intro H enc w base spare held fuel cs x h _
  obtain ⟨n, hc, _, hw⟩ := DataW.trod_int ht h
  exact ⟨n, hc, hw⟩
theorem weightsAll_mem {H : Type} {e : TypeId} {d : DataW H} : ∀ {l : List (DataW H)}, d ∈ l → ∀ n ∈ d.weights P e, n ∈ DataW.weightsAll P e l
  | x :: l, h, n, hn => by
    simp only [DataW.weightsAll, List.mem_append]
    rcases List.mem_cons.1 h with rfl | h
    · exact .inl hn
    · exact .inr (weightsAll_mem h n hn)
  | [], h, _, _ => by simp at h
theorem CellsAt.app {w : World} {a : Addr} {l m : List Value} (h : CellsAt w a l) (k : CellsAt w (a.add l.length) m) : CellsAt w a (l ++ m) := by
  intro j u hu
  rw [List.getElem?_append] at hu
  split at hu
  · exact h j u hu
  · rename_i hj
    have := k _ u hu
    rw [add_add] at this
    rwa [show l.length + (j - l.length) = j by omega] at this
theorem opSl {α : Type} [Inhabited α] {E : Enc α} {ok : α → Prop} {e : TypeId} (ho : OpF P E ok e) (ht : P.underlying t = some (.slice e)) (hs : P.cellsOf e = E.sz) (hb : 0 < P.bytesOf e) :
    OpF P (slE E) (fun l => l.length * P.bytesOf e ≤ 140737488351232 ∧ ∀ x ∈ l, ok x) t := by
  intro H enc w base spare held fuel cs x h hw
  rcases Go.Deep.open_slice ht h with ⟨rfl, rfl⟩ | ⟨a, len, cap, m, n, D, Pl, rfl, hba, hl, hm, hmm, rfl, hx⟩
  · exact ⟨[], ⟨none, 0, rfl, RdS.nil _ _⟩, by simp, by simp⟩
  have hlm : len ≤ m := by rw [hmm]; split <;> omega
  have hwt : ∀ i, i < len → ∀ k ∈ (D i).weights P e, k ≤ reachBytes := by
    intro i hi k hk
    refine hw k ?_
    simp only [DataW.weights, ht, List.mem_cons, List.mem_append]
    exact .inr (.inl (weightsAll_mem (List.mem_map.2 ⟨i, List.mem_range.2 hi, rfl⟩) k hk))
  have hlen : len * P.bytesOf e ≤ 140737488351232 := by
    have h1 := hw ((((List.range len).map D).length + ((List.range (m - len)).map fun j => D (len + j)).length) * P.bytesOf e) (by simp [DataW.weights, ht])
    simp only [List.length_map, List.length_range] at h1
    have h2 : len * P.bytesOf e ≤ (len + (m - len)) * P.bytesOf e := Nat.mul_le_mul_right _ (by omega)
    have h3 : reachBytes = 140737488351232 := rfl
    omega
  have hel : ∀ i, i < len → ∃ z : α × List Value, (∀ j, j < E.sz → w.cell? ((a.add (i * E.sz)).add j) = z.2[j]?) ∧ z.2.length = E.sz ∧ E.rep (Blk w) w z.1 z.2 ∧ ok z.1 := by
    intro i hi
    obtain ⟨cs', h1, h2⟩ := hx i (by omega)
    obtain ⟨y, h3, h4⟩ := ho H enc w base spare held n cs' _ h2 (hwt i hi)
    rw [hs] at h1
    obtain ⟨_, h5, h6⟩ := World.cells?_some h1
    exact ⟨(y, cs'), h6, h5, h3, h4⟩
  obtain ⟨f, hf⟩ := Go.Deep.choose_lt hel
  have main : ∀ n, n ≤ len → Reps E (Blk w) w ((List.range n).map fun i => (f i).1) ((List.range n).flatMap fun i => (f i).2) ∧ CellsAt w a ((List.range n).flatMap fun i => (f i).2) := by
    intro n
    induction n with
    | zero => intro _; exact ⟨.nil, fun j u hu => by simp at hu⟩
    | succ n ih =>
      intro hn
      obtain ⟨h1, h2⟩ := ih (by omega)
      obtain ⟨g1, g2, g3, g4⟩ := hf n (by omega)
      rw [List.range_succ, List.map_append, List.flatMap_append]
      simp only [List.map_cons, List.map_nil, List.flatMap_cons, List.flatMap_nil, List.append_nil]
      have hll := h1.len
      simp only [List.length_map, List.length_range] at hll
      refine ⟨h1.append (Reps.one_ g3), h2.app ?_⟩
      rw [hll]
      intro j u hu
      have hj : j < E.sz := by rw [← g2]; exact (List.getElem?_eq_some_iff.1 hu).1
      rw [g1 j hj]; exact hu
  obtain ⟨h1, h2⟩ := main len (Nat.le_refl _)
  have hlb : len ≤ len * P.bytesOf e := Nat.le_mul_of_pos_right _ hb
  refine ⟨(List.range len).map fun i => (f i).1, ⟨some a, cap, by simp, ⟨by simpa using hl, by simp only [List.length_map, List.length_range]; omega, fun hne => ⟨a, _, rfl, ?_, h2, h1⟩⟩⟩, by simpa using hlen, ?_⟩
  · have h0 : 0 < len := by
      rcases Nat.eq_zero_or_pos len with h0 | h0
      · subst h0; simp at hne
      · exact h0
    obtain ⟨g1, g2, _, _⟩ := hf 0 h0
    have := g1 0 E.pos
    have hc : w.cell? a ≠ none := by
      have e0 : (a.add (0 * E.sz)).add 0 = a := by simp [Addr.add]
      rw [e0] at this
      rw [this, List.getElem?_eq_getElem (by rw [g2]; exact E.pos)]
      simp
    show a.block < w.heap.size
    refine Nat.lt_of_not_le fun hle => hc ?_
    simp [World.cell?, hle]
  · intro y hy
    obtain ⟨i, hi, rfl⟩ := List.mem_map.1 hy
    exact (hf i (List.mem_range.1 hi)).2.2.2
theorem trod_lt' {H : Type} {enc : TypeId × Value → H} {w : World} {base : Nat} {spare : Nat → Bool} {held : Bool} {v : Value} {d : DataW H} {p : List MemPlace}
    (h : DataW.Trod enc P w base spare held t v d p) : ∀ x ∈ p, x.block < w.heap.size := by
  obtain ⟨fuel, hf⟩ := h
  exact DataW.trod_lt fuel _ _ _ hf
/-- An argument, opened. -/
theorem open_arg {α : Type} {E : Enc α} {ok : α → Prop} {H : Type} {enc : TypeId × Value → H} {w : World} {base : Nat} {spare : Nat → Bool} {held : Bool} {v : Value} {d : DataW H} {p : List MemPlace} {ts : List TypeId} {ds : List (DataW H)} {j : Nat}
    (ho : OpF P E ok t) (h : DataW.Trod enc P w base spare held t v d p) (hz : (DataW.weightsEach P ts ds).all (· ≤ reachBytes) = true) (ht : ts[j]? = some t) (hd : ds[j]? = some d) : ∃ a, E.rep (Blk w) w a v.cells.toList ∧ ok a := by
  obtain ⟨fuel, hf⟩ := h
  exact ho H enc w base spare held fuel _ _ hf fun n hn => by
    have := List.all_eq_true.1 hz n (DataW.weights_mem_each ht hd n hn)
    simpa using this
theorem arg_one {v u : Value} (h : v.cells.toList = [u]) (hv : B.one v = true) : v = u := by
  cases v <;> first | (simp [B.one] at hv; done) | (simpa [Value.cells] using h)
theorem hAll (w : World) : ∀ k, Blk w k → Off w [] k := fun k hk => ⟨hk, fun ⟨p, hp, _⟩ => by simp at hp⟩
end
end Go.Proofs.Ytcnchjlomcafeaa.B
