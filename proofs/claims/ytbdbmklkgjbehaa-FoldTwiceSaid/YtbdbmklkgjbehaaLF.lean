/- LF: several texts in one. -/
import Derived.Test.YtbdbmklkgjbehaaLB
import Derived.WalkKit
import Derived.OpenShut
import Derived.ShutString
import Derived.ChangeOld
import Derived.Below
import Derived.SizedLaws
import Derived.ChangeArms
import Derived.WideShapes
import Derived.Deep.Slices
import Derived.Test.YtbdbmklkgjbehaaLE
set_option linter.unusedVariables false
set_option linter.unusedSimpArgs false
set_option linter.unusedSectionVars false
namespace Go.Proofs.Ytbdbmklkgjbehaa.B
open Go Go.RowKit Go.ChangeShapes Go.WideShapes

def Blk (w : World) (k : Nat) : Prop := k < w.heap.size
def OpF (P : Program) {α : Type} (E : Enc α) (ok : α → Prop) (t : TypeId) : Prop :=
  ∀ (H : Type) (enc : TypeId × Value → H) (w : World) (base : Nat) (spare : Nat → Bool) (held : Bool) (fuel : Nat) (cs : List Value) (x : DataW H × List MemPlace),
    DataW.trod enc P w base spare held fuel t cs = some x → (∀ n ∈ x.1.weights P t, n ≤ reachBytes) → ∃ a, E.rep (Blk w) w a cs ∧ ok a
section
variable {P : Program} {t : TypeId}
theorem opInt {k : IntKind} (ht : P.underlying t = some (.int k)) : OpF P (intE k) (fun n => (Lit.int k n).wf = true) t := by
  intro H enc w base spare held fuel cs x h _
  obtain ⟨n, hc, _, hw⟩ := DataW.trod_int ht h
  exact ⟨n, hc, hw⟩
theorem opBool (ht : P.underlying t = some .bool) : OpF P boolE (fun _ => True) t := by
  intro H enc w base spare held fuel cs x h _
  obtain ⟨b, hc, _⟩ := DataW.trod_bool ht h
  exact ⟨b, hc, trivial⟩
theorem opStr (ht : P.underlying t = some .string) : OpF P strE (fun s => s.size ≤ 140737488351232) t := by
  intro H enc w base spare held fuel cs x h hw
  obtain ⟨s, hc, hx, hs⟩ := DataW.trod_string ht h
  refine ⟨s, hc, ?_⟩
  subst hx
  have h1 := hw s.data.toList.length (by simp [DataW.weights])
  have h3 : reachBytes = 140737488351232 := rfl
  rw [h3, Array.length_toList] at h1
  exact h1
theorem fld {H : Type} {fs : Array Field} {xs : List (DataW H × List MemPlace)} {g : Field → Option (DataW H × List MemPlace)} (hlen : xs.length = fs.size)
    (hf : ∀ (i : Nat) (f : Field), fs[i]? = some f → g f = xs[i]?) (i : Nat) (f : Field) (hi : fs[i]? = some f) : ∃ y, g f = some y ∧ xs[i]? = some y := by
  have hlt : i < xs.length := by rw [hlen]; exact (Array.getElem?_eq_some_iff.1 hi).1
  exact ⟨_, (hf i f hi).trans (List.getElem?_eq_getElem hlt), List.getElem?_eq_getElem hlt⟩
theorem fldw {H : Type} {fs : Array Field} {xs : List (DataW H × List MemPlace)} (ht : P.underlying t = some (.struct fs)) (hw : ∀ n ∈ (DataW.agg (xs.map (·.1))).weights P t, n ≤ reachBytes) {i : Nat} {f : Field} {y : DataW H × List MemPlace}
    (hi : fs[i]? = some f) (hy : xs[i]? = some y) : ∀ n ∈ y.1.weights P f.type, n ≤ reachBytes := by
  intro n hn
  refine hw n ?_
  simp only [DataW.weights, ht]
  exact DataW.weights_mem_each (j := i) (by simp [hi]) (by simp [hy]) n hn
theorem dsplit {cs l : List Value} {o c c' o' : Nat} (e : (cs.drop o).take c' = l) (hc : c' = c) (ho : o + c = o') : cs.drop o = l ++ cs.drop o' := by
  subst hc; subst ho
  rw [← e, ← List.drop_drop, List.take_append_drop]
theorem dlast {cs : List Value} {o n : Nat} (h : cs.length = n) (ho : n = o) : cs.drop o = [] := List.drop_eq_nil_of_le (by omega)
theorem weightsAll_mem {H : Type} {e : TypeId} {d : DataW H} : ∀ {l : List (DataW H)}, d ∈ l → ∀ n ∈ d.weights P e, n ∈ DataW.weightsAll P e l
  | x :: l, h, n, hn => by
    simp only [DataW.weightsAll, List.mem_append]
    rcases List.mem_cons.1 h with rfl | h
    · exact .inl hn
    · exact .inr (weightsAll_mem h n hn)
  | [], h, _, _ => by simp at h
theorem CellsAt.app {w : World} {a : Addr} {l m : List Value} (h : CellsAt w a l) (k : CellsAt w (a.add l.length) m) : CellsAt w a (l ++ m) := by
  intro j u hu
  rw [List.getElem?_append] at hu
  split at hu
  · exact h j u hu
  · rename_i hj
    have := k _ u hu
    rw [add_add] at this
    rwa [show l.length + (j - l.length) = j by omega] at this
theorem opSl {α : Type} [Inhabited α] {E : Enc α} {ok : α → Prop} {e : TypeId} (ho : OpF P E ok e) (ht : P.underlying t = some (.slice e)) (hs : P.cellsOf e = E.sz) (hb : 0 < P.bytesOf e) :
    OpF P (slE E) (fun l => l.length * P.bytesOf e ≤ 140737488351232 ∧ ∀ x ∈ l, ok x) t := by
  intro H enc w base spare held fuel cs x h hw
  rcases Go.Deep.open_slice ht h with ⟨rfl, rfl⟩ | ⟨a, len, cap, m, n, D, Pl, rfl, hba, hl, hm, hmm, rfl, hx⟩
  · exact ⟨[], ⟨none, 0, rfl, RdS.nil _ _⟩, by simp, by simp⟩
  have hlm : len ≤ m := by rw [hmm]; split <;> omega
  have hwt : ∀ i, i < len → ∀ k ∈ (D i).weights P e, k ≤ reachBytes := by
    intro i hi k hk
    refine hw k ?_
    simp only [DataW.weights, ht, List.mem_cons, List.mem_append]
    exact .inr (.inl (weightsAll_mem (List.mem_map.2 ⟨i, List.mem_range.2 hi, rfl⟩) k hk))
  have hlen : len * P.bytesOf e ≤ 140737488351232 := by
    have h1 := hw ((((List.range len).map D).length + ((List.range (m - len)).map fun j => D (len + j)).length) * P.bytesOf e) (by simp [DataW.weights, ht])
    simp only [List.length_map, List.length_range] at h1
    have h2 : len * P.bytesOf e ≤ (len + (m - len)) * P.bytesOf e := Nat.mul_le_mul_right _ (by omega)
    have h3 : reachBytes = 140737488351232 := rfl
    omega
  have hel : ∀ i, i < len → ∃ z : α × List Value, (∀ j, j < E.sz → w.cell? ((a.add (i * E.sz)).add j) = z.2[j]?) ∧ z.2.length = E.sz ∧ E.rep (Blk w) w z.1 z.2 ∧ ok z.1 := by
    intro i hi
    obtain ⟨cs', h1, h2⟩ := hx i (by omega)
    obtain ⟨y, h3, h4⟩ := ho H enc w base spare held n cs' _ h2 (hwt i hi)
    rw [hs] at h1
    obtain ⟨_, h5, h6⟩ := World.cells?_some h1
    exact ⟨(y, cs'), h6, h5, h3, h4⟩
  obtain ⟨f, hf⟩ := Go.Deep.choose_lt hel
  have main : ∀ n, n ≤ len → Reps E (Blk w) w ((List.range n).map fun i => (f i).1) ((List.range n).flatMap fun i => (f i).2) ∧ CellsAt w a ((List.range n).flatMap fun i => (f i).2) := by
    intro n
    induction n with
    | zero => intro _; exact ⟨.nil, fun j u hu => by simp at hu⟩
    | succ n ih =>
      intro hn
      obtain ⟨h1, h2⟩ := ih (by omega)
      obtain ⟨g1, g2, g3, g4⟩ := hf n (by omega)
      rw [List.range_succ, List.map_append, List.flatMap_append]
      simp only [List.map_cons, List.map_nil, List.flatMap_cons, List.flatMap_nil, List.append_nil]
      have hll := h1.len
      simp only [List.length_map, List.length_range] at hll
      refine ⟨h1.append (Reps.one_ g3), h2.app ?_⟩
      rw [hll]
      intro j u hu
      have hj : j < E.sz := by rw [← g2]; exact (List.getElem?_eq_some_iff.1 hu).1
      rw [g1 j hj]; exact hu
  obtain ⟨h1, h2⟩ := main len (Nat.le_refl _)
  have hlb : len ≤ len * P.bytesOf e := Nat.le_mul_of_pos_right _ hb
  refine ⟨(List.range len).map fun i => (f i).1, ⟨some a, cap, by simp, ⟨by simpa using hl, by simp only [List.length_map, List.length_range]; omega, fun hne => ⟨a, _, rfl, ?_, h2, h1⟩⟩⟩, by simpa using hlen, ?_⟩
  · have h0 : 0 < len := by
      rcases Nat.eq_zero_or_pos len with h0 | h0
      · subst h0; simp at hne
      · exact h0
    obtain ⟨g1, g2, _, _⟩ := hf 0 h0
    have := g1 0 E.pos
    have hc : w.cell? a ≠ none := by
      have e0 : (a.add (0 * E.sz)).add 0 = a := by simp [Addr.add]
      rw [e0] at this
      rw [this, List.getElem?_eq_getElem (by rw [g2]; exact E.pos)]
      simp
    show a.block < w.heap.size
    refine Nat.lt_of_not_le fun hle => hc ?_
    simp [World.cell?, hle]
  · intro y hy
    obtain ⟨i, hi, rfl⟩ := List.mem_map.1 hy
    exact (hf i (List.mem_range.1 hi)).2.2.2
theorem trod_lt' {H : Type} {enc : TypeId × Value → H} {w : World} {base : Nat} {spare : Nat → Bool} {held : Bool} {v : Value} {d : DataW H} {p : List MemPlace}
    (h : DataW.Trod enc P w base spare held t v d p) : ∀ x ∈ p, x.block < w.heap.size := by
  obtain ⟨fuel, hf⟩ := h
  exact DataW.trod_lt fuel _ _ _ hf
theorem open_arg {α : Type} {E : Enc α} {ok : α → Prop} {H : Type} {enc : TypeId × Value → H} {w : World} {base : Nat} {spare : Nat → Bool} {held : Bool} {v : Value} {d : DataW H} {p : List MemPlace} {ts : List TypeId} {ds : List (DataW H)} {j : Nat}
    (ho : OpF P E ok t) (h : DataW.Trod enc P w base spare held t v d p) (hz : (DataW.weightsEach P ts ds).all (· ≤ reachBytes) = true) (ht : ts[j]? = some t) (hd : ds[j]? = some d) : ∃ a, E.rep (Blk w) w a v.cells.toList ∧ ok a := by
  obtain ⟨fuel, hf⟩ := h
  exact ho H enc w base spare held fuel _ _ hf fun n hn => by
    have := List.all_eq_true.1 hz n (DataW.weights_mem_each ht hd n hn)
    simpa using this
theorem arg_one {v u : Value} (h : v.cells.toList = [u]) (hv : B.one v = true) : v = u := by
  cases v <;> first | (simp [B.one] at hv; done) | (simpa [Value.cells] using h)
theorem arg_agg {v : Value} {cs : List Value} (c : Array Value) (hv : v = .agg c) (h : v.cells.toList = cs) : v = .agg cs.toArray := by
  subst hv; simp [Value.cells] at h; simp [← h]
theorem hAll (w : World) : ∀ k, Blk w k → Off w [] k := fun k hk => ⟨hk, fun ⟨p, hp, _⟩ => by simp at hp⟩
end
end Go.Proofs.Ytbdbmklkgjbehaa.B
namespace Go.Proofs.Ytbdbmklkgjbehaa.X
open Go Go.RowKit Go.Proofs.Ytbdbmklkgjbehaa.B

def j0 (w : World) : Imm := fun b => match w.heap[b]? with
  | some (.cells cs _ _) => some cs.toList
  | _ => none
def s0 (w : World) : Ms := ⟨fun _ => .unborn, fun _ => .dead, j0 w, [], []⟩
theorem s0_wd (w : World) : Wd (s0 w) w := by
  refine ⟨fun h b sz e => (by cases e), fun h h' b sz sz' e => (by cases e), fun i b e => (by simp [s0] at e), rfl, List.nodup_nil, fun b gs e => ?_, fun h b sz e => (by cases e), fun b hb => (by simp [s0] at hb), fun h b sz e => (by cases e), fun h e => (by cases e), fun cs hcs => (by simp [s0] at hcs)⟩
  simp only [s0, j0] at e
  split at e
  · rename_i cs te fr ho
    cases e
    exact ⟨te, fr, [], by rw [ho]; simp⟩
  · cases e
theorem s0_is (w : World) : Is (s0 w) [] [] := ⟨fun h => by simp [s0, hget], rfl, fun h _ => rfl⟩
theorem ev_law {P : Program} {f : FuncId} {args : List AV} {v : Value} {w : World} {gs : List Value} (h : Ev P f args [] [] (.ret (.v v) [] [])) (hA : L2 (VI (j0 w)) args gs) :
    Calls P f gs.toArray w fun e w' => e = .returned v ∧ Below w.heap.size w w' := by
  refine Calls.mono (h.2 (s0 w) w gs (s0_wd w) (s0_is w) (hA.mono fun _ _ h => .im h)) fun e w' he => ?_
  rcases he with ⟨g, rfl, v', H', A', s', ho, k1, k2, k3, k4⟩ | ⟨c, rfl, v', H', A', s', g, ho, _⟩
  · injection ho with h1 h2 h3
    subst h1 h2 h3
    rw [k4.vE]
    refine ⟨rfl, k2.os, k2.tape, k2.output, k2.sz, fun k hk => k2.old k hk ?_⟩
    rintro (⟨h, sz, e⟩ | hb)
    · cases e
    · simp [s0] at hb
  · cases ho
def OpA (P : Program) {α : Type} (e : α → List AV) (k : Nat) (ok : α → Prop) (t : TypeId) : Prop :=
  ∀ (H : Type) (enc : TypeId × Value → H) (w : World) (base : Nat) (spare : Nat → Bool) (held : Bool) (fuel : Nat) (cs : List Value) (x : DataW H × List MemPlace),
    DataW.trod enc P w base spare held fuel t cs = some x → (∀ n ∈ x.1.weights P t, n ≤ reachBytes) → ∃ a, L2 (VI (j0 w)) (e a) cs ∧ (e a).length = k ∧ (∀ u ∈ cs, one u = true) ∧ ok a
section
variable {P : Program} {t : TypeId}
theorem L2.one1 {J : Imm} {x : AV} {g : Value} (h : VI J x g) : L2 (VI J) [x] [g] := L2.cons h L2.nil
theorem opIntA {k : IntKind} (ht : P.underlying t = some (.int k)) : OpA P (cI k) 1 (fun n => (Lit.int k n).wf = true) t := by
  intro H enc w base spare held fuel cs x h _
  obtain ⟨n, hc, _, hw⟩ := DataW.trod_int ht h
  subst hc
  exact ⟨n, L2.one1 (.v _), rfl, fun u hu => by simp at hu; subst hu; rfl, hw⟩
theorem opBoolA (ht : P.underlying t = some .bool) : OpA P cB 1 (fun _ => True) t := by
  intro H enc w base spare held fuel cs x h _
  obtain ⟨b, hc, _⟩ := DataW.trod_bool ht h
  subst hc
  exact ⟨b, L2.one1 (.v _), rfl, fun u hu => by simp at hu; subst hu; rfl, trivial⟩
theorem opStrA (ht : P.underlying t = some .string) : OpA P cS 1 (fun s => s.size ≤ 140737488351232) t := by
  intro H enc w base spare held fuel cs x h hw
  obtain ⟨s, hc, hk⟩ := opStr ht H enc w base spare held fuel cs x h hw
  have hc : cs = [.string s] := hc
  subst hc
  exact ⟨s, L2.one1 (.v _), rfl, fun u hu => by simp at hu; subst hu; rfl, hk⟩
theorem opSlA {α : Type} [Inhabited α] {e : α → List AV} {k : Nat} {ok : α → Prop} {el : TypeId} (ho : OpA P e k ok el) (ht : P.underlying t = some (.slice el)) (hs : P.cellsOf el = k) (hk : 0 < k) (hb : 0 < P.bytesOf el) :
    OpA P (cL k e) 1 (fun l => l.length * P.bytesOf el ≤ 140737488351232 ∧ ∀ x ∈ l, ok x) t := by
  intro H enc w base spare held fuel cs x h hw
  rcases Go.Deep.open_slice ht h with ⟨rfl, rfl⟩ | ⟨a, len, cap, m, n, D, Pl, rfl, hba, hl, hm, hmm, rfl, hx⟩
  · exact ⟨[], L2.one1 .nil0, rfl, fun u hu => by simp at hu; subst hu; rfl, by simp, by simp⟩
  have hlm : len ≤ m := by rw [hmm]; split <;> omega
  have hwt : ∀ i, i < len → ∀ k ∈ (D i).weights P el, k ≤ reachBytes := by
    intro i hi k hk
    refine hw k ?_
    simp only [DataW.weights, ht, List.mem_cons, List.mem_append]
    exact .inr (.inl (weightsAll_mem (List.mem_map.2 ⟨i, List.mem_range.2 hi, rfl⟩) k hk))
  have hlen : len * P.bytesOf el ≤ 140737488351232 := by
    have h1 := hw ((((List.range len).map D).length + ((List.range (m - len)).map fun j => D (len + j)).length) * P.bytesOf el) (by simp [DataW.weights, ht])
    simp only [List.length_map, List.length_range] at h1
    have h2 : len * P.bytesOf el ≤ (len + (m - len)) * P.bytesOf el := Nat.mul_le_mul_right _ (by omega)
    have h3 : reachBytes = 140737488351232 := rfl
    omega
  have hel : ∀ i, i < len → ∃ z : α × List Value, (∀ j, j < k → w.cell? ((a.add (i * k)).add j) = z.2[j]?) ∧ z.2.length = k ∧ L2 (VI (j0 w)) (e z.1) z.2 ∧ (e z.1).length = k ∧ (∀ u ∈ z.2, one u = true) ∧ ok z.1 := by
    intro i hi
    obtain ⟨cs', h1, h2⟩ := hx i (by omega)
    obtain ⟨y, h3, h4, h5, h6⟩ := ho H enc w base spare held n cs' _ h2 (hwt i hi)
    rw [hs] at h1
    obtain ⟨_, h7, h8⟩ := World.cells?_some h1
    exact ⟨(y, cs'), h8, h7, h3, h4, h5, h6⟩
  obtain ⟨f, hf⟩ := Go.Deep.choose_lt hel
  refine ⟨(List.range len).map fun i => (f i).1, ?_, rfl, fun u hu => by simp at hu; subst hu; rfl, by simpa using hlen, fun y hy => ?_⟩
  · unfold cL
    simp only [List.length_map, List.length_range]
    rcases Nat.eq_zero_or_pos len with h0 | h0
    · subst h0
      exact L2.one1 (.nil fun e => by cases e)
    · obtain ⟨g1, g2, _⟩ := hf 0 h0
      have hc0 : w.cell? a ≠ none := by
        have e0 : (a.add (0 * k)).add 0 = a := by simp [Addr.add]
        have := g1 0 hk
        rw [e0] at this
        rw [this, List.getElem?_eq_getElem (by rw [g2]; exact hk)]
        simp
      obtain ⟨cells, te, fr, hob, hsp⟩ : ∃ cells te fr, w.heap[a.block]? = some (.cells cells te fr) ∧ a.spot = none := by
        unfold World.cell? at hc0
        split at hc0
        · rename_i c te fr ho
          refine ⟨c, te, fr, ho, ?_⟩
          cases hq : a.spot with
          | none => rfl
          | some p => simp [hq] at hc0
        · exact absurd rfl hc0
      obtain ⟨b, off, spot⟩ := a
      simp only at hsp hob
      subst hsp
      have hcell : ∀ i j, i < len → j < k → cells.toList[off + i * k + j]? = (f i).2[j]? := by
        intro i j hi hj
        have := (hf i hi).1 j hj
        rw [← this, add_none, add_none]
        simp [World.cell?, hob]
      refine L2.one1 (.ro (by simp) (b := b) (off := off) (gs := cells.toList) (by simp [j0, hob]) (fun _ => ?_) (fun e => by cases e) hl (fun i x hi => ?_) (fun j g hj hg => ?_) (fun i x j y g hi hj hg => ?_))
      · have h1 := hcell (len - 1) (k - 1) (by omega) (by omega)
        have h2 := (hf (len - 1) (by omega)).2.1
        rw [List.getElem?_eq_getElem (by omega : k - 1 < (f (len - 1)).2.length)] at h1
        have h3 := (List.getElem?_eq_some_iff.1 h1).1
        obtain ⟨q, rfl⟩ : ∃ q, len = q + 1 := ⟨len - 1, by omega⟩
        simp only [Nat.add_sub_cancel] at h3
        rw [Nat.succ_mul]; omega
      · simp only [List.map_map, List.getElem?_map, Option.map_eq_some_iff] at hi
        obtain ⟨i', hi', rfl⟩ := hi
        have hil := List.mem_of_getElem? hi'
        exact (hf i' (List.mem_range.1 hil)).2.2.2.1
      · have h1 : j / k < len := by rw [Nat.div_lt_iff_lt_mul hk]; exact hj
        have h2 := Nat.mod_lt j hk
        have h3 := hcell (j / k) (j % k) h1 h2
        rw [show off + j / k * k + j % k = off + j by rw [Nat.add_assoc, Nat.div_add_mod' j k]] at h3
        rw [hg] at h3
        exact (hf _ h1).2.2.2.2.1 g (List.mem_of_getElem? h3.symm)
      · simp only [List.map_map, List.getElem?_map, Option.map_eq_some_iff] at hi
        obtain ⟨i', hi', rfl⟩ := hi
        obtain ⟨z1, z2⟩ : i < len ∧ i' = i := by
          have := (List.getElem?_eq_some_iff.1 hi')
          obtain ⟨l, e⟩ := this
          simp at l e
          exact ⟨l, e.symm⟩
        subst z2
        obtain ⟨_, _, q3, q4, _⟩ := hf i' z1
        have hjk : j < k := by rw [← q4]; exact (List.getElem?_eq_some_iff.1 hj).1
        have := hcell i' j z1 hjk
        rw [hg] at this
        exact q3.2 j y g hj this.symm
  · obtain ⟨i, hi, rfl⟩ := List.mem_map.1 hy
    exact (hf i (List.mem_range.1 hi)).2.2.2.2.2
theorem open_argA {α : Type} {e : α → List AV} {k : Nat} {ok : α → Prop} {H : Type} {enc : TypeId × Value → H} {w : World} {base : Nat} {spare : Nat → Bool} {held : Bool} {v : Value} {d : DataW H} {p : List MemPlace} {ts : List TypeId} {ds : List (DataW H)} {j : Nat}
    (ho : OpA P e k ok t) (h : DataW.Trod enc P w base spare held t v d p) (hz : (DataW.weightsEach P ts ds).all (· ≤ reachBytes) = true) (ht : ts[j]? = some t) (hd : ds[j]? = some d) : ∃ a, L2 (VI (j0 w)) (e a) v.cells.toList ∧ ok a := by
  obtain ⟨fuel, hf⟩ := h
  obtain ⟨a, h1, _, _, h2⟩ := ho H enc w base spare held fuel _ _ hf fun n hn => by
    have := List.all_eq_true.1 hz n (DataW.weights_mem_each ht hd n hn)
    simpa using this
  exact ⟨a, h1, h2⟩
def Cel (J : Imm) (xs : List AV) (cs : List Value) : Prop := L2 (VI J) xs cs ∧ ∀ u ∈ cs, one u = true
theorem Cel.nil {J : Imm} {cs : List Value} {n o : Nat} (h : cs.length = n) (ho : n = o) : Cel J [] (cs.drop o) := by
  rw [List.drop_eq_nil_of_le (by omega)]
  exact ⟨L2.nil, fun u hu => by simp at hu⟩
theorem Cel.cons {J : Imm} {xs ys : List AV} {cs : List Value} {o c o' : Nat} (h : L2 (VI J) xs ((cs.drop o).take c)) (h1 : ∀ u ∈ (cs.drop o).take c, one u = true) (ho : o + c = o') (k : Cel J ys (cs.drop o')) : Cel J (xs ++ ys) (cs.drop o) := by
  subst ho
  have e : cs.drop o = (cs.drop o).take c ++ cs.drop (o + c) := by rw [← List.drop_drop, List.take_append_drop]
  rw [e]
  refine ⟨h.app k.1, fun u hu => ?_⟩
  rcases List.mem_append.1 hu with hu | hu
  · exact h1 u hu
  · exact k.2 u hu
theorem arg_oneA {J : Imm} {x : AV} {v : Value} (h : L2 (VI J) [x] v.cells.toList) (hv : B.one v = true) : VI J x v := by
  obtain ⟨g, r, e, h1, h2⟩ := h.uncons
  have hr : r = [] := List.eq_nil_of_length_eq_zero h2.1.symm
  subst hr
  rw [arg_one e hv]; exact h1
theorem arg_aggA {J : Imm} {cs : List AV} {c : Array Value} (h : L2 (VI J) cs (Value.agg c).cells.toList) : VI J (.agg cs) (.agg c) := by
  have : (Value.agg c).cells.toList = c.toList := by simp [Value.cells]
  rw [this] at h
  have := VI.agg h.1 h.2
  simpa using this
end
end Go.Proofs.Ytbdbmklkgjbehaa.X
