/- Operations on slices. -/
import Derived.Test.YtcnchjlomcafeaaEnc
set_option linter.unusedVariables false
set_option linter.unusedSimpArgs false
set_option linter.unusedSectionVars false
namespace Go.Proofs.Ytcnchjlomcafeaa.B
open Go Go.RowKit

/-- Parts one behind the other. -/
def partsOk (sz : Nat) : Nat → List (Nat × Value) → Bool
  | _, [] => true
  | i, p :: r => Nat.beq p.1 i && Nat.beq p.2.cells.size sz && partsOk sz (i + 1) r
theorem setFold : ∀ (l : List Value) (k off : Nat) (cs : Array Value), off + k + l.length ≤ cs.size →
    ((l.zipIdx k).foldl (fun cs (p : Value × Nat) => cs.setIfInBounds (off + p.2) p.1) cs).toList = cs.toList.take (off + k) ++ l ++ cs.toList.drop (off + k + l.length) := by
  intro l
  induction l with
  | nil => intro k off cs h; simp
  | cons a r ih =>
    intro k off cs h
    simp only [List.length_cons] at h
    rw [List.zipIdx_cons, List.foldl_cons, ih (k + 1) off _ (by simp; omega)]
    apply List.ext_getElem?
    intro m
    simp only [Array.toList_setIfInBounds, List.getElem?_append, List.length_append, List.length_take, List.getElem?_take, List.getElem?_drop, List.getElem?_set, List.length_set, Array.length_toList, List.length_cons, List.getElem?_cons]
    grind
theorem fill_parts (sz : Nat) : ∀ (vs : List (Nat × Value)) (i : Nat) (pre : List Value) (cells : Array Value), partsOk sz i vs = true → pre.length = i * sz → cells.toList.take (i * sz) = pre → cells.size = (i + vs.length) * sz →
    Instr.fill (fun i => some (i * sz, sz)) cells vs = some (pre ++ vs.flatMap fun p => p.2.cells.toList).toArray := by
  intro vs
  induction vs with
  | nil =>
    intro i pre cells _ hp ht hs
    simp only [List.length_nil, Nat.add_zero] at hs
    simp only [Instr.fill, List.flatMap_nil, List.append_nil, ← ht]
    rw [List.take_of_length_le (by simp [hs])]
  | cons p r ih =>
    intro i pre cells hk hp ht hs
    obtain ⟨j, v⟩ := p
    simp only [partsOk, Bool.and_eq_true] at hk
    obtain ⟨⟨h1, h2⟩, h3⟩ := hk
    have h1 := Nat.eq_of_beq_eq_true h1
    have h2 := Nat.eq_of_beq_eq_true h2
    subst h1
    simp only [List.length_cons] at hs
    have hm : j * sz + sz ≤ cells.size := by rw [hs, ← Nat.succ_mul]; exact Nat.mul_le_mul_right _ (by omega)
    simp only [Instr.fill]
    rw [if_neg (by simp [h2]; omega)]
    have hl : v.cells.toList.length = sz := by simp [h2]
    have hf : (v.cells.zipIdx.foldl (fun cs (x : Value × Nat) => match x with | (c, j_1) => cs.setIfInBounds (j * sz + j_1) c) cells).toList = cells.toList.take (j * sz) ++ v.cells.toList ++ cells.toList.drop (j * sz + sz) := by
      have := setFold v.cells.toList 0 (j * sz) cells (by simp only [hl]; omega)
      rw [Nat.add_zero, hl] at this
      rw [← this, ← Array.foldl_toList, Array.toList_zipIdx]
    have hz := ih (j + 1) (pre ++ v.cells.toList) _ h3 (by rw [List.length_append, hp, hl, Nat.succ_mul]) (by
      rw [hf, ht, List.take_append_of_le_length (by rw [List.length_append, hp, hl, Nat.succ_mul]; omega), List.take_of_length_le (by rw [List.length_append, hp, hl, Nat.succ_mul]; omega)]) (by
      rw [← Array.length_toList, hf]
      simp only [List.length_append, List.length_take, List.length_drop, hl, Array.length_toList]
      rw [show j + 1 + r.length = j + (r.length + 1) by omega, ← hs]
      omega)
    rw [hz]
    simp
section
variable {P : Program} {ops : Array Oper} {Q : Exit → Act → World → Prop} {n : Nat} {L : Env} {σ : Nat → Value} {ds : List Deferred} {w : World} {rest : List Oper}
variable {d : Nat} {ty : TypeId} {pos : String} {af : Array Edge} {v v1 v2 v3 : Value} {x y z : Operand} {gd : Option (Nat × Bool)} {dst : Option Tmp}
variable {M I F : Nat → Prop} {w0 wr wf : World} {R : List Rsc} {α : Type} {E : Enc α}

theorem run_indexAddr {t e : TypeId} {A : Addr} {m c : Nat} {i : Int} {k' : IntKind} {sz : Nat} (hu : UT P t (.slice e)) (hs : SZ P e sz) (h0 : 0 ≤ i) (h1 : i < m) :
    (Instr.indexAt t (.slice (some A) m c) (.int k' i)).run P w = .ok (.pointer (some (A.add (i.toNat * sz)))) w := by
  simp [Instr.indexAt, asIntOf, Sem.run_bind, hu w, h0, h1, hs w]
/-- Cells in memory that may be read. -/
structure EP (I : Nat → Prop) (wr : World) (a : Addr) (cs : List Value) : Prop where
  at_ : I a.block
  cells : CellsAt wr a cs
theorem EP.now {a : Addr} {cs : List Value} (h : EP I wr a cs) (hp : Hp M I w0 wr w R) : CellsAt w a cs := h.cells.block (hp.imm _ h.at_)
theorem EP.up {I' : Nat → Prop} {w' : World} {a : Addr} {cs : List Value} (h : EP I wr a cs) (u : Up I wr I' w') : EP I' w' a cs := ⟨(u _ h.at_).1, h.cells.block (u _ h.at_).2⟩
/-- Cells in a block of one's own. -/
def OA (X : Rsc) (a : Addr) (cs : List Value) : Prop := ∀ w : World, (∀ p ∈ X, w.heap[p.1]? = some p.2) → CellsAt w a cs
theorem OA.now {X : Rsc} {a : Addr} {cs : List Value} {i : Nat} (h : OA X a cs) (hp : Hp M I w0 wr w R) (hi : R[i]? = some X) : CellsAt w a cs :=
  h w fun p hq => hp.own p (List.mem_flatten.2 ⟨X, List.mem_of_getElem? hi, hq⟩)
/-- Elements that stand somewhere to be copied. -/
def Src (E : Enc α) (F : Nat → Prop) (wf w : World) (A : Option Addr) (ys : List α) : Prop := ys ≠ [] → ∃ a cs, A = some a ∧ CellsAt w a cs ∧ Reps E F wf ys cs
theorem RdS.src {A : Option Addr} {c : Nat} {ys : List α} (r : RdS E I wr A c ys) (h : Hp M I w0 wr w R) : Src E I wr w A ys := fun hne => by
  obtain ⟨a, cs, ha, hf, hc, hr⟩ := r.at_ hne
  exact ⟨a, cs, ha, hc.block (h.imm _ hf), hr⟩
theorem RdS.srcF {A : Option Addr} {c : Nat} {ys : List α} (r : RdS E I wr A c ys) (hE : Flat E) (h : Hp M I w0 wr w R) : Src E no wz w A ys := fun hne => by
  obtain ⟨a, cs, ha, hf, hc, hr⟩ := r.at_ hne
  exact ⟨a, cs, ha, hc.block (h.imm _ hf), hr.flat hE⟩
theorem Own.src {e : TypeId} {A : Option Addr} {c i : Nat} {ys : List α} {X : Rsc} (o : Own E F wf e A c ys X) (h : Hp M I w0 wr w R) (hi : R[i]? = some X) : Src E F wf w A ys := fun hne => by
  rcases o with ⟨_, _, rfl, _⟩ | ⟨g, cur, cs, rfl, rfl, h1, h2, hb, h3, h4, h5⟩
  · exact absurd rfl hne
  · refine ⟨_, cs, rfl, fun j u hu => ?_, h5⟩
    rw [add_none]
    refine cell_at (h.get hi (j := 0) rfl) ?_
    rw [← h4, List.getElem?_take] at hu
    split at hu
    · rw [Nat.zero_add, ← Array.getElem?_toList]; exact hu
    · cases hu
theorem Src.nil (A : Option Addr) : Src E F wf w A ([] : List α) := fun h => absurd rfl h
/-- append onto an owned slice. -/
theorem s_append {t e : TypeId} {ti : TypeInfo} {zv : Value} {by_ : Nat} {A A' : Option Addr} {c c' r : Nat} {xs ys : List α} {X : Rsc} (h : Hp M I w0 wr w R)
    (hx : (st n L σ ds).eval x = .slice A xs.length c) (hy : (st n L σ ds).eval y = .slice A' ys.length c')
    (hu : P.underlying t = some (.slice e)) (hi : P.info? e = some ti) (hz : ti.zero = some zv) (hsz : ti.size = E.sz) (hby : ti.bytes = by_) (hzs : zv.cells.size = E.sz) (hb0 : Nat.blt 0 by_ = true)
    (hr : R[r]? = some X) (ho : Own E F wf e A c xs X) (hs : Src E F wf w A' ys) (hlim : (xs.length + ys.length) * by_ ≤ 140737488355328) (hn : Nat.blt d n = true)
    (k : ∀ A2 c2 w' X', Hp M I w0 wr w' (R.set r X') → Own E F wf e A2 c2 (xs ++ ys) X' → wpList P ops Q rest (st n ((d, .slice A2 (xs ++ ys).length c2) :: L) σ ds) w') :
    wpList P ops Q (⟨some d, .call { callee := .builtin .append, args := #[x, y], argTypes := #[t, t] }, ty, pos, af, none⟩ :: rest) (st n L σ ds) w := by
  have hb0 := blt hb0
  have hlen : xs.length + ys.length ≤ 140737488355328 := Nat.le_trans (Nat.le_mul_of_pos_right _ hb0) hlim
  obtain ⟨cx, hcx, hown⟩ := ho.row h hr
  have main : ∃ v' w' cy, Reps E F wf ys cy ∧ (Builtin.append_ #[t, t] ty #[.slice A xs.length c, .slice A' ys.length c']).run P w = .ok v' w' ∧ w'.ownsRow 0 e E.sz v' (xs.length + ys.length) (cx ++ cy) ∧
      w.grownBy w' (Value.slice A xs.length c).ownBlock ∧ (v'.ownBlock = (Value.slice A xs.length c).ownBlock ∨ v'.ownBlock = some w.heap.size) := by
    by_cases hne : ys = []
    · subst hne
      refine ⟨.slice A xs.length c, w, [], .nil, ?_, by simpa using hown, ⟨rfl, rfl, rfl, Nat.le_refl _, fun _ _ _ => rfl⟩, .inl rfl⟩
      have hle := ho.le
      have hfc : (Builtin.firstCells E.sz 0 (.slice A' 0 c')).run P w = .ok #[] w := by cases A' <;> simp [Builtin.firstCells, loadCells, loadCellsFrom]
      cases A with
      | none => simp [Builtin.append_, run_underlying hu, sizeOf, typeInfo, hi, Builtin.lenOf, hle, hsz, hfc, Sem.run_bind]
      | some a => simp [Builtin.append_, run_underlying hu, sizeOf, typeInfo, hi, Builtin.lenOf, hle, hsz, hfc, Sem.run_bind, storeCells]
    · obtain ⟨a, cy, rfl, hc, hcy⟩ := hs hne
      obtain ⟨v', w', h1, h2, h3, _, h5⟩ := run_append_own_at (P := P) w 0 t ty e ti zv E.sz by_ hu hi hz hsz hby hzs E.pos (.slice A xs.length c) xs.length cx hown a ys.length c' cy hcy.len hc
        (fun u hu => hcy.mem u hu) (by simp only [maxLen]; omega) hlim (Nat.zero_le _)
      exact ⟨v', w', cy, hcy, h1, h2, h3, h5⟩
  obtain ⟨v', w', cy, hcy, hrun, hown', hg, hat⟩ := main
  have hres : ∃ A2 c2 X', v' = .slice A2 (xs ++ ys).length c2 ∧ Own E F wf e A2 c2 (xs ++ ys) X' ∧ (∀ p ∈ X', w'.heap[p.1]? = some p.2) ∧ (∀ p ∈ X', (∃ q ∈ X, q.1 = p.1) ∨ w.heap.size ≤ p.1) ∧ (X'.map (·.1)).Nodup := by
    rcases hown'.2 with ⟨rfl, h0⟩ | ⟨g, cap, cur, rfl, _, hg1, h1, h2, h3, h4⟩
    · have hnil : xs ++ ys = [] := List.eq_nil_of_length_eq_zero (by rw [List.length_append]; exact h0)
      refine ⟨none, 0, [], by rw [hnil]; rfl, by rw [hnil]; exact Own.nil E _ _ e, by simp, by simp, by simp⟩
    · refine ⟨some ⟨g, 0, none⟩, cap, [(g, .cells cur e (0, 0))], by simp, .inr ⟨g, cur, _, rfl, rfl, by simpa using h1, h2, by rw [List.length_append]; exact hlen, h3, by simpa using h4, hcx.append hcy⟩, by simp [hg1], ?_, by simp⟩
      intro p hp
      simp at hp; subst hp
      rcases hat with hat | hat
      · left
        rcases ho with ⟨rfl, rfl, rfl, rfl⟩ | ⟨g', cur', _, rfl, rfl, _⟩
        · simp [Value.ownBlock] at hat
        · simp [Value.ownBlock] at hat; subst hat; exact ⟨_, List.mem_singleton.2 rfl, rfl⟩
      · right; simp [Value.ownBlock] at hat; omega
  obtain ⟨A2, c2, X', rfl, hO, hc1, hc2, hc3⟩ := hres
  refine sv rfl rfl hn ?_ (k A2 c2 w' X' (h.swap hr hg ?_ hc1 hc2 hc3) hO)
  · simp only [execOp, resolve]
    rw [show (#[x, y] : Array Operand).map (st n L σ ds).eval = #[.slice A xs.length c, .slice A' ys.length c'] by simp [hx, hy]]
    simp only [Sem.run_bind, Sem.run_pure, Result.andThen_ok, invoke, builtin]
    rw [hrun]; rfl
  · intro k hk
    rcases ho with ⟨rfl, rfl, rfl, rfl⟩ | ⟨g', cur', _, rfl, rfl, _⟩
    · simp [Value.ownBlock] at hk
    · simp [Value.ownBlock] at hk; subst hk; exact ⟨_, List.mem_singleton.2 rfl, rfl⟩
/-- A literal. -/
theorem s_buildSlice {t e : TypeId} {m : Nat} {ps : List (Nat × Operand)} {vs : List (Nat × Value)} {xs : List α} {cs : List Value} {zv : Value} (h : Hp M I w0 wr w R)
    (hx : EvP (st n L σ ds).eval ps vs) (hu : UT P t (.slice e)) (hs : SZ P e E.sz) (hz : ZR P e zv) (hm : xs.length = m) (h0 : Nat.beq m 0 = false) (hsmall : Nat.ble (m * E.sz) 16777216 = true)
    (hr : Reps E F wf xs cs)
    (hf : Instr.fill (fun i => some (i * E.sz, E.sz)) ((Array.range (m * E.sz)).map (zv.cells[· % zv.cells.size]!)) vs = some cs.toArray) (hn : Nat.blt d n = true)
    (k : ∀ A c w' X, Hp M I w0 wr w' (R ++ [X]) → Own E F wf e A c xs X → wpList P ops Q rest (st n ((d, .slice A xs.length c) :: L) σ ds) w') :
    wpList P ops Q (⟨some d, .buildSlice t m ps.toArray, ty, pos, af, none⟩ :: rest) (st n L σ ds) w := by
  have hsmall := Nat.le_of_ble_eq_true hsmall
  have h0 : ¬ m = 0 := fun e => by rw [e] at h0; cases h0
  subst hm
  refine sv rfl rfl hn ?_ (k (some ⟨w.heap.size, 0, none⟩) xs.length _ _ (h.alloc (.cells cs.toArray e (0, 0))) (.inr ⟨_, _, _, rfl, rfl, Nat.le_refl _, ?_, ?_, ?_, rfl, ?_⟩))
  · simp only [execOp, List.map_toArray, hx.map]
    have h1 : ¬ (xs.length * E.sz > 2 ^ 24) := by omega
    have h2 : ¬ (xs.length * E.sz = 0) := by have := Nat.mul_pos (Nat.pos_of_ne_zero h0) E.pos; omega
    simp only [Instr.buildSlice, Sem.run_bind, hu w, hs w, Result.andThen_ok, if_neg h1, Sem.run_pure, if_neg h2, hz w, hf]
    simp [newRow, newObj, Sem.run, Sem.run_bind]
  · have : xs.length ≤ xs.length * E.sz := Nat.le_mul_of_pos_right _ E.pos
    simp only [maxLen]; omega
  · have : xs.length ≤ xs.length * E.sz := Nat.le_mul_of_pos_right _ E.pos
    omega
  · simp [hr.len]
  · have : (cs.take (xs.length * E.sz)) = cs := List.take_of_length_le (by rw [hr.len]; omega)
    simpa [this] using hr
/-- A literal whose parts stand one behind the other. -/
theorem s_buildC {t e : TypeId} {m : Nat} {ps : List (Nat × Operand)} {vs : List (Nat × Value)} {xs : List α} {cs : List Value} {zv : Value} (h : Hp M I w0 wr w R)
    (hx : EvP (st n L σ ds).eval ps vs) (hu : UT P t (.slice e)) (hs : SZ P e E.sz) (hz : ZR P e zv) (hm : xs.length = m) (h0 : Nat.beq m 0 = false) (hsmall : Nat.ble (m * E.sz) 16777216 = true)
    (hr : Reps E F wf xs cs) (hp : partsOk E.sz 0 vs = true) (hl : vs.length = m) (hcs : (vs.flatMap fun p => p.2.cells.toList) = cs) (hn : Nat.blt d n = true)
    (k : ∀ A c w' X, Hp M I w0 wr w' (R ++ [X]) → Own E F wf e A c xs X → wpList P ops Q rest (st n ((d, .slice A xs.length c) :: L) σ ds) w') :
    wpList P ops Q (⟨some d, .buildSlice t m ps.toArray, ty, pos, af, none⟩ :: rest) (st n L σ ds) w :=
  s_buildSlice h hx hu hs hz hm h0 hsmall hr (by
    have := fill_parts E.sz vs 0 [] ((Array.range (m * E.sz)).map (zv.cells[· % zv.cells.size]!)) hp (by simp) (by simp) (by simp [hl])
    rw [this, hcs]; rfl) hn k
/-- An empty literal. -/
theorem s_buildSlice0 {t e : TypeId} (E : Enc α) (F : Nat → Prop) (wf : World) (h : Hp M I w0 wr w R) (hu : UT P t (.slice e)) (hs : SZ P e E.sz) (hn : Nat.blt d n = true)
    (k : ∀ A c w' X, Hp M I w0 wr w' (R ++ [X]) → Own E F wf e A c ([] : List α) X → wpList P ops Q rest (st n ((d, .slice A ([] : List α).length c) :: L) σ ds) w') :
    wpList P ops Q (⟨some d, .buildSlice t 0 #[], ty, pos, af, none⟩ :: rest) (st n L σ ds) w := by
  refine sv rfl rfl hn ?_ (k (some ⟨w.heap.size, 0, none⟩) 0 _ _ (h.alloc (.cells #[] e (0, 0))) (.inr ⟨_, _, [], rfl, rfl, Nat.le_refl _, by simp [maxLen], by simp, by simp, by simp, .nil⟩))
  simp only [execOp, Instr.buildSlice, Sem.run_bind, hu w, hs w, Result.andThen_ok, Nat.zero_mul]
  have hr : Array.range 0 = #[] := by simp [Array.range]
  simp [Instr.fill, newRow, newObj, Sem.run, Sem.run_bind, hr]
end
end Go.Proofs.Ytcnchjlomcafeaa.B
