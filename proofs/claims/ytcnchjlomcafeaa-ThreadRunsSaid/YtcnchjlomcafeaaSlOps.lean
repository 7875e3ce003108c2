/- Operations on slices. -/
import Derived.Test.YtcnchjlomcafeaaEnc
set_option linter.unusedVariables false
set_option linter.unusedSimpArgs false
set_option linter.unusedSectionVars false
namespace Go.Proofs.Ytcnchjlomcafeaa.B
open Go Go.RowKit

section
variable {P : Program} {ops : Array Oper} {Q : Exit → Act → World → Prop} {n : Nat} {L : Env} {σ : Nat → Value} {ds : List Deferred} {w : World} {rest : List Oper}
variable {d : Nat} {ty : TypeId} {pos : String} {af : Array Edge} {v v1 v2 v3 : Value} {x y z : Operand} {gd : Option (Nat × Bool)} {dst : Option Tmp}
variable {M I F : Nat → Prop} {w0 wr wf : World} {R : List Rsc} {α : Type} {E : Enc α}

theorem run_indexAddr {t e : TypeId} {A : Addr} {m c : Nat} {i : Int} {k' : IntKind} {sz : Nat} (hu : UT P t (.slice e)) (hs : SZ P e sz) (h0 : 0 ≤ i) (h1 : i < m) :
    (Instr.indexAt t (.slice (some A) m c) (.int k' i)).run P w = .ok (.pointer (some (A.add (i.toNat * sz)))) w := by
  simp [Instr.indexAt, asIntOf, Sem.run_bind, hu w, h0, h1, hs w]
/-- Cells in memory that may be read. -/
structure EP (I : Nat → Prop) (wr : World) (a : Addr) (cs : List Value) : Prop where
  at_ : I a.block
  cells : CellsAt wr a cs
theorem EP.now {a : Addr} {cs : List Value} (h : EP I wr a cs) (hp : Hp M I w0 wr w R) : CellsAt w a cs := h.cells.block (hp.imm _ h.at_)
theorem EP.up {I' : Nat → Prop} {w' : World} {a : Addr} {cs : List Value} (h : EP I wr a cs) (u : Up I wr I' w') : EP I' w' a cs := ⟨(u _ h.at_).1, h.cells.block (u _ h.at_).2⟩
theorem ep_idx {t e : TypeId} [Inhabited α] {A : Option Addr} {c : Nat} {xs : List α} {i : Int} {k' : IntKind} (hr : RdS E I wr A c xs) (hu : UT P t (.slice e)) (hs : SZ P e E.sz) (hi : 0 ≤ i ∧ i < (xs.length : Int)) :
    ∃ a cs, EP I wr a cs ∧ E.rep I wr (gi xs i) cs ∧ ∀ {ac : Act} {w : World}, ac.eval x = .slice A xs.length c → ac.eval y = .int k' i → (execOp ac.eval ⟨dst, .indexAddr t x y, ty, pos, af, gd⟩).run P w = .ok (.value (.pointer (some a))) w := by
  obtain ⟨a, cs, rfl, hf, hc, hd⟩ := hr.elem (i := i.toNat) (by omega)
  refine ⟨a.add (i.toNat * E.sz), cs, ⟨?_, hc⟩, hd, fun hx hy => ?_⟩
  · unfold Addr.add; split <;> exact hf
  · simp only [execOp, hx, hy]
    rw [Sem.run_bind, run_indexAddr hu hs hi.1 hi.2]
    rfl
/-- Cells in a block of one's own. -/
def OA (X : Rsc) (a : Addr) (cs : List Value) : Prop := ∀ w : World, (∀ p ∈ X, w.heap[p.1]? = some p.2) → CellsAt w a cs
theorem OA.now {X : Rsc} {a : Addr} {cs : List Value} {i : Nat} (h : OA X a cs) (hp : Hp M I w0 wr w R) (hi : R[i]? = some X) : CellsAt w a cs :=
  h w fun p hq => hp.own p (List.mem_flatten.2 ⟨X, List.mem_of_getElem? hi, hq⟩)
theorem own_idx {t e e' : TypeId} [Inhabited α] {A : Option Addr} {c : Nat} {xs : List α} {X : Rsc} {i : Int} {k' : IntKind} (ho : Own E F wf e' A c xs X) (hu : UT P t (.slice e)) (hs : SZ P e E.sz) (hi : 0 ≤ i ∧ i < (xs.length : Int)) :
    ∃ g cs, A = some ⟨g, 0, none⟩ ∧ OA X ⟨g, i.toNat * E.sz, none⟩ cs ∧ E.rep F wf (gi xs i) cs ∧ ∀ {ac : Act} {w : World}, ac.eval x = .slice A xs.length c → ac.eval y = .int k' i →
      (execOp ac.eval ⟨dst, .indexAddr t x y, ty, pos, af, gd⟩).run P w = .ok (.value (.pointer (some ⟨g, i.toNat * E.sz, none⟩))) w := by
  rcases ho with ⟨rfl, rfl, rfl, rfl⟩ | ⟨g, cur, cs, rfl, rfl, h1, h2, hb, h3, h4, h5⟩
  · simp at hi; omega
  · have hil : i.toNat < xs.length := by omega
    obtain ⟨dd, hd, he⟩ := h5.get (List.getElem?_eq_getElem hil)
    have hg : gi xs i = xs[i.toNat] := by simp [gi, hil]
    refine ⟨g, dd, rfl, fun w hX => ?_, hg ▸ hd, fun hx hy => ?_⟩
    · have hh := hX _ (List.mem_singleton.2 rfl)
      intro j u hu
      rw [add_none]
      refine cell_at hh ?_
      rw [← he, ← h4, List.getElem?_take] at hu
      split at hu
      · rw [List.getElem?_drop, List.getElem?_take] at hu
        split at hu
        · rw [← Array.getElem?_toList]; exact hu
        · cases hu
      · cases hu
    · simp only [execOp, hx, hy]
      rw [Sem.run_bind, run_indexAddr hu hs hi.1 hi.2, add_none, Nat.zero_add]
      rfl
/-- A store into an element of an owned slice. -/
theorem s_storeO {t e : TypeId} [Inhabited α] {A : Option Addr} {c g r off sz : Nat} {xs : List α} {X : Rsc} {i : Int} {el : α} {vs cs : List Value} (h : Hp M I w0 wr w R) (hA : A = some ⟨g, 0, none⟩)
    (hx : (st n L σ ds).eval x = .pointer (some ⟨g, i.toNat * E.sz + off, none⟩)) (hy : (st n L σ ds).eval y = v)
    (hv : v.cells = vs.toArray) (hs : SZ P t sz) (hl : vs.length = sz) (h1 : vs.all one = true)
    (hi : R[r]? = some X) (ho : Own E F wf e A c xs X) (hlt : 0 ≤ i ∧ i < (xs.length : Int)) (hoff : Nat.ble (off + vs.length) E.sz = true) (hcs : OA X ⟨g, i.toNat * E.sz, none⟩ cs) (hcsl : cs.length = E.sz)
    (hrep : E.rep F wf el (cs.take off ++ vs ++ cs.drop (off + vs.length)))
    (k : ∀ w' X', Hp M I w0 wr w' (R.set r X') → Own E F wf e A c (xs.set i.toNat el) X' → wpList P ops Q rest (st n L σ ds) w') :
    wpList P ops Q (⟨none, .store t x y, ty, pos, af, none⟩ :: rest) (st n L σ ds) w := by
  have hoff := Nat.le_of_ble_eq_true hoff
  have hil : i.toNat < xs.length := by omega
  generalize i.toNat = i' at *
  rcases ho with ⟨rfl, rfl, rfl, rfl⟩ | ⟨g', cur, cs0, hA', rfl, h2, h3, hb, h4, h5, h6⟩
  · simp at hil
  · rw [hA] at hA'
    injection hA' with hA'; injection hA' with hA'; subst hA'
    have hfit : i' * E.sz + E.sz ≤ xs.length * E.sz := by rw [← Nat.succ_mul]; exact Nat.mul_le_mul_right _ hil
    have hcap : xs.length * E.sz ≤ c * E.sz := Nat.mul_le_mul_right _ h2
    have hcl : cur.toList.length = c * E.sz := by simpa using h4
    have hown := h.get hi (j := 0) (b := g) (o := .cells cur e (0, 0)) rfl
    obtain ⟨w', hr, a1, a2, a3, a4, a5, a6⟩ := run_storeCells (P := P) (b := g) (e := e) vs 0 (i' * E.sz + off) cur.toList w (by simpa using hown) (fun u hu => List.all_eq_true.1 h1 u hu) (by omega)
    rw [Nat.add_zero] at a6
    have hcseq : cs = (cur.toList.drop (i' * E.sz)).take E.sz := by
      have hc := hcs w (by intro p hp; simp at hp; subst hp; exact hown)
      apply List.ext_getElem?
      intro j
      rw [List.getElem?_take]
      by_cases hj : j < E.sz
      · rw [if_pos hj]
        have hj' : j < cs.length := by omega
        have h7 := hc j _ (List.getElem?_eq_getElem hj')
        rw [add_none] at h7
        have h8 : w.cell? ⟨g, i' * E.sz + j, none⟩ = cur[i' * E.sz + j]? := by simp [World.cell?, hown]
        rw [h8] at h7
        rw [List.getElem?_eq_getElem hj', ← h7, List.getElem?_drop, Array.getElem?_toList]
      · rw [if_neg hj, List.getElem?_eq_none (by omega)]
    refine su rfl rfl ?_ (k w' _ (h.upd hi (j := 0) rfl a1 a2 a3 a4 a5 a6) ?_)
    · simp only [execOp, hx, hy]
      simp [Instr.storeAt, Instr.sureAddr, storeVar, Sem.run_bind, hs w, hv, hl, hr]
    · refine .inr ⟨g, _, _, hA, rfl, by simpa using h2, h3, by simpa using hb, ?_, rfl, ?_⟩
      · simp only [List.size_toArray, List.length_append, List.length_take, List.length_drop]; omega
      · have h9 := h6.set hil hrep
        have hgoal : ((cur.toList.take (i' * E.sz + off) ++ vs ++ cur.toList.drop (i' * E.sz + off + vs.length)).take ((xs.set i' el).length * E.sz)) =
            cs0.take (i' * E.sz) ++ (cs.take off ++ vs ++ cs.drop (off + vs.length)) ++ cs0.drop (i' * E.sz + E.sz) := by
          rw [hcseq, ← h5, List.length_set]
          apply List.ext_getElem?
          intro m
          simp only [List.getElem?_append, List.length_append, List.length_take, List.getElem?_take, List.getElem?_drop, List.length_drop]
          grind
        simp only [] at hgoal ⊢
        rw [hgoal]; exact h9
/-- Elements that stand somewhere to be copied. -/
def Src (E : Enc α) (F : Nat → Prop) (wf w : World) (A : Option Addr) (ys : List α) : Prop := ys ≠ [] → ∃ a cs, A = some a ∧ CellsAt w a cs ∧ Reps E F wf ys cs
theorem RdS.src {A : Option Addr} {c : Nat} {ys : List α} (r : RdS E I wr A c ys) (h : Hp M I w0 wr w R) : Src E I wr w A ys := fun hne => by
  obtain ⟨a, cs, ha, hf, hc, hr⟩ := r.at_ hne
  exact ⟨a, cs, ha, hc.block (h.imm _ hf), hr⟩
theorem RdS.srcF {A : Option Addr} {c : Nat} {ys : List α} (r : RdS E I wr A c ys) (hE : Flat E) (h : Hp M I w0 wr w R) : Src E no wz w A ys := fun hne => by
  obtain ⟨a, cs, ha, hf, hc, hr⟩ := r.at_ hne
  exact ⟨a, cs, ha, hc.block (h.imm _ hf), hr.flat hE⟩
theorem Own.src {e : TypeId} {A : Option Addr} {c i : Nat} {ys : List α} {X : Rsc} (o : Own E F wf e A c ys X) (h : Hp M I w0 wr w R) (hi : R[i]? = some X) : Src E F wf w A ys := fun hne => by
  rcases o with ⟨_, _, rfl, _⟩ | ⟨g, cur, cs, rfl, rfl, h1, h2, hb, h3, h4, h5⟩
  · exact absurd rfl hne
  · refine ⟨_, cs, rfl, fun j u hu => ?_, h5⟩
    rw [add_none]
    refine cell_at (h.get hi (j := 0) rfl) ?_
    rw [← h4, List.getElem?_take] at hu
    split at hu
    · rw [Nat.zero_add, ← Array.getElem?_toList]; exact hu
    · cases hu
theorem Src.nil (A : Option Addr) : Src E F wf w A ([] : List α) := fun h => absurd rfl h
/-- append onto an owned slice. -/
theorem s_append {t e : TypeId} {ti : TypeInfo} {zv : Value} {by_ : Nat} {A A' : Option Addr} {c c' r : Nat} {xs ys : List α} {X : Rsc} (h : Hp M I w0 wr w R)
    (hx : (st n L σ ds).eval x = .slice A xs.length c) (hy : (st n L σ ds).eval y = .slice A' ys.length c')
    (hu : P.underlying t = some (.slice e)) (hi : P.info? e = some ti) (hz : ti.zero = some zv) (hsz : ti.size = E.sz) (hby : ti.bytes = by_) (hzs : zv.cells.size = E.sz) (hb0 : Nat.blt 0 by_ = true)
    (hr : R[r]? = some X) (ho : Own E F wf e A c xs X) (hs : Src E F wf w A' ys) (hlim : (xs.length + ys.length) * by_ ≤ 140737488355328) (hn : Nat.blt d n = true)
    (k : ∀ A2 c2 w' X', Hp M I w0 wr w' (R.set r X') → Own E F wf e A2 c2 (xs ++ ys) X' → wpList P ops Q rest (st n ((d, .slice A2 (xs ++ ys).length c2) :: L) σ ds) w') :
    wpList P ops Q (⟨some d, .call { callee := .builtin .append, args := #[x, y], argTypes := #[t, t] }, ty, pos, af, none⟩ :: rest) (st n L σ ds) w := by
  have hb0 := blt hb0
  have hlen : xs.length + ys.length ≤ 140737488355328 := Nat.le_trans (Nat.le_mul_of_pos_right _ hb0) hlim
  obtain ⟨cx, hcx, hown⟩ := ho.row h hr
  have main : ∃ v' w' cy, Reps E F wf ys cy ∧ (Builtin.append_ #[t, t] ty #[.slice A xs.length c, .slice A' ys.length c']).run P w = .ok v' w' ∧ w'.ownsRow 0 e E.sz v' (xs.length + ys.length) (cx ++ cy) ∧
      w.grownBy w' (Value.slice A xs.length c).ownBlock ∧ (v'.ownBlock = (Value.slice A xs.length c).ownBlock ∨ v'.ownBlock = some w.heap.size) := by
    by_cases hne : ys = []
    · subst hne
      refine ⟨.slice A xs.length c, w, [], .nil, ?_, by simpa using hown, ⟨rfl, rfl, rfl, Nat.le_refl _, fun _ _ _ => rfl⟩, .inl rfl⟩
      have hle := ho.le
      have hfc : (Builtin.firstCells E.sz 0 (.slice A' 0 c')).run P w = .ok #[] w := by cases A' <;> simp [Builtin.firstCells, loadCells, loadCellsFrom]
      cases A with
      | none => simp [Builtin.append_, run_underlying hu, sizeOf, typeInfo, hi, Builtin.lenOf, hle, hsz, hfc, Sem.run_bind]
      | some a => simp [Builtin.append_, run_underlying hu, sizeOf, typeInfo, hi, Builtin.lenOf, hle, hsz, hfc, Sem.run_bind, storeCells]
    · obtain ⟨a, cy, rfl, hc, hcy⟩ := hs hne
      obtain ⟨v', w', h1, h2, h3, _, h5⟩ := run_append_own_at (P := P) w 0 t ty e ti zv E.sz by_ hu hi hz hsz hby hzs E.pos (.slice A xs.length c) xs.length cx hown a ys.length c' cy hcy.len hc
        (fun u hu => hcy.mem u hu) (by simp only [maxLen]; omega) hlim (Nat.zero_le _)
      exact ⟨v', w', cy, hcy, h1, h2, h3, h5⟩
  obtain ⟨v', w', cy, hcy, hrun, hown', hg, hat⟩ := main
  have hres : ∃ A2 c2 X', v' = .slice A2 (xs ++ ys).length c2 ∧ Own E F wf e A2 c2 (xs ++ ys) X' ∧ (∀ p ∈ X', w'.heap[p.1]? = some p.2) ∧ (∀ p ∈ X', (∃ q ∈ X, q.1 = p.1) ∨ w.heap.size ≤ p.1) ∧ (X'.map (·.1)).Nodup := by
    rcases hown'.2 with ⟨rfl, h0⟩ | ⟨g, cap, cur, rfl, _, hg1, h1, h2, h3, h4⟩
    · have hnil : xs ++ ys = [] := List.eq_nil_of_length_eq_zero (by rw [List.length_append]; exact h0)
      refine ⟨none, 0, [], by rw [hnil]; rfl, by rw [hnil]; exact Own.nil E _ _ e, by simp, by simp, by simp⟩
    · refine ⟨some ⟨g, 0, none⟩, cap, [(g, .cells cur e (0, 0))], by simp, .inr ⟨g, cur, _, rfl, rfl, by simpa using h1, h2, by rw [List.length_append]; exact hlen, h3, by simpa using h4, hcx.append hcy⟩, by simp [hg1], ?_, by simp⟩
      intro p hp
      simp at hp; subst hp
      rcases hat with hat | hat
      · left
        rcases ho with ⟨rfl, rfl, rfl, rfl⟩ | ⟨g', cur', _, rfl, rfl, _⟩
        · simp [Value.ownBlock] at hat
        · simp [Value.ownBlock] at hat; subst hat; exact ⟨_, List.mem_singleton.2 rfl, rfl⟩
      · right; simp [Value.ownBlock] at hat; omega
  obtain ⟨A2, c2, X', rfl, hO, hc1, hc2, hc3⟩ := hres
  refine sv rfl rfl hn ?_ (k A2 c2 w' X' (h.swap hr hg ?_ hc1 hc2 hc3) hO)
  · simp only [execOp, resolve]
    rw [show (#[x, y] : Array Operand).map (st n L σ ds).eval = #[.slice A xs.length c, .slice A' ys.length c'] by simp [hx, hy]]
    simp only [Sem.run_bind, Sem.run_pure, Result.andThen_ok, invoke, builtin]
    rw [hrun]; rfl
  · intro k hk
    rcases ho with ⟨rfl, rfl, rfl, rfl⟩ | ⟨g', cur', _, rfl, rfl, _⟩
    · simp [Value.ownBlock] at hk
    · simp [Value.ownBlock] at hk; subst hk; exact ⟨_, List.mem_singleton.2 rfl, rfl⟩
/-- A literal. -/
theorem s_buildSlice {t e : TypeId} {m : Nat} {ps : List (Nat × Operand)} {vs : List (Nat × Value)} {xs : List α} {cs : List Value} {zv : Value} (h : Hp M I w0 wr w R)
    (hx : EvP (st n L σ ds).eval ps vs) (hu : UT P t (.slice e)) (hs : SZ P e E.sz) (hz : ZR P e zv) (hm : xs.length = m) (h0 : Nat.beq m 0 = false) (hsmall : Nat.ble (m * E.sz) 16777216 = true)
    (hr : Reps E F wf xs cs)
    (hf : Instr.fill (fun i => some (i * E.sz, E.sz)) ((Array.range (m * E.sz)).map (zv.cells[· % zv.cells.size]!)) vs = some cs.toArray) (hn : Nat.blt d n = true)
    (k : ∀ A c w' X, Hp M I w0 wr w' (R ++ [X]) → Own E F wf e A c xs X → wpList P ops Q rest (st n ((d, .slice A xs.length c) :: L) σ ds) w') :
    wpList P ops Q (⟨some d, .buildSlice t m ps.toArray, ty, pos, af, none⟩ :: rest) (st n L σ ds) w := by
  have hsmall := Nat.le_of_ble_eq_true hsmall
  have h0 : ¬ m = 0 := fun e => by rw [e] at h0; cases h0
  subst hm
  refine sv rfl rfl hn ?_ (k (some ⟨w.heap.size, 0, none⟩) xs.length _ _ (h.alloc (.cells cs.toArray e (0, 0))) (.inr ⟨_, _, _, rfl, rfl, Nat.le_refl _, ?_, ?_, ?_, rfl, ?_⟩))
  · simp only [execOp, List.map_toArray, hx.map]
    have h1 : ¬ (xs.length * E.sz > 2 ^ 24) := by omega
    have h2 : ¬ (xs.length * E.sz = 0) := by have := Nat.mul_pos (Nat.pos_of_ne_zero h0) E.pos; omega
    simp only [Instr.buildSlice, Sem.run_bind, hu w, hs w, Result.andThen_ok, if_neg h1, Sem.run_pure, if_neg h2, hz w, hf]
    simp [newRow, newObj, Sem.run, Sem.run_bind]
  · have : xs.length ≤ xs.length * E.sz := Nat.le_mul_of_pos_right _ E.pos
    simp only [maxLen]; omega
  · have : xs.length ≤ xs.length * E.sz := Nat.le_mul_of_pos_right _ E.pos
    omega
  · simp [hr.len]
  · have : (cs.take (xs.length * E.sz)) = cs := List.take_of_length_le (by rw [hr.len]; omega)
    simpa [this] using hr
/-- An empty literal. -/
theorem s_buildSlice0 {t e : TypeId} (E : Enc α) (F : Nat → Prop) (wf : World) (h : Hp M I w0 wr w R) (hu : UT P t (.slice e)) (hs : SZ P e E.sz) (hn : Nat.blt d n = true)
    (k : ∀ A c w' X, Hp M I w0 wr w' (R ++ [X]) → Own E F wf e A c ([] : List α) X → wpList P ops Q rest (st n ((d, .slice A ([] : List α).length c) :: L) σ ds) w') :
    wpList P ops Q (⟨some d, .buildSlice t 0 #[], ty, pos, af, none⟩ :: rest) (st n L σ ds) w := by
  refine sv rfl rfl hn ?_ (k (some ⟨w.heap.size, 0, none⟩) 0 _ _ (h.alloc (.cells #[] e (0, 0))) (.inr ⟨_, _, [], rfl, rfl, Nat.le_refl _, by simp [maxLen], by simp, by simp, by simp, .nil⟩))
  simp only [execOp, Instr.buildSlice, Sem.run_bind, hu w, hs w, Result.andThen_ok, Nat.zero_mul]
  have hr : Array.range 0 = #[] := by simp [Array.range]
  simp [Instr.fill, newRow, newObj, Sem.run, Sem.run_bind, hr]
theorem cs_replicate {c : List Value} {sz : Nat} (hc : c.length = sz) (hp : 0 < sz) : ∀ (l j : Nat), j < l * sz → (List.replicate l c).flatten[j]? = c[j % sz]?
  | 0, j, h => by simp at h
  | l + 1, j, h => by
    rw [List.replicate_succ, List.flatten_cons, List.getElem?_append]
    split
    · rename_i hj; rw [Nat.mod_eq_of_lt (by omega)]
    · rename_i hj
      rw [hc, cs_replicate hc hp l (j - sz) (by rw [Nat.succ_mul] at h; omega)]
      rw [hc] at hj
      congr 1
      conv => rhs; rw [show j = j - sz + sz by omega, Nat.add_mod_right]
theorem s_makeSlice {t e : TypeId} {ti : TypeInfo} {zv : Value} {by_ : Nat} {kl kc : IntKind} {l c : Int} {cs : List Value} (x0 : α) (h : Hp M I w0 wr w R)
    (hx : (st n L σ ds).eval x = .int kl l) (hy : (st n L σ ds).eval y = .int kc c)
    (hu : P.underlying t = some (.slice e)) (hi : P.info? e = some ti) (hz : ti.zero = some zv) (hsz : ti.size = E.sz) (hby : ti.bytes = by_) (hrep : E.rep F wf x0 cs) (hzs : zv.cells = cs.toArray) (hb0 : Nat.blt 0 by_ = true)
    (hlim : 0 ≤ l ∧ l ≤ c ∧ c * by_ ≤ 140737488355328) (hn : Nat.blt d n = true)
    (k : ∀ A c2 w' X, Hp M I w0 wr w' (R ++ [X]) → Own E F wf e A c2 (List.replicate l.toNat x0) X → wpList P ops Q rest (st n ((d, .slice A (List.replicate l.toNat x0).length c2) :: L) σ ds) w') :
    wpList P ops Q (⟨some d, .makeSlice t x y, ty, pos, af, none⟩ :: rest) (st n L σ ds) w := by
  obtain ⟨h0, hlc, hl⟩ := hlim
  have hb1 : (1 : Int) ≤ by_ := by have := blt hb0; omega
  have hc0 : 0 ≤ c := by omega
  have hcb : c ≤ c * by_ := by
    have := Int.mul_le_mul_of_nonneg_left hb1 hc0
    omega
  have hcl := E.len hrep
  have hrun := run_make (P := P) w t e ti zv hu hi hz kl kc l c h0 hlc (by rw [hby, Int.mul_comm]; omega) (by omega)
  have hlen : (List.replicate l.toNat x0).length = l.toNat := by simp
  refine sv (v := .slice (some ⟨w.heap.size, 0, none⟩) (List.replicate l.toNat x0).length c.toNat) (w' := w.alloc (.cells (madeCells zv.cells (c.toNat * ti.size)) e)) rfl rfl hn ?_ (k _ _ _ _ (h.alloc (.cells (madeCells zv.cells (c.toNat * ti.size)) e)) (.inr ⟨_, _, _, rfl, rfl, ?_, ?_, ?_, ?_, rfl, ?_⟩))
  · simp only [execOp, hx, hy, hlen]
    rw [Sem.run_bind, hrun, Result.andThen_ok]
    rfl
  · rw [hlen]; omega
  · simp only [maxLen]; omega
  · rw [hlen]; omega
  · rw [size_madeCells, hsz]
  · rw [hlen]
    have hll : l.toNat ≤ c.toNat := by omega
    have hmul : l.toNat * E.sz ≤ c.toNat * E.sz := Nat.mul_le_mul_right _ hll
    have heq : (madeCells zv.cells (c.toNat * ti.size)).toList.take (l.toNat * E.sz) = (List.replicate l.toNat cs).flatten := by
      apply List.ext_getElem?
      intro j
      by_cases hj : j < l.toNat * E.sz
      · rw [List.getElem?_take, if_pos hj, cs_replicate hcl E.pos _ _ hj]
        have hmod : j % E.sz < cs.length := by rw [hcl]; exact Nat.mod_lt _ E.pos
        have hj2 : j < c.toNat * E.sz := by omega
        have hj3 : j < c.toNat * ti.size := by rw [hsz]; exact hj2
        simp [madeCells, hj3, hzs, hcl, List.getElem?_eq_getElem hmod, hmod, getElem!_pos, hsz, hj2]
      · rw [List.getElem?_take, if_neg hj, List.getElem?_eq_none]
        have := (Reps.replicate hrep l.toNat).len
        simp at this; simp; omega
    rw [heq]; exact .replicate hrep _
/-- A part of a slice that is read. -/
theorem e_cut {t e : TypeId} {A : Option Addr} {c : Nat} {xs : List α} {lo hi : Option Operand} {l h : Int} {kl kh : IntKind} (hu : UT P t (.slice e)) (hs : SZ P e E.sz)
    (hb : 0 ≤ l ∧ l ≤ h ∧ h ≤ (xs.length : Int)) (hr : RdS E I wr A c xs) :
    ∃ A', RdS E I wr A' (c - l.toNat) ((xs.drop l.toNat).take (h.toNat - l.toNat)) ∧ ∀ {ac : Act} {w : World}, ac.eval x = .slice A xs.length c →
      ((lo.map ac.eval = some (.int kl l)) ∨ (lo = none ∧ l = 0)) → ((hi.map ac.eval = some (.int kh h)) ∨ (hi = none ∧ h = (xs.length : Int))) →
      (execOp ac.eval ⟨dst, .slice t x lo hi none, ty, pos, af, gd⟩).run P w = .ok (.value (.slice A' ((xs.drop l.toNat).take (h.toNat - l.toNat)).length (c - l.toNat))) w := by
  obtain ⟨b0, b1, b2⟩ := hb
  have e0 : 0 ≤ h := by omega
  have hc := hr.len
  have hl : ((xs.drop l.toNat).take (h.toNat - l.toNat)).length = h.toNat - l.toNat := by
    rw [List.length_take, List.length_drop]; omega
  refine ⟨if c = l.toNat then A else A.map (·.add (l.toNat * E.sz)), (hr.drop (k := l.toNat) (by omega) _ rfl).take (by rw [List.length_drop]; omega), fun {ac w} hx hlo hhi => ?_⟩
  rw [hl]
  have g1 : h ≤ (c : Int) := by omega
  simp only [execOp, hx, Option.map_none]
  rcases hlo with hlo | ⟨rfl, rfl⟩ <;> rcases hhi with hhi | ⟨rfl, rfl⟩ <;>
    simp [Instr.sliceAt, Instr.slice, Instr.sliceBounds, Instr.sliceBound, Sem.run_bind, hu w, hs w, asIntOf, *] <;> (try omega)
/-- The beginning of a slice of one's own. -/
theorem e_cutO {t e e' : TypeId} {A : Option Addr} {c : Nat} {xs : List α} {X : Rsc} {hi : Option Operand} {h : Int} {kh : IntKind} (hu : UT P t (.slice e)) (hs : SZ P e E.sz)
    (hb : 0 ≤ h ∧ h ≤ (xs.length : Int)) (ho : Own E F wf e' A c xs X) :
    ∃ A', Own E F wf e' A' c (xs.take h.toNat) X ∧ ∀ {ac : Act} {w : World}, ac.eval x = .slice A xs.length c →
      ((hi.map ac.eval = some (.int kh h)) ∨ (hi = none ∧ h = (xs.length : Int))) →
      (execOp ac.eval ⟨dst, .slice t x none hi none, ty, pos, af, gd⟩).run P w = .ok (.value (.slice A' (xs.take h.toNat).length c)) w := by
  obtain ⟨b0, b2⟩ := hb
  have hc := ho.le
  have hl : (xs.take h.toNat).length = h.toNat := by rw [List.length_take]; omega
  have g1 : h ≤ (c : Int) := by omega
  refine ⟨A, ?_, fun {ac w} hx hhi => ?_⟩
  · rcases ho with ⟨rfl, rfl, rfl, rfl⟩ | ⟨g, cur, cs, rfl, rfl, h1, h2, hb, h3, h4, h5⟩
    · exact .inl ⟨rfl, rfl, by simp, rfl⟩
    · refine .inr ⟨g, cur, _, rfl, rfl, by omega, h2, by omega, h3, rfl, ?_⟩
      rw [hl]
      have : cur.toList.take (h.toNat * E.sz) = cs.take (h.toNat * E.sz) := by
        rw [← h4, List.take_take, Nat.min_eq_left (Nat.mul_le_mul_right _ (by omega))]
      rw [this]; exact h5.take _
  · rw [hl]
    have hz : (if c = (0 : Int).toNat then A else A.map (·.add ((0 : Int).toNat * E.sz))) = A := by
      by_cases hcz : c = 0
      · simp [hcz]
      · cases A <;> simp [hcz, Addr.add]
    simp only [execOp, hx, Option.map_none]
    rcases hhi with hhi | ⟨rfl, rfl⟩ <;>
      simp [Instr.sliceAt, Instr.slice, Instr.sliceBounds, Instr.sliceBound, Sem.run_bind, hu w, hs w, asIntOf, Addr.add, *] <;> (try omega)
end
end Go.Proofs.Ytcnchjlomcafeaa.B
