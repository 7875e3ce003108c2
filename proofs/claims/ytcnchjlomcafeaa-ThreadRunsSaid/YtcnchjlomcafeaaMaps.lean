/- Maps from numbers: what is in them, as a list of pairs. -/
import Derived.Test.YtcnchjlomcafeaaDraw
import Derived.MapKept
set_option linter.unusedVariables false
set_option linter.unusedSimpArgs false
set_option linter.unusedSectionVars false
namespace Go.Proofs.Ytcnchjlomcafeaa.B
open Go Go.RowKit Go.MapKept

def aidx {β : Type} : List (Int × β) → Int → Option (Nat × β)
  | [], _ => none
  | p :: r, k => if k = p.1 then some (0, p.2) else (aidx r k).map fun q => (q.1 + 1, q.2)
def aget {β : Type} (m : List (Int × β)) (k : Int) : Option β := (aidx m k).map (·.2)
def aset {β : Type} (m : List (Int × β)) (k : Int) (v : β) : List (Int × β) := match aidx m k with
  | some (i, _) => m.set i (k, v)
  | none => m ++ [(k, v)]
/-- The entries are those of the list. -/
def Ent {β : Type} (kk : IntKind) (ev : β → Value) (es : List MapEntry) (m : List (Int × β)) : Prop :=
  es.map (fun e => (e.key, e.val)) = m.map fun p => (Value.int kk p.1, ev p.2)
section
variable {β : Type} {kk : IntKind} {ev : β → Value}
theorem find_ent {es : List MapEntry} {m : List (Int × β)} {k' : IntKind} (h : Ent kk ev es m) (key : Int) : ∀ i, Instr.findNow (.int k') (.int kk key) es i = some ((aidx m key).map fun q => (i + q.1, ev q.2)) := by
  induction es generalizing m with
  | nil =>
    intro i
    cases m with
    | nil => rfl
    | cons p r => simp [Ent] at h
  | cons e es ih =>
    intro i
    cases m with
    | nil => simp [Ent] at h
    | cons p r =>
      simp only [Ent, List.map_cons, List.cons.injEq, Prod.mk.injEq] at h
      obtain ⟨⟨h1, h2⟩, h3⟩ := h
      have hs : Instr.sameNow (.int k') (.int kk key) e.key = some (key == p.1) := by rw [h1]; simp [Instr.sameNow]
      rw [Instr.findNow, hs]
      by_cases hk : key = p.1
      · subst hk
        simp [aidx, h2]
      · have : (key == p.1) = false := by simpa using hk
        rw [this]
        simp only []
        rw [ih h3 (i + 1)]
        simp only [aidx, if_neg hk, Option.map_map]
        congr 1
        cases aidx r key with
        | none => rfl
        | some q => simp; omega
theorem aidx_lt {m : List (Int × β)} {k : Int} {i : Nat} {b : β} (h : aidx m k = some (i, b)) : m[i]? = some (k, b) := by
  induction m generalizing i with
  | nil => simp [aidx] at h
  | cons p r ih =>
    simp only [aidx] at h
    split at h
    · rename_i hk
      simp at h
      obtain ⟨rfl, rfl⟩ := h
      simp [hk]
    · cases hr : aidx r k with
      | none => simp [hr] at h
      | some q =>
        simp [hr] at h
        obtain ⟨rfl, rfl⟩ := h
        simpa using ih hr
/-- A map that is only read. -/
def RdM (kk : IntKind) (ev : β → Value) (F : Nat → Prop) (w : World) (A : Option Nat) (m : List (Int × β)) : Prop :=
  (A = none ∧ m = []) ∨ ∃ r es c, A = some r ∧ F r ∧ w.heap[r]? = some (.map es c) ∧ Ent kk ev es.toList m
/-- A map of one's own. -/
def OwnM (kk : IntKind) (ev : β → Value) (A : Option Nat) (m : List (Int × β)) (X : Rsc) : Prop :=
  ∃ r es c, A = some r ∧ X = [(r, .map es c)] ∧ Ent kk ev es.toList m
variable {P : Program} {M I F : Nat → Prop} {w0 wr w w' : World} {R : List Rsc} {A : Option Nat} {m : List (Int × β)} {X : Rsc}
theorem RdM.up {G : Nat → Prop} (h : RdM kk ev F w A m) (u : Up F w G w') : RdM kk ev G w' A m := by
  rcases h with h | ⟨r, es, c, h1, h2, h3, h4⟩
  · exact .inl h
  · exact .inr ⟨r, es, c, h1, (u _ h2).1, (u _ h2).2.trans h3, h4⟩
theorem RdM.now (r : RdM kk ev I wr A m) (h : Hp M I w0 wr w R) : RdM kk ev I w A m := r.up h.up
theorem RdM.pass {Rest : List Rsc} (r : RdM kk ev I wr A m) (h : Hp M I w0 wr w R) : RdM kk ev (Cov I Rest) w A m := r.up fun k hk => ⟨.inl hk, h.imm k hk⟩
theorem OwnM.pass {i : Nat} {Rest : List Rsc} (o : OwnM kk ev A m X) (h : Hp M I w0 wr w R) (hs : ∀ p ∈ Rest.flatten, p ∈ R.flatten) (hi : Rest[i]? = some X) : RdM kk ev (Cov I Rest) w A m := by
  obtain ⟨r, es, c, h1, h2, h3⟩ := o
  subst h2
  have hm : (r, Obj.map es c) ∈ Rest.flatten := List.mem_flatten.2 ⟨_, List.mem_of_getElem? hi, List.mem_singleton.2 rfl⟩
  exact .inr ⟨r, es, c, h1, .inr ⟨_, hm, rfl⟩, h.own _ (hs _ hm), h3⟩
theorem OwnM.rd {i : Nat} (o : OwnM kk ev A m X) (h : Hp M I w0 wr w R) (hi : R[i]? = some X) : RdM kk ev (Cov I R) w A m := o.pass h (fun _ h => h) hi
theorem OwnM.froze (o : OwnM kk ev A m X) (h : Hp M I w0 wr w (X :: R)) : RdM kk ev (fun k => I k ∨ On [X] k) w A m := by
  obtain ⟨r, es, c, h1, h2, h3⟩ := o
  subst h2
  exact .inr ⟨r, es, c, h1, .inr ⟨(r, Obj.map es c), by simp, rfl⟩, h.own (r, Obj.map es c) (by simp), h3⟩
variable {a : Act} {dst : Option Nat} {ty : TypeId} {pos : String} {af : Array Edge} {gd : Option (Nat × Bool)} {x y : Operand} {t kt et : TypeId} {k' : IntKind} {key : Int} {z : Value}
theorem run_lookup (hu : UT P t (.map kt et)) (hk : P.underlying kt = some (.int k')) (hz : ZR P et z) (hr : RdM kk ev F w A m) (ok : Bool) :
    (Instr.lookup t (.map A) (.int kk key) ok).run P w = .ok (if ok then .tuple #[(aget m key).elim z ev, .bool (aget m key).isSome] else (aget m key).elim z ev) w := by
  have hck : ∀ e, (Instr.checkKey e 10000 kt (.int kk key)).run P w = .ok () w := by
    intro e
    unfold Instr.checkKey
    rw [Sem.run_bind, run_underlying hk, Result.andThen_ok]
    rfl
  rcases hr with ⟨rfl, rfl⟩ | ⟨r, es, c, rfl, _, hh, he⟩
  · unfold Instr.lookup
    simp only [Sem.run_bind, hu w, Result.andThen_ok, Sem.run_pure, hck]
    rw [run_findKey hk (show Instr.findNow (.int k') (.int kk key) (#[] : Array MapEntry).toList 0 = some none from rfl)]
    simp only [Result.andThen_ok, Sem.run_bind, hz w, Sem.run_pure]
    cases ok <;> simp [aget, aidx]
  · unfold Instr.lookup
    have hg : (getObj r).run P w = .ok (.map es c) w := by simp [getObj, Sem.run, hh]
    simp only [Sem.run_bind, hu w, Result.andThen_ok, Sem.run_pure, hck, hg]
    rw [run_findKey hk (find_ent he key 0)]
    cases hi : aidx m key with
    | none => simp only [Option.map_none, Result.andThen_ok, Sem.run_bind, hz w, Sem.run_pure]; cases ok <;> simp [aget, hi]
    | some q => simp only [Option.map_some, Result.andThen_ok, Sem.run_bind, Sem.run_pure]; cases ok <;> simp [aget, hi]
theorem e_lookup {v : Value} (hx : a.eval x = .map A) (hy : a.eval y = .int kk key) (hu : UT P t (.map kt et)) (hk : P.underlying kt = some (.int k')) (hz : ZR P et z) (hr : RdM kk ev F w A m)
    (hv : (aget m key).elim z ev = v) :
    (execOp a.eval ⟨dst, .lookup t x y false, ty, pos, af, gd⟩).run P w = .ok (.value v) w := by
  subst hv
  simp only [execOp, hx, hy, Sem.run_bind, run_lookup hu hk hz hr, Result.andThen_ok]
  rfl
theorem e_lookupOk {v : Value} (hx : a.eval x = .map A) (hy : a.eval y = .int kk key) (hu : UT P t (.map kt et)) (hk : P.underlying kt = some (.int k')) (hz : ZR P et z) (hr : RdM kk ev F w A m)
    (hv : (aget m key).elim z ev = v) :
    (execOp a.eval ⟨dst, .lookup t x y true, ty, pos, af, gd⟩).run P w = .ok (.value (.tuple #[v, .bool (aget m key).isSome])) w := by
  subst hv
  simp only [execOp, hx, hy, Sem.run_bind, run_lookup hu hk hz hr, Result.andThen_ok]
  rfl
variable {ops : Array Oper} {Q : Exit → Act → World → Prop} {n d : Nat} {L : Env} {σ : Nat → Value} {ds : List Deferred} {rest : List Oper}
theorem s_makeMap (kk : IntKind) (ev : β → Value) (h : Hp M I w0 wr w R) (hn : Nat.blt d n = true)
    (k : ∀ r w' X, Hp M I w0 wr w' (R ++ [X]) → OwnM kk ev (some r) [] X → wpList P ops Q rest (st n ((d, .map (some r)) :: L) σ ds) w') :
    wpList P ops Q (⟨some d, .makeMap t none, ty, pos, af, none⟩ :: rest) (st n L σ ds) w := by
  refine sv (v := .map (some w.heap.size)) (w' := { w with heap := w.heap.push (.map #[] 0) }) rfl rfl hn ?_ (k _ _ _ (h.alloc _) ⟨w.heap.size, #[], 0, rfl, rfl, rfl⟩)
  simp [execOp, Instr.makeMap, Sem.run_bind, newObj, Sem.run]
theorem s_mapUpdate {i : Nat} {b : β} (h : Hp M I w0 wr w R) (o : OwnM kk ev A m X) (hi : R[i]? = some X) {vx : Operand} (hx : (st n L σ ds).eval x = .map A) (hy : (st n L σ ds).eval y = .int kk key) (hv : (st n L σ ds).eval vx = ev b)
    (hu : UT P t (.map kt et)) (hk : P.underlying kt = some (.int k'))
    (k : ∀ w' X', Hp M I w0 wr w' (R.set i X') → OwnM kk ev A (aset m key b) X' → wpList P ops Q rest (st n L σ ds) w') :
    wpList P ops Q (⟨none, .mapUpdate t x y vx, ty, pos, af, none⟩ :: rest) (st n L σ ds) w := by
  obtain ⟨r, es, c, rfl, rfl, he⟩ := o
  have hh : w.heap[r]? = some (.map es c) := h.get (j := 0) hi rfl
  have hg : (getObj r).run P w = .ok (.map es c) w := by simp [getObj, Sem.run, hh]
  have hck : (Instr.checkKey false 10000 kt (.int kk key)).run P w = .ok () w := by
    unfold Instr.checkKey
    rw [Sem.run_bind, run_underlying hk, Result.andThen_ok]
    rfl
  have hs : ∀ o', (setObj r o').run P w = .ok () { w with heap := w.heap.setIfInBounds r o' } := by
    intro o'; simp [setObj, Sem.run, hh]
  have fin : ∀ es' c', Ent kk ev es'.toList (aset m key b) → (execOp (st n L σ ds).eval ⟨none, .mapUpdate t x y vx, ty, pos, af, none⟩).run P w = .ok .skip { w with heap := w.heap.setIfInBounds r (.map es' c') } →
      wpList P ops Q (⟨none, .mapUpdate t x y vx, ty, pos, af, none⟩ :: rest) (st n L σ ds) w := by
    intro es' c' he' hrun
    refine su rfl rfl hrun (k _ [(r, .map es' c')] ?_ ⟨r, es', c', rfl, rfl, he'⟩)
    have := h.upd (w' := { w with heap := w.heap.setIfInBounds r (.map es' c') }) (o' := .map es' c') hi (j := 0) (b := r) rfl rfl rfl rfl (by simp) (heap_set hh).2 (heap_set hh).1
    simpa using this
  cases hq : aidx m key with
  | none =>
    refine fin (es.push { key := .int kk key, val := ev b, born := c }) (c + 1) ?_ ?_
    · simp only [Ent, aset, hq] at he ⊢
      simp [he]
    · have hf := run_findKey (P := P) (w := w) hk (find_ent (k' := k') he key 0)
      rw [hq] at hf
      simp only [execOp, Instr.mapUpdate, hx, hy, hv, Sem.run_bind, hu w, Result.andThen_ok, hg, hck, hf, Option.map_none, hs]
      rfl
  | some q =>
    obtain ⟨j, b0⟩ := q
    have hj := aidx_lt hq
    have hjs : j < es.size := by
      have h1 : j < m.length := (List.getElem?_eq_some_iff.1 hj).1
      have h2 := congrArg List.length he
      simp at h2; omega
    have hkey : es[j].key = .int kk key := by
      have h1 := congrArg (fun l => l[j]?) he
      simp only [List.getElem?_map, hj, Option.map_some] at h1
      simp [hjs] at h1
      exact h1.1
    refine fin (es.modify j fun e => { e with key := .int kk key, val := ev b }) c ?_ ?_
    · simp only [Ent, aset, hq] at he ⊢
      apply List.ext_getElem?
      intro i'
      have h1 := congrArg (fun l => l[i']?) he
      simp only [List.getElem?_map] at h1 ⊢
      by_cases hij : j = i'
      · subst hij
        simp [Array.getElem?_modify, hj, hjs, (List.getElem?_eq_some_iff.1 hj).1]
      · simpa [Array.getElem?_modify, hij, List.getElem?_set_ne hij] using h1
    · have hf := run_findKey (P := P) (w := w) hk (find_ent (k' := k') he key 0)
      rw [hq] at hf
      have hst : (Instr.keyThatStays (((es[0 + j]?).map (·.key)).getD (.int kk key)) (.int kk key)).run P w = .ok (.int kk key) w := by
        have : ((es[0 + j]?).map (·.key)).getD (.int kk key) = .int kk key := by simp [hjs, hkey]
        rw [this]
        unfold Instr.keyThatStays
        rw [if_pos (by simp [Instr.sameBits])]
        rfl
      simp only [execOp, Instr.mapUpdate, hx, hy, hv, Sem.run_bind, hu w, Result.andThen_ok, hg, hck, hf, Option.map_some, hst, hs]
      simp
end
def mI (k : IntKind) (x : Int) : Value := .int k x
theorem mval (k : IntKind) (o : Option Int) : o.elim (.int k 0) (mI k) = .int k (o.getD 0) := by cases o <;> rfl
theorem ltN {i : Int} {n : Nat} (h0 : 0 ≤ i) (h1 : i < n) : i.toNat < n := by omega
theorem seen1 {P : Program} {ops : Array Oper} {Q : Exit → Act → World → Prop} {l : List Oper} {n d : Nat} {v : Value} {L : Env} {σ : Nat → Value} {ds : List Deferred} {w : World} (h : ov L σ d = v)
    (k : wpList P ops Q l (st n ((d, v) :: L) σ ds) w) : wpList P ops Q l (st n L σ ds) w := by
  have : ov ((d, v) :: L) σ = ov L σ := by
    funext t
    simp only [ov]
    cases hb : Nat.beq d t
    · rfl
    · rw [← Nat.eq_of_beq_eq_true hb]; exact h.symm
  simpa only [st, this] using k
theorem sl_eq {A : Option Addr} {c m m' : Nat} {u : Value} (h : m = m') (hu : u = .slice A m c) : u = .slice A m' c := by rw [hu, h]
end Go.Proofs.Ytcnchjlomcafeaa.B
