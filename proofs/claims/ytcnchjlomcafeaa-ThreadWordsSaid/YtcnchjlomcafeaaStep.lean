/- Operations on memory, and calls. -/
import Derived.Test.YtcnchjlomcafeaaMem
set_option linter.unusedVariables false
set_option linter.unusedSimpArgs false
set_option linter.unusedSectionVars false
namespace Go.Proofs.Ytcnchjlomcafeaa.B
open Go Go.RowKit

abbrev UT (P : Program) (t : TypeId) (d : TypeDesc) : Prop := ∀ w, (underlying t).run P w = .ok d w
abbrev SZ (P : Program) (t : TypeId) (n : Nat) : Prop := ∀ w, (sizeOf t).run P w = .ok n w
abbrev ZR (P : Program) (t : TypeId) (v : Value) : Prop := ∀ w, (zeroValue t).run P w = .ok v w
abbrev AG (P : Program) (t : TypeId) (b : Bool) : Prop := ∀ w, (isAgg t).run P w = .ok b w

/-- Operands, one by one. -/
inductive Evs (f : Operand → Value) : List Operand → List Value → Prop
  | nil : Evs f [] []
  | cons {x : Operand} {v : Value} {xs : List Operand} {vs : List Value} (h : f x = v) (k : Evs f xs vs) : Evs f (x :: xs) (v :: vs)
theorem Evs.map {f : Operand → Value} {xs : List Operand} {vs : List Value} (h : Evs f xs vs) : xs.map f = vs := by
  induction h with
  | nil => rfl
  | cons h k ih => simp [h, ih]
inductive EvP (f : Operand → Value) : List (Nat × Operand) → List (Nat × Value) → Prop
  | nil : EvP f [] []
  | cons {i : Nat} {x : Operand} {v : Value} {xs : List (Nat × Operand)} {vs : List (Nat × Value)} (h : f x = v) (k : EvP f xs vs) : EvP f ((i, x) :: xs) ((i, v) :: vs)
theorem EvP.map {f : Operand → Value} {xs : List (Nat × Operand)} {vs : List (Nat × Value)} (h : EvP f xs vs) : xs.map (fun p => (p.1, f p.2)) = vs := by
  induction h with
  | nil => rfl
  | cons h k ih => simp [h, ih]

section
variable {P : Program} {ops : Array Oper} {Q : Exit → Act → World → Prop} {n : Nat} {L : Env} {σ : Nat → Value} {ds : List Deferred} {w : World} {rest : List Oper}
variable {d : Nat} {ty : TypeId} {pos : String} {af : Array Edge} {v v1 v2 v3 : Value} {x y z : Operand}
variable {M I : Nat → Prop} {w0 wr : World} {R : List Rsc}

theorem s_alloc {t : TypeId} {zv : Value} {l : List Value} (h : Hp M I w0 wr w R) (hz : ZR P t zv) (hl : zv.cells = l.toArray) (hn : Nat.blt d n = true)
    (k : ∀ b w', Hp M I w0 wr w' (R ++ [[(b, .cells l.toArray t (0, 0))]]) → wpList P ops Q rest (st n ((d, .pointer (some ⟨b, 0, none⟩)) :: L) σ ds) w') :
    wpList P ops Q (⟨some d, .alloc t, ty, pos, af, none⟩ :: rest) (st n L σ ds) w := by
  refine sv (v := .pointer (some ⟨w.heap.size, 0, none⟩)) (w' := { w with heap := w.heap.push (.cells l.toArray t (0, 0)) }) rfl rfl hn ?_ (k _ _ (h.alloc _))
  simp [execOp, Instr.alloc, Sem.run_bind, hz w, newVar, newRow, newObj, Sem.run, hl]
theorem s_box {t : TypeId} {l : List Value} (h : Hp M I w0 wr w R) (hx : (st n L σ ds).eval x = v) (hl : v.cells = l.toArray) (hn : Nat.blt d n = true)
    (k : ∀ b w', Hp M I w0 wr w' (R ++ [[(b, .cells l.toArray t (0, 0))]]) → wpList P ops Q rest (st n ((d, .pointer (some ⟨b, 0, none⟩)) :: L) σ ds) w') :
    wpList P ops Q (⟨some d, .box t x, ty, pos, af, none⟩ :: rest) (st n L σ ds) w := by
  refine sv (v := .pointer (some ⟨w.heap.size, 0, none⟩)) (w' := { w with heap := w.heap.push (.cells l.toArray t (0, 0)) }) rfl rfl hn ?_ (k _ _ (h.alloc _))
  simp only [execOp, hx]
  simp [Instr.box, Sem.run_bind, newVar, newRow, newObj, Sem.run, hl]
theorem r_load1 {t : TypeId} {a : Addr} (hA : AG P t false) (hc : w.cell? a = some v) : (loadVar t a).run P w = .ok v w := by
  simp [loadVar, Sem.run_bind, hA w, hc]
theorem r_loadA {t : TypeId} {a : Addr} {vs : List Value} {sz : Nat} (hA : AG P t true) (hs : SZ P t sz) (hl : vs.length = sz) (hc : CellsAt w a vs) : (loadVar t a).run P w = .ok (.agg vs.toArray) w := by
  simp [loadVar, Sem.run_bind, hA w, hs w, run_loadCells hl hc]
/-- A store into an owned block. -/
theorem s_store {t e : TypeId} {b off i j sz : Nat} {r : Rsc} {l l' vs : List Value} (h : Hp M I w0 wr w R) (hx : (st n L σ ds).eval x = .pointer (some ⟨b, off, none⟩)) (hy : (st n L σ ds).eval y = v)
    (hv : v.cells = vs.toArray) (hs : SZ P t sz) (hl : vs.length = sz) (h1 : vs.all one = true)
    (hi : R[i]? = some r) (hj : r[j]? = some (b, .cells l.toArray e (0, 0))) (hle : Nat.ble (off + vs.length) l.length = true) (hl' : l.take off ++ vs ++ l.drop (off + vs.length) = l')
    (k : ∀ w', Hp M I w0 wr w' (R.set i (r.set j (b, .cells l'.toArray e (0, 0)))) → wpList P ops Q rest (st n L σ ds) w') :
    wpList P ops Q (⟨none, .store t x y, ty, pos, af, none⟩ :: rest) (st n L σ ds) w := by
  subst hl'
  obtain ⟨w', hr, a1, a2, a3, a4, a5, a6⟩ := run_storeCells (P := P) vs 0 off l w (h.get hi hj) (fun u hu => List.all_eq_true.1 h1 u hu) (by have := Nat.le_of_ble_eq_true hle; omega)
  rw [Nat.add_zero] at a6
  refine su rfl rfl ?_ (k w' (h.upd hi hj a1 a2 a3 a4 a5 a6))
  simp only [execOp, hx, hy]
  simp [Instr.storeAt, Instr.sureAddr, storeVar, Sem.run_bind, hs w, hv, hl, hr]
/-! ### calls -/
theorem wp_call {o : Oper} {f : FuncId} {args : List Value} {Φ : Value → World → Prop} {K : Act → World → Prop} {a : Act}
    (hx : (execOp a.eval o).run P w = .ok (.enter f args.toArray) w) (hc : Ret P f args w Φ) (k : ∀ v w', Φ v w' → K (a.put o.dst v) w') : o.wp P a w K Q := by
  unfold Oper.wp
  rw [hx, Oper.upon_enter]
  refine Calls.mono hc fun e w' he => ?_
  obtain ⟨v, rfl, hv⟩ := he
  exact k v w' hv
theorem x_call {f : FuncId} {xs : List Operand} {vs : List Value} {ats : Array TypeId} {dst : Option Tmp} {a : Act} (hx : Evs a.eval xs vs) (hcf : ∀ args w, (callFunc f args).run P w = .ok (.enter f args) w) :
    (execOp a.eval ⟨dst, .call { callee := .value (.func f), args := xs.toArray, argTypes := ats }, ty, pos, af, none⟩).run P w = .ok (.enter f vs.toArray) w := by
  simp only [execOp, resolve, List.map_toArray, hx.map]
  simp [Act.eval, Deferred.ofValue, Sem.run_bind, invoke, hcf]
theorem s_call {f : FuncId} {xs : List Operand} {vs : List Value} {ats : Array TypeId} {Φ : Value → World → Prop} (hx : Evs (st n L σ ds).eval xs vs) (hcf : ∀ args w, (callFunc f args).run P w = .ok (.enter f args) w)
    (hc : Ret P f vs w Φ) (hn : Nat.blt d n = true) (k : ∀ v w', Φ v w' → wpList P ops Q rest (st n ((d, v) :: L) σ ds) w') :
    wpList P ops Q (⟨some d, .call { callee := .value (.func f), args := xs.toArray, argTypes := ats }, ty, pos, af, none⟩ :: rest) (st n L σ ds) w :=
  wpList_plain rfl fun K hK => wp_call (x_call hx hcf) hc fun v w' hv => by rw [put_st hn]; exact hK _ _ (k v w' hv)
theorem r_lens {t : TypeId} {e : TypeId} {A : Option Addr} {m c : Nat} {cs : Array Bool} (hu : UT P t (.slice e)) :
    (builtin .len #[t] ty cs [Value.slice A m c].toArray).run P w = .ok (.value (.int .i64 m)) w := by
  simp [builtin, Builtin.len_, Sem.run_bind, hu w, goInt]
theorem r_lenstr {t : TypeId} {s : ByteArray} {cs : Array Bool} (hu : UT P t .string) :
    (builtin .len #[t] ty cs [Value.string s].toArray).run P w = .ok (.value (.int .i64 s.size)) w := by
  simp [builtin, Builtin.len_, Sem.run_bind, hu w, goInt]
end
end Go.Proofs.Ytcnchjlomcafeaa.B
