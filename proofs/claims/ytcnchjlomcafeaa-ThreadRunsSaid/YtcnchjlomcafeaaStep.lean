/- Operations on memory, and calls. -/
import Derived.Test.YtcnchjlomcafeaaMem
set_option linter.unusedVariables false
set_option linter.unusedSimpArgs false
set_option linter.unusedSectionVars false
namespace Go.Proofs.Ytcnchjlomcafeaa.B
open Go Go.RowKit

abbrev UT (P : Program) (t : TypeId) (d : TypeDesc) : Prop := ∀ w, (underlying t).run P w = .ok d w
abbrev SZ (P : Program) (t : TypeId) (n : Nat) : Prop := ∀ w, (sizeOf t).run P w = .ok n w
abbrev ZR (P : Program) (t : TypeId) (v : Value) : Prop := ∀ w, (zeroValue t).run P w = .ok v w
abbrev AG (P : Program) (t : TypeId) (b : Bool) : Prop := ∀ w, (isAgg t).run P w = .ok b w

/-- Operands, one by one. -/
inductive Evs (f : Operand → Value) : List Operand → List Value → Prop
  | nil : Evs f [] []
  | cons {x : Operand} {v : Value} {xs : List Operand} {vs : List Value} (h : f x = v) (k : Evs f xs vs) : Evs f (x :: xs) (v :: vs)
theorem Evs.map {f : Operand → Value} {xs : List Operand} {vs : List Value} (h : Evs f xs vs) : xs.map f = vs := by
  induction h with
  | nil => rfl
  | cons h k ih => simp [h, ih]
inductive EvP (f : Operand → Value) : List (Nat × Operand) → List (Nat × Value) → Prop
  | nil : EvP f [] []
  | cons {i : Nat} {x : Operand} {v : Value} {xs : List (Nat × Operand)} {vs : List (Nat × Value)} (h : f x = v) (k : EvP f xs vs) : EvP f ((i, x) :: xs) ((i, v) :: vs)
theorem EvP.map {f : Operand → Value} {xs : List (Nat × Operand)} {vs : List (Nat × Value)} (h : EvP f xs vs) : xs.map (fun p => (p.1, f p.2)) = vs := by
  induction h with
  | nil => rfl
  | cons h k ih => simp [h, ih]

section
variable {P : Program} {ops : Array Oper} {Q : Exit → Act → World → Prop} {n : Nat} {L : Env} {σ : Nat → Value} {ds : List Deferred} {w : World} {rest : List Oper}
variable {d : Nat} {ty : TypeId} {pos : String} {af : Array Edge} {v v1 v2 v3 : Value} {x y z : Operand}
variable {M I : Nat → Prop} {w0 wr : World} {R : List Rsc}

theorem s_alloc {t : TypeId} {zv : Value} {l : List Value} (h : Hp M I w0 wr w R) (hz : ZR P t zv) (hl : zv.cells = l.toArray) (hn : Nat.blt d n = true)
    (k : ∀ b w', Hp M I w0 wr w' (R ++ [[(b, .cells l.toArray t (0, 0))]]) → wpList P ops Q rest (st n ((d, .pointer (some ⟨b, 0, none⟩)) :: L) σ ds) w') :
    wpList P ops Q (⟨some d, .alloc t, ty, pos, af, none⟩ :: rest) (st n L σ ds) w := by
  refine sv (v := .pointer (some ⟨w.heap.size, 0, none⟩)) (w' := { w with heap := w.heap.push (.cells l.toArray t (0, 0)) }) rfl rfl hn ?_ (k _ _ (h.alloc _))
  simp [execOp, Instr.alloc, Sem.run_bind, hz w, newVar, newRow, newObj, Sem.run, hl]
theorem s_box {t : TypeId} {l : List Value} (h : Hp M I w0 wr w R) (hx : (st n L σ ds).eval x = v) (hl : v.cells = l.toArray) (hn : Nat.blt d n = true)
    (k : ∀ b w', Hp M I w0 wr w' (R ++ [[(b, .cells l.toArray t (0, 0))]]) → wpList P ops Q rest (st n ((d, .pointer (some ⟨b, 0, none⟩)) :: L) σ ds) w') :
    wpList P ops Q (⟨some d, .box t x, ty, pos, af, none⟩ :: rest) (st n L σ ds) w := by
  refine sv (v := .pointer (some ⟨w.heap.size, 0, none⟩)) (w' := { w with heap := w.heap.push (.cells l.toArray t (0, 0)) }) rfl rfl hn ?_ (k _ _ (h.alloc _))
  simp only [execOp, hx]
  simp [Instr.box, Sem.run_bind, newVar, newRow, newObj, Sem.run, hl]
theorem r_load1 {t : TypeId} {a : Addr} (hA : AG P t false) (hc : w.cell? a = some v) : (loadVar t a).run P w = .ok v w := by
  simp [loadVar, Sem.run_bind, hA w, hc]
theorem r_loadA {t : TypeId} {a : Addr} {vs : List Value} {sz : Nat} (hA : AG P t true) (hs : SZ P t sz) (hl : vs.length = sz) (hc : CellsAt w a vs) : (loadVar t a).run P w = .ok (.agg vs.toArray) w := by
  simp [loadVar, Sem.run_bind, hA w, hs w, run_loadCells hl hc]
theorem s_load1 {t : TypeId} {a : Addr} (hx : (st n L σ ds).eval x = .pointer (some a)) (hA : AG P t false) (hc : w.cell? a = some v) (hn : Nat.blt d n = true)
    (k : wpList P ops Q rest (st n ((d, v) :: L) σ ds) w) :
    wpList P ops Q (⟨some d, .load t x, ty, pos, af, none⟩ :: rest) (st n L σ ds) w := by
  refine sv rfl rfl hn ?_ k
  simp only [execOp, hx]
  simp [Instr.loadAt, Instr.sureAddr, Sem.run_bind, r_load1 hA hc]
theorem s_loadA {t : TypeId} {a : Addr} {vs : List Value} {sz : Nat} (hx : (st n L σ ds).eval x = .pointer (some a)) (hA : AG P t true) (hs : SZ P t sz) (hl : vs.length = sz) (hc : CellsAt w a vs) (hn : Nat.blt d n = true)
    (k : wpList P ops Q rest (st n ((d, .agg vs.toArray) :: L) σ ds) w) :
    wpList P ops Q (⟨some d, .load t x, ty, pos, af, none⟩ :: rest) (st n L σ ds) w := by
  refine sv rfl rfl hn ?_ k
  simp only [execOp, hx]
  simp [Instr.loadAt, Instr.sureAddr, Sem.run_bind, r_loadA hA hs hl hc]
/-- A store into an owned block. -/
theorem s_store {t e : TypeId} {b off i j sz : Nat} {r : Rsc} {l l' vs : List Value} (h : Hp M I w0 wr w R) (hx : (st n L σ ds).eval x = .pointer (some ⟨b, off, none⟩)) (hy : (st n L σ ds).eval y = v)
    (hv : v.cells = vs.toArray) (hs : SZ P t sz) (hl : vs.length = sz) (h1 : vs.all one = true)
    (hi : R[i]? = some r) (hj : r[j]? = some (b, .cells l.toArray e (0, 0))) (hle : Nat.ble (off + vs.length) l.length = true) (hl' : l.take off ++ vs ++ l.drop (off + vs.length) = l')
    (k : ∀ w', Hp M I w0 wr w' (R.set i (r.set j (b, .cells l'.toArray e (0, 0)))) → wpList P ops Q rest (st n L σ ds) w') :
    wpList P ops Q (⟨none, .store t x y, ty, pos, af, none⟩ :: rest) (st n L σ ds) w := by
  subst hl'
  obtain ⟨w', hr, a1, a2, a3, a4, a5, a6⟩ := run_storeCells (P := P) vs 0 off l w (h.get hi hj) (fun u hu => List.all_eq_true.1 h1 u hu) (by have := Nat.le_of_ble_eq_true hle; omega)
  rw [Nat.add_zero] at a6
  refine su rfl rfl ?_ (k w' (h.upd hi hj a1 a2 a3 a4 a5 a6))
  simp only [execOp, hx, hy]
  simp [Instr.storeAt, Instr.sureAddr, storeVar, Sem.run_bind, hs w, hv, hl, hr]
theorem s_fieldAddr {s : TypeId} {a a' : Addr} {f sz : Nat} {fs : Array Field} {fd : Field} (hx : (st n L σ ds).eval x = .pointer (some a)) (hu : UT P s (.struct fs)) (hf : fs[f]? = some fd) (hs : SZ P fd.type sz) (hsz : Nat.beq sz 0 = false)
    (ha : a.add fd.offset = a') (hn : Nat.blt d n = true)
    (k : wpList P ops Q rest (st n ((d, .pointer (some a')) :: L) σ ds) w) :
    wpList P ops Q (⟨some d, .fieldAddr s x f, ty, pos, af, none⟩ :: rest) (st n L σ ds) w := by
  refine sv rfl rfl hn ?_ k
  subst ha
  have hz : ¬ sz = 0 := fun e => by rw [e] at hsz; cases hsz
  simp only [execOp, hx]
  simp [Instr.fieldAt, Instr.sureAddr, fieldPlace, Sem.run_bind, hu w, hf, hs w, hz]
theorem s_field1 {s : TypeId} {f : Nat} {fs : Array Field} {fd : Field} {cs : List Value} (hx : (st n L σ ds).eval x = .agg cs.toArray) (hu : UT P s (.struct fs)) (hf : fs[f]? = some fd) (hA : AG P fd.type false) (hv : cs[fd.offset]? = some v) (hn : Nat.blt d n = true)
    (k : wpList P ops Q rest (st n ((d, v) :: L) σ ds) w) :
    wpList P ops Q (⟨some d, .field s x f, ty, pos, af, none⟩ :: rest) (st n L σ ds) w := by
  refine sv rfl rfl hn ?_ k
  simp only [execOp, hx]
  simp [Instr.field, asAgg, part, Sem.run_bind, hu w, hf, hA w, hv]
theorem s_fieldA {s : TypeId} {f sz : Nat} {fs : Array Field} {fd : Field} {cs vs : List Value} (hx : (st n L σ ds).eval x = .agg cs.toArray) (hu : UT P s (.struct fs)) (hf : fs[f]? = some fd) (hA : AG P fd.type true) (hs : SZ P fd.type sz) (hv : (cs.drop fd.offset).take sz = vs) (hn : Nat.blt d n = true)
    (k : wpList P ops Q rest (st n ((d, .agg vs.toArray) :: L) σ ds) w) :
    wpList P ops Q (⟨some d, .field s x f, ty, pos, af, none⟩ :: rest) (st n L σ ds) w := by
  refine sv rfl rfl hn ?_ k
  subst hv
  simp only [execOp, hx]
  simp [Instr.field, asAgg, part, Sem.run_bind, hu w, hf, hA w, hs w, List.take_drop]
theorem s_extract {i : Nat} {vs : List Value} (hx : (st n L σ ds).eval x = .tuple vs.toArray) (hv : vs[i]? = some v) (hn : Nat.blt d n = true)
    (k : wpList P ops Q rest (st n ((d, v) :: L) σ ds) w) :
    wpList P ops Q (⟨some d, .extract x i, ty, pos, af, none⟩ :: rest) (st n L σ ds) w := by
  refine sv rfl rfl hn ?_ k
  simp only [execOp, hx]
  simp [Instr.extract, Sem.run_bind, hv]
/-- What a struct or an array is built of. -/
def Blds (P : Program) (t : TypeId) : Prop := ∃ zv places, ZR P t zv ∧ ∀ ps cells w, Instr.fill places zv.cells ps = some cells → (Instr.build t ps.toArray).run P w = .ok (.agg cells) w
theorem s_build {t : TypeId} {ps : List (Nat × Operand)} {vs : List (Nat × Value)} {cs : List Value} (hx : EvP (st n L σ ds).eval ps vs) (hb : ∀ w, (Instr.build t vs.toArray).run P w = .ok (.agg cs.toArray) w) (hn : Nat.blt d n = true)
    (k : wpList P ops Q rest (st n ((d, .agg cs.toArray) :: L) σ ds) w) :
    wpList P ops Q (⟨some d, .build t ps.toArray, ty, pos, af, none⟩ :: rest) (st n L σ ds) w := by
  refine sv rfl rfl hn ?_ k
  simp only [execOp, List.map_toArray, hx.map]
  simp [Sem.run_bind, hb w]
/-- An array's value, indexed. -/
theorem s_index {t e : TypeId} {m : Nat} {cs : List Value} {i : Int} {k' : IntKind} (hx : (st n L σ ds).eval x = .agg cs.toArray) (hy : (st n L σ ds).eval y = .int k' i) (hu : UT P t (.array m e)) (hA : AG P e false) (hs : SZ P e 1)
    (h0 : 0 ≤ i) (h1 : i < m) (hv : cs[i.toNat]? = some v) (hn : Nat.blt d n = true)
    (k : wpList P ops Q rest (st n ((d, v) :: L) σ ds) w) :
    wpList P ops Q (⟨some d, .index t x y, ty, pos, af, none⟩ :: rest) (st n L σ ds) w := by
  refine sv rfl rfl hn ?_ k
  simp only [execOp, hx, hy]
  simp [Instr.index, asIntOf, part, Sem.run_bind, hu w, hA w, hs w, h0, h1, hv]
theorem s_indexs {t : TypeId} {s : ByteArray} {i : Int} {k' : IntKind} {c : Int} (hx : (st n L σ ds).eval x = .string s) (hy : (st n L σ ds).eval y = .int k' i) (hu : UT P t .string)
    (h0 : 0 ≤ i) (h1 : i < s.size) (hv : ((s[i.toNat]'(by omega)).toNat : Int) = c) (hn : Nat.blt d n = true)
    (k : wpList P ops Q rest (st n ((d, .int .u8 c) :: L) σ ds) w) :
    wpList P ops Q (⟨some d, .index t x y, ty, pos, af, none⟩ :: rest) (st n L σ ds) w := by
  refine sv rfl rfl hn ?_ k
  subst hv
  have h2 : i.toNat < s.size := by omega
  simp only [execOp, hx, hy]
  simp [Instr.index, asIntOf, Sem.run_bind, hu w, h0, h2]
theorem s_makeFunc {fn : Fn} {fi ca : List Operand} {v1 v2 : List Value} (h1 : Evs (st n L σ ds).eval fi v1) (h2 : Evs (st n L σ ds).eval ca v2) (hn : Nat.blt d n = true)
    (k : wpList P ops Q rest (st n ((d, .func fn v1.toArray v2.toArray) :: L) σ ds) w) :
    wpList P ops Q (⟨some d, .makeFunc fn fi.toArray ca.toArray, ty, pos, af, none⟩ :: rest) (st n L σ ds) w := by
  refine sv rfl rfl hn ?_ k
  simp only [execOp, List.map_toArray, h1.map, h2.map]
  simp [Instr.makeFunc, Sem.run_bind]
theorem s_nilCheckP {a : Addr} (hx : (st n L σ ds).eval x = .pointer (some a)) (hn : Nat.blt d n = true)
    (k : wpList P ops Q rest (st n ((d, .pointer (some a)) :: L) σ ds) w) :
    wpList P ops Q (⟨some d, .nilCheck x, ty, pos, af, none⟩ :: rest) (st n L σ ds) w := by
  refine sv rfl rfl hn ?_ k
  simp only [execOp, hx]
  rfl

/-! ### calls -/
theorem wp_call {o : Oper} {f : FuncId} {args : List Value} {Φ : Value → World → Prop} {K : Act → World → Prop} {a : Act}
    (hx : (execOp a.eval o).run P w = .ok (.enter f args.toArray) w) (hc : Ret P f args w Φ) (k : ∀ v w', Φ v w' → K (a.put o.dst v) w') : o.wp P a w K Q := by
  unfold Oper.wp
  rw [hx, Oper.upon_enter]
  refine Calls.mono hc fun e w' he => ?_
  obtain ⟨v, rfl, hv⟩ := he
  exact k v w' hv
theorem wp_callP {o : Oper} {f : FuncId} {args : List Value} {Φ : Value → World → Prop} {Ψ : List PanicEntry → World → Prop} {K : Act → World → Prop} {a : Act}
    (hx : (execOp a.eval o).run P w = .ok (.enter f args.toArray) w) (hc : RetP P f args w Φ Ψ) (k : ∀ v w', Φ v w' → K (a.put o.dst v) w') (kp : ∀ c w', Ψ c w' → Q (.panic c) a w') : o.wp P a w K Q := by
  unfold Oper.wp
  rw [hx, Oper.upon_enter]
  refine Calls.mono hc fun e w' he => ?_
  rcases he with ⟨v, rfl, hv⟩ | ⟨c, rfl, hv⟩
  · exact k v w' hv
  · exact kp c w' hv
theorem x_call {f : FuncId} {xs : List Operand} {vs : List Value} {ats : Array TypeId} {dst : Option Tmp} {a : Act} (hx : Evs a.eval xs vs) (hcf : ∀ args w, (callFunc f args).run P w = .ok (.enter f args) w) :
    (execOp a.eval ⟨dst, .call { callee := .value (.func f), args := xs.toArray, argTypes := ats }, ty, pos, af, none⟩).run P w = .ok (.enter f vs.toArray) w := by
  simp only [execOp, resolve, List.map_toArray, hx.map]
  simp [Act.eval, Deferred.ofValue, Sem.run_bind, invoke, hcf]
theorem x_callc {f : FuncId} {c : Operand} {ca : List Value} {xs : List Operand} {vs : List Value} {ats : Array TypeId} {dst : Option Tmp} {a : Act} (hc : a.eval c = .func (.func f) #[] ca.toArray) (hx : Evs a.eval xs vs) (hcf : ∀ args w, (callFunc f args).run P w = .ok (.enter f args) w) :
    (execOp a.eval ⟨dst, .call { callee := .value c, args := xs.toArray, argTypes := ats }, ty, pos, af, none⟩).run P w = .ok (.enter f (vs ++ ca).toArray) w := by
  simp only [execOp, resolve, List.map_toArray, hx.map, hc]
  simp [Deferred.ofValue, Sem.run_bind, invoke, hcf]
theorem s_call {f : FuncId} {xs : List Operand} {vs : List Value} {ats : Array TypeId} {Φ : Value → World → Prop} (hx : Evs (st n L σ ds).eval xs vs) (hcf : ∀ args w, (callFunc f args).run P w = .ok (.enter f args) w)
    (hc : Ret P f vs w Φ) (hn : Nat.blt d n = true) (k : ∀ v w', Φ v w' → wpList P ops Q rest (st n ((d, v) :: L) σ ds) w') :
    wpList P ops Q (⟨some d, .call { callee := .value (.func f), args := xs.toArray, argTypes := ats }, ty, pos, af, none⟩ :: rest) (st n L σ ds) w :=
  wpList_plain rfl fun K hK => wp_call (x_call hx hcf) hc fun v w' hv => by rw [put_st hn]; exact hK _ _ (k v w' hv)
theorem s_call0 {f : FuncId} {xs : List Operand} {vs : List Value} {ats : Array TypeId} {Φ : Value → World → Prop} (hx : Evs (st n L σ ds).eval xs vs) (hcf : ∀ args w, (callFunc f args).run P w = .ok (.enter f args) w)
    (hc : Ret P f vs w Φ) (k : ∀ v w', Φ v w' → wpList P ops Q rest (st n L σ ds) w') :
    wpList P ops Q (⟨none, .call { callee := .value (.func f), args := xs.toArray, argTypes := ats }, ty, pos, af, none⟩ :: rest) (st n L σ ds) w :=
  wpList_plain rfl fun K hK => wp_call (x_call hx hcf) hc fun v w' hv => hK _ _ (k v w' hv)
theorem s_callP {f : FuncId} {xs : List Operand} {vs : List Value} {ats : Array TypeId} {Φ : Value → World → Prop} {Ψ : List PanicEntry → World → Prop} (hx : Evs (st n L σ ds).eval xs vs) (hcf : ∀ args w, (callFunc f args).run P w = .ok (.enter f args) w)
    (hc : RetP P f vs w Φ Ψ) (hn : Nat.blt d n = true) (kp : ∀ c w', Ψ c w' → Q (.panic c) (st n L σ ds) w') (k : ∀ v w', Φ v w' → wpList P ops Q rest (st n ((d, v) :: L) σ ds) w') :
    wpList P ops Q (⟨some d, .call { callee := .value (.func f), args := xs.toArray, argTypes := ats }, ty, pos, af, none⟩ :: rest) (st n L σ ds) w :=
  wpList_plain rfl fun K hK => wp_callP (x_call hx hcf) hc (fun v w' hv => by rw [put_st hn]; exact hK _ _ (k v w' hv)) kp
theorem s_callP0 {f : FuncId} {xs : List Operand} {vs : List Value} {ats : Array TypeId} {Φ : Value → World → Prop} {Ψ : List PanicEntry → World → Prop} (hx : Evs (st n L σ ds).eval xs vs) (hcf : ∀ args w, (callFunc f args).run P w = .ok (.enter f args) w)
    (hc : RetP P f vs w Φ Ψ) (kp : ∀ c w', Ψ c w' → Q (.panic c) (st n L σ ds) w') (k : ∀ v w', Φ v w' → wpList P ops Q rest (st n L σ ds) w') :
    wpList P ops Q (⟨none, .call { callee := .value (.func f), args := xs.toArray, argTypes := ats }, ty, pos, af, none⟩ :: rest) (st n L σ ds) w :=
  wpList_plain rfl fun K hK => wp_callP (x_call hx hcf) hc (fun v w' hv => hK _ _ (k v w' hv)) kp
/-- A closure is called. -/
theorem s_callc {f : FuncId} {c : Operand} {ca : List Value} {xs : List Operand} {vs as : List Value} {ats : Array TypeId} {Φ : Value → World → Prop} (hc0 : (st n L σ ds).eval c = .func (.func f) #[] ca.toArray) (hx : Evs (st n L σ ds).eval xs vs) (hcf : ∀ args w, (callFunc f args).run P w = .ok (.enter f args) w)
    (ha : vs ++ ca = as) (hc : Ret P f as w Φ) (hn : Nat.blt d n = true) (k : ∀ v w', Φ v w' → wpList P ops Q rest (st n ((d, v) :: L) σ ds) w') :
    wpList P ops Q (⟨some d, .call { callee := .value c, args := xs.toArray, argTypes := ats }, ty, pos, af, none⟩ :: rest) (st n L σ ds) w := by
  subst ha
  exact wpList_plain rfl fun K hK => wp_call (x_callc hc0 hx hcf) hc fun v w' hv => by rw [put_st hn]; exact hK _ _ (k v w' hv)
/-- A builtin that yields a value. -/
theorem s_builtin {b : Builtin} {xs : List Operand} {vs : List Value} {ats : Array TypeId} {w' : World} (hx : Evs (st n L σ ds).eval xs vs)
    (hr : (builtin b ats ty (xs.map fun | .const _ => true | _ => false).toArray vs.toArray).run P w = .ok (.value v) w') (hn : Nat.blt d n = true)
    (k : wpList P ops Q rest (st n ((d, v) :: L) σ ds) w') :
    wpList P ops Q (⟨some d, .call { callee := .builtin b, args := xs.toArray, argTypes := ats }, ty, pos, af, none⟩ :: rest) (st n L σ ds) w := by
  refine sv rfl rfl hn ?_ k
  simp only [execOp, resolve, List.map_toArray, hx.map]
  simp only [Sem.run_bind, Sem.run_pure, Result.andThen_ok, invoke]
  exact hr
theorem r_lens {t : TypeId} {e : TypeId} {A : Option Addr} {m c : Nat} {cs : Array Bool} (hu : UT P t (.slice e)) :
    (builtin .len #[t] ty cs [Value.slice A m c].toArray).run P w = .ok (.value (.int .i64 m)) w := by
  simp [builtin, Builtin.len_, Sem.run_bind, hu w, goInt]
theorem r_lenstr {t : TypeId} {s : ByteArray} {cs : Array Bool} (hu : UT P t .string) :
    (builtin .len #[t] ty cs [Value.string s].toArray).run P w = .ok (.value (.int .i64 s.size)) w := by
  simp [builtin, Builtin.len_, Sem.run_bind, hu w, goInt]
theorem r_max {a b c : Int} {k : IntKind} {ts : Array TypeId} {cs : Array Bool} (hc : (if b > a then b else a) = c) :
    (builtin .max ts ty cs [Value.int k a, Value.int k b].toArray).run P w = .ok (.value (.int k c)) w := by
  subst hc
  simp [builtin, Builtin.max_, Builtin.max2, Sem.run_bind]
theorem r_min {a b c : Int} {k : IntKind} {ts : Array TypeId} {cs : Array Bool} (hc : (if b < a then b else a) = c) :
    (builtin .min ts ty cs [Value.int k a, Value.int k b].toArray).run P w = .ok (.value (.int k c)) w := by
  subst hc
  simp [builtin, Builtin.min_, Builtin.min2, Sem.run_bind]
end
end Go.Proofs.Ytcnchjlomcafeaa.B
