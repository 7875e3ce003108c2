/- LA: several texts in one. -/
import Derived.Below
import Derived.Tactics
import Derived.Orders
import Derived.Defers
import Derived.KernelRfl
import Derived.Laws.Bits
import Derived.Maps.AppendAt
import Derived.Laws.MakeOwn
import Derived.Laws.StructEq
import Derived.MapKept
import Derived.Recover
set_option linter.unusedVariables false
set_option linter.unusedSimpArgs false
set_option linter.unusedSectionVars false
namespace Go.Proofs.Ytbhekpcimmaijaa.B
open Go Go.RowKit

abbrev Env := List (Nat × Value)
def fr (n : Nat) (f : Nat → Value) : Array Value := Array.ofFn (n := n) fun i => f i.val
def ov : Env → (Nat → Value) → Nat → Value
 | [], f, t => f t
 | p :: r, f, t => bif Nat.beq p.1 t then p.2 else ov r f t
abbrev st (n : Nat) (L : Env) (σ : Nat → Value) (ds : List Deferred) : Act := ⟨fr n (ov L σ), ds⟩

theorem fr_get {n t : Nat} {f : Nat → Value} (h : t < n) : (fr n f)[t]? = some (f t) := by
 simp [fr, h]
theorem blt {a b : Nat} (h : Nat.blt a b = true) : a < b := by
 exact Nat.le_of_ble_eq_true h
theorem fr_set {n d : Nat} {L : Env} {σ : Nat → Value} {v : Value} (h : d < n) :
 (fr n (ov L σ)).setIfInBounds d v = fr n (ov ((d, v) :: L) σ) := by
 apply Array.ext_getElem?
 intro i
 by_cases hi : i < n
 ·rw [fr_get hi, Array.getElem?_setIfInBounds]
  by_cases hd : d = i
  ·subst hd; simp [ov, fr, h]
  ·rw [if_neg hd, fr_get hi]
   have : Nat.beq d i = false := by
    cases hb : Nat.beq d i
    ·rfl
    ·exact absurd (Nat.eq_of_beq_eq_true hb) hd
   simp [ov, this]
 ·have h1 : (fr n (ov ((d, v) :: L) σ)).size = n := by simp [fr]
  have h2 : ((fr n (ov L σ)).setIfInBounds d v).size = n := by simp [fr]
  rw [Array.getElem?_eq_none (by omega), Array.getElem?_eq_none (by omega)]

section
variable {P : Program} {ops : Array Oper} {Q : Exit → Act → World → Prop} {n : Nat} {L : Env} {σ : Nat → Value} {ds : List Deferred} {w : World} {rest : List Oper}

theorem put_st {d : Nat} {v : Value} (h : Nat.blt d n = true) : (st n L σ ds).put (some d) v = st n ((d, v) :: L) σ ds := by
 show (⟨(fr n (ov L σ)).setIfInBounds d v, ds⟩ : Act) = _
 rw [fr_set (blt h)]

theorem sv {o : Oper} {d : Nat} {v : Value} {w' : World} (hg : o.guard = none) (hd : o.dst = some d) (hn : Nat.blt d n = true)
 (hx : (execOp (st n L σ ds).eval o).run P w = .ok (.value v) w') (k : wpList P ops Q rest (st n ((d, v) :: L) σ ds) w') :
 wpList P ops Q (o :: rest) (st n L σ ds) w := by
 refine wpList_plain hg fun K hK => ?_
 unfold Oper.wp
 rw [hx, Oper.upon_value, hd, put_st hn]
 exact hK _ _ k
variable {ol : List Oper}
variable {N : Act → World → Prop} {a : Act}
def RetP (P : Program) (f : FuncId) (args : List Value) (w : World) (Φ : Value → World → Prop) (Ψ : List PanicEntry → World → Prop) : Prop :=
 Calls P f args.toArray w fun e w' => (∃ v, e = .returned v ∧ Φ v w') ∨ (∃ c, e = .panicked c ∧ Ψ c w')
theorem RetP.mono {P : Program} {f : FuncId} {args : List Value} {w : World} {Φ Φ' : Value → World → Prop} {Ψ Ψ' : List PanicEntry → World → Prop} (h : RetP P f args w Φ Ψ) (k : ∀ v w', Φ v w' → Φ' v w') (k' : ∀ c w', Ψ c w' → Ψ' c w') : RetP P f args w Φ' Ψ' :=
 Calls.mono h fun e w' he => he.imp (fun ⟨v, he, hv⟩ => ⟨v, he, k v w' hv⟩) (fun ⟨c, he, hv⟩ => ⟨c, he, k' c w' hv⟩)

inductive Res (P : Program) (w : World) (f : Nat → Value) (n : Nat) : List ResultVar → List Value → Prop
 | nil : Res P w f n [] []
 | tmp {t : Nat} {v : Value} {r : List ResultVar} {vs : List Value} (h : Nat.blt t n = true) (hv : f t = v) (k : Res P w f n r vs) : Res P w f n (.tmp t :: r) (v :: vs)
 | cell {t : Nat} {ty : TypeId} {a : Addr} {v : Value} {r : List ResultVar} {vs : List Value} (h : Nat.blt t n = true) (hv : f t = .pointer (some a))
  (hl : (loadVar ty a).run P w = .ok v w) (k : Res P w f n r vs) : Res P w f n (.cell t ty :: r) (v :: vs)
def pack : List Value → Value
 | [v] => v
 | vs => .tuple vs.toArray
def rv (tmps : Array Value) : ResultVar → Sem Value
 | .tmp t => pure (tmps.getD t undef)
 | .cell a t => do loadVar t (← asAddr (tmps.getD a undef))
theorem results_eq (fn : Func) (tmps : Array Value) : results fn tmps = (fn.results.mapM (rv tmps) >>= fun vs => pure (if h : vs.size = 1 then vs[0] else .tuple vs)) := by
 unfold results
 congr 1
end

section
variable {P : Program} {ops : Array Oper} {Q : Exit → Act → World → Prop} {n : Nat} {L : Env} {σ : Nat → Value} {ds : List Deferred} {w : World} {rest : List Oper}
variable {d : Nat} {ty : TypeId} {pos : String} {af : Array Edge} {v v1 v2 v3 : Value} {x y z : Operand}

theorem r_div {op : UnOp} {k : IntKind} {a b c : Int} {xt : TypeId} (hb : b ≠ 0) (hc : k.wrap (a.tdiv b) = c) :
 (do eqGuard .quo xt x y (.int k a) (.int k b); binOp .quo xt (.int k a) (.int k b) : Sem Value).run P w = .ok (.int k c) w := by
 subst hc
 simp [eqGuard, binOp, Op.intDiv, hb]
theorem r_rem {k : IntKind} {a b c : Int} {xt : TypeId} (hb : b ≠ 0) (hc : a.tmod b = c) :
 (do eqGuard .rem xt x y (.int k a) (.int k b); binOp .rem xt (.int k a) (.int k b) : Sem Value).run P w = .ok (.int k c) w := by
 subst hc
 simp [eqGuard, binOp, Op.intDiv, hb]
theorem r_add {k : IntKind} {a b c : Int} {xt : TypeId} (hc : k.wrap (a + b) = c) :
 (do eqGuard .add xt x y (.int k a) (.int k b); binOp .add xt (.int k a) (.int k b) : Sem Value).run P w = .ok (.int k c) w := by
 subst hc
 simp [eqGuard, binOp, Op.intArith]
theorem r_sub {k : IntKind} {a b c : Int} {xt : TypeId} (hc : k.wrap (a - b) = c) :
 (do eqGuard .sub xt x y (.int k a) (.int k b); binOp .sub xt (.int k a) (.int k b) : Sem Value).run P w = .ok (.int k c) w := by
 subst hc
 simp [eqGuard, binOp, Op.intArith]
theorem r_mul {k : IntKind} {a b c : Int} {xt : TypeId} (hc : k.wrap (a * b) = c) :
 (do eqGuard .mul xt x y (.int k a) (.int k b); binOp .mul xt (.int k a) (.int k b) : Sem Value).run P w = .ok (.int k c) w := by
 subst hc
 simp [eqGuard, binOp, Op.intArith]
theorem r_shl {k k' : IntKind} {a b c : Int} {xt : TypeId} (hb : 0 ≤ b) (hc : k.wrap (a * 2 ^ (min b.toNat k.bits)) = c) :
 (do eqGuard .shl xt x y (.int k a) (.int k' b); binOp .shl xt (.int k a) (.int k' b) : Sem Value).run P w = .ok (.int k c) w := by
 subst hc
 have : ¬ b < 0 := by omega
 simp [eqGuard, binOp, Op.shift, this]
theorem r_shr {k k' : IntKind} {a b c : Int} {xt : TypeId} (hb : 0 ≤ b) (hc : a.fdiv (2 ^ (min b.toNat k.bits)) = c) :
 (do eqGuard .shr xt x y (.int k a) (.int k' b); binOp .shr xt (.int k a) (.int k' b) : Sem Value).run P w = .ok (.int k c) w := by
 subst hc
 have : ¬ b < 0 := by omega
 simp [eqGuard, binOp, Op.shift, this]
theorem r_eql {k : IntKind} {a b : Int} {c : Bool} {xt : TypeId} (hc : decide (a = b) = c) :
 (do eqGuard .eql xt x y (.int k a) (.int k b); binOp .eql xt (.int k a) (.int k b) : Sem Value).run P w = .ok (.bool c) w := by
 subst hc
 simp [eqGuard, binOp, Op.intCmp]
 rfl
theorem r_neq {k : IntKind} {a b : Int} {c : Bool} {xt : TypeId} (hc : (!decide (a = b)) = c) :
 (do eqGuard .neq xt x y (.int k a) (.int k b); binOp .neq xt (.int k a) (.int k b) : Sem Value).run P w = .ok (.bool c) w := by
 subst hc
 simp [eqGuard, binOp, Op.intCmp]
 rfl
theorem r_lss {k : IntKind} {a b : Int} {c : Bool} {xt : TypeId} (hc : decide (a < b) = c) :
 (do eqGuard .lss xt x y (.int k a) (.int k b); binOp .lss xt (.int k a) (.int k b) : Sem Value).run P w = .ok (.bool c) w := by
 subst hc
 simp [eqGuard, binOp, Op.intCmp]
theorem r_leq {k : IntKind} {a b : Int} {c : Bool} {xt : TypeId} (hc : decide (a ≤ b) = c) :
 (do eqGuard .leq xt x y (.int k a) (.int k b); binOp .leq xt (.int k a) (.int k b) : Sem Value).run P w = .ok (.bool c) w := by
 subst hc
 simp [eqGuard, binOp, Op.intCmp]
theorem r_gtr {k : IntKind} {a b : Int} {c : Bool} {xt : TypeId} (hc : decide (a > b) = c) :
 (do eqGuard .gtr xt x y (.int k a) (.int k b); binOp .gtr xt (.int k a) (.int k b) : Sem Value).run P w = .ok (.bool c) w := by
 subst hc
 simp [eqGuard, binOp, Op.intCmp]
theorem r_geq {k : IntKind} {a b : Int} {c : Bool} {xt : TypeId} (hc : decide (a ≥ b) = c) :
 (do eqGuard .geq xt x y (.int k a) (.int k b); binOp .geq xt (.int k a) (.int k b) : Sem Value).run P w = .ok (.bool c) w := by
 subst hc
 simp [eqGuard, binOp, Op.intCmp]
theorem r_bits {op : BinOp} {k : IntKind} {a b c : Int} {xt : TypeId} (ho : op = .and ∨ op = .or ∨ op = .xor ∨ op = .andNot) (hc : bits op k a b = c) :
 (do eqGuard op xt x y (.int k a) (.int k b); binOp op xt (.int k a) (.int k b) : Sem Value).run P w = .ok (.int k c) w := by
 subst hc
 rcases ho with rfl | rfl | rfl | rfl <;> simp [eqGuard, binOp, Op.intBits, bits]
theorem r_streq {a b : ByteArray} {c : Bool} {xt : TypeId} (hc : (a.toList == b.toList) = c) :
 (do eqGuard .eql xt x y (.string a) (.string b); binOp .eql xt (.string a) (.string b) : Sem Value).run P w = .ok (.bool c) w := by
 subst hc
 simp [eqGuard, binOp, Op.stringOp]
theorem r_strne {a b : ByteArray} {c : Bool} {xt : TypeId} (hc : (!(a.toList == b.toList)) = c) :
 (do eqGuard .neq xt x y (.string a) (.string b); binOp .neq xt (.string a) (.string b) : Sem Value).run P w = .ok (.bool c) w := by
 subst hc
 simp [eqGuard, binOp, Op.stringOp]
theorem r_not {b c : Bool} (hc : (!b) = c) : (Op.unary .not (.bool b)).run P w = .ok (.bool c) w := by subst hc; rfl
theorem r_neg {k : IntKind} {a c : Int} (hc : k.wrap (0 - a) = c) : (Op.unary .neg (.int k a)).run P w = .ok (.int k c) w := by
 subst hc; simp [Op.unary, Op.intArith]
end

abbrev Rsc := List (Nat × Obj)
structure Hp (M I : Nat → Prop) (w0 wr w : World) (R : List Rsc) : Prop where
 os : w.os = w0.os
 tape : w.tape = w0.tape
 output : w.output = w0.output
 le : w0.heap.size ≤ w.heap.size
 old : ∀ k, k < w0.heap.size → ¬ M k → w.heap[k]? = w0.heap[k]?
 imm : ∀ k, I k → w.heap[k]? = wr.heap[k]?
 ilt : ∀ k, I k → k < w.heap.size
 own : ∀ p ∈ R.flatten, w.heap[p.1]? = some p.2
 fresh : ∀ p ∈ R.flatten, (M p.1 ∨ w0.heap.size ≤ p.1) ∧ ¬ I p.1
 nodup : (R.flatten.map (·.1)).Nodup

namespace Hp
variable {M I : Nat → Prop} {w0 wr w : World} {R : List Rsc}

theorem mem {i j : Nat} {r : Rsc} {p : Nat × Obj} (hi : R[i]? = some r) (hj : r[j]? = some p) : p ∈ R.flatten :=
 List.mem_flatten.2 ⟨r, List.mem_of_getElem? hi, List.mem_of_getElem? hj⟩
theorem keys_set {R : List Rsc} {i j b : Nat} {r : Rsc} {o o' : Obj} (hi : R[i]? = some r) (hj : r[j]? = some (b, o)) :
 ((R.set i (r.set j (b, o'))).flatten.map (·.1)) = R.flatten.map (·.1) := by
 induction R generalizing i with
 | nil => simp at hi
 | cons q R ih =>
  cases i with
  | zero =>
   simp at hi; subst hi
   simp only [List.set_cons_zero, List.flatten_cons, List.map_append]
   congr 1
   apply List.ext_getElem?
   intro m
   simp only [List.getElem?_map, List.getElem?_set]
   split
   ·rename_i e; subst e
    split
    ·simp [hj]
    ·rename_i hl; simp at hl; simp [List.getElem?_eq_none hl] at hj
   ·rfl
  | succ i => simp at hi; simp [ih hi]
theorem mem_set {R : List Rsc} {i j b : Nat} {r : Rsc} {o o' : Obj} (hi : R[i]? = some r) (hj : r[j]? = some (b, o)) (hn : (R.flatten.map (·.1)).Nodup) {p : Nat × Obj}
 (hp : p ∈ (R.set i (r.set j (b, o'))).flatten) : p = (b, o') ∨ (p ∈ R.flatten ∧ p.1 ≠ b) := by
 have hn' : ((R.set i (r.set j (b, o'))).flatten.map (·.1)).Nodup := by rw [keys_set hi hj]; exact hn
 by_cases hb : p.1 = b
 ·left
  have hmem : (b, o') ∈ (R.set i (r.set j (b, o'))).flatten := by
   refine List.mem_flatten.2 ⟨r.set j (b, o'), ?_, ?_⟩
   ·have : i < R.length := (List.getElem?_eq_some_iff.1 hi).1
    exact List.mem_of_getElem? (i := i) (by rw [List.getElem?_set_self this])
   ·have : j < r.length := (List.getElem?_eq_some_iff.1 hj).1
    exact List.mem_of_getElem? (i := j) (by rw [List.getElem?_set_self this])
  have inj : ∀ {l : List (Nat × Obj)}, (l.map (·.1)).Nodup → ∀ {x y}, x ∈ l → y ∈ l → x.1 = y.1 → x = y := by
   intro l
   induction l with
   | nil => intro _ x y hx; simp at hx
   | cons z l ih =>
    intro hn x y hx hy hxy
    simp only [List.map_cons, List.nodup_cons] at hn
    rcases List.mem_cons.1 hx with hx1 | hx1 <;> rcases List.mem_cons.1 hy with hy1 | hy1
    ·rw [hx1, hy1]
    ·exact absurd (List.mem_map.2 ⟨y, hy1, by rw [← hx1]; exact hxy.symm⟩) hn.1
    ·exact absurd (List.mem_map.2 ⟨x, hx1, by rw [← hy1]; exact hxy⟩) hn.1
    ·exact ih hn.2 hx1 hy1 hxy
  exact inj hn' hp hmem hb
 ·right
  refine ⟨?_, hb⟩
  obtain ⟨s, hs, hps⟩ := List.mem_flatten.1 hp
  rcases List.mem_or_eq_of_mem_set hs with hs | rfl
  ·exact List.mem_flatten.2 ⟨s, hs, hps⟩
  ·rcases List.mem_or_eq_of_mem_set hps with hps | rfl
   ·exact List.mem_flatten.2 ⟨r, List.mem_of_getElem? hi, hps⟩
   ·exact absurd rfl hb
theorem upd (h : Hp M I w0 wr w R) {i j b : Nat} {r : Rsc} {o o' : Obj} (hi : R[i]? = some r) (hj : r[j]? = some (b, o)) {w' : World}
 (h1 : w'.os = w.os) (h2 : w'.tape = w.tape) (h3 : w'.output = w.output) (h4 : w'.heap.size = w.heap.size)
 (h5 : ∀ k, k ≠ b → w'.heap[k]? = w.heap[k]?) (h6 : w'.heap[b]? = some o') : Hp M I w0 wr w' (R.set i (r.set j (b, o'))) := by
 have hb := mem hi hj
 refine ⟨h1.trans h.os, h2.trans h.tape, h3.trans h.output, by have := h.le; omega, ?_, ?_, ?_, ?_, ?_, ?_⟩
 ·intro k hk hm
  refine (h5 k fun e => ?_).trans (h.old k hk hm)
  subst e
  rcases (h.fresh _ hb).1 with hM | hM
  ·exact hm hM
  ·simp at hM; omega
 ·intro k hk
  refine (h5 k fun e => ?_).trans (h.imm k hk)
  subst e
  exact (h.fresh _ hb).2 hk
 ·intro k hk; rw [h4]; exact h.ilt k hk
 ·intro p hp
  rcases mem_set hi hj h.nodup hp with rfl | ⟨hp, hne⟩
  ·exact h6
  ·exact (h5 _ hne).trans (h.own p hp)
 ·intro p hp
  rcases mem_set hi hj h.nodup hp with rfl | ⟨hp, hne⟩
  ·exact h.fresh (b, o) hb
  ·exact h.fresh _ hp
 ·rw [keys_set hi hj]; exact h.nodup
end Hp

theorem cell_at {w : World} {b : Nat} {c : Array Value} {e : TypeId} {fz : Nat × Nat} {off : Nat} {v : Value} (h : w.heap[b]? = some (.cells c e fz)) (hc : c[off]? = some v) :
 w.cell? ⟨b, off, none⟩ = some v := by simp [World.cell?, h, hc]
theorem add_none (b o k : Nat) : (⟨b, o, none⟩ : Addr).add k = ⟨b, o + k, none⟩ := by
 unfold Addr.add
 split
 ·rename_i h; subst h; rfl
 ·rfl
def CellsAt (w : World) (a : Addr) (vs : List Value) : Prop := ∀ j u, vs[j]? = some u → w.cell? (a.add j) = some u
theorem run_load {P : Program} {w : World} {a : Addr} {v : Value} (h : w.cell? a = some v) : (load a).run P w = .ok v w := by
 simp [load, Sem.run, h]
theorem run_loadCellsFrom {P : Program} {w : World} {a : Addr} : ∀ (vs : List Value) (i : Nat) (acc : Array Value), (∀ j u, vs[j]? = some u → w.cell? (a.add (i + j)) = some u) →
 (loadCellsFrom a i vs.length acc).run P w = .ok (acc ++ vs.toArray) w := by
 intro vs
 induction vs with
 | nil => intro i acc h; simp [loadCellsFrom]
 | cons v vs ih =>
  intro i acc h
  simp only [List.length_cons, loadCellsFrom, Sem.run_bind]
  rw [run_load (v := v) (by simpa using h 0 v rfl), Result.andThen_ok, ih (i + 1) _ (fun j u hu => by have := h (j + 1) u hu; rw [show i + 1 + j = i + (j + 1) by omega]; exact this)]
  simp
theorem run_loadCells {P : Program} {w : World} {a : Addr} {vs : List Value} {n : Nat} (hn : vs.length = n) (h : CellsAt w a vs) : (loadCells a n).run P w = .ok vs.toArray w := by
 subst hn
 unfold loadCells
 rw [run_loadCellsFrom vs 0 #[] (fun j u hu => by rw [Nat.zero_add]; exact h j u hu)]
 simp
def one : Value → Bool
 | .agg _ | .tuple _ => false
 | _ => true
theorem run_store {P : Program} {w : World} {a : Addr} {u v : Value} (h : w.cell? a = some u) (hf : w.frozen? a = false) (h1 : one v = true) : (store a v).run P w = .ok () (w.setCell a v) := by
 cases v <;> first | (simp [one] at h1; done) | simp [store, Sem.run, h, hf]
theorem setCell_block {w : World} {b off : Nat} {l : List Value} {e : TypeId} {fz : Nat × Nat} {v : Value} (h : w.heap[b]? = some (.cells l.toArray e fz)) :
 (w.setCell ⟨b, off, none⟩ v).heap[b]? = some (.cells (l.set off v).toArray e fz) := by
 simp [World.setCell, Array.getElem?_modify, h]
theorem run_storeCells {P : Program} {b e : Nat} : ∀ (vs : List Value) (i off : Nat) (l : List Value) (w : World), w.heap[b]? = some (.cells l.toArray e (0, 0)) → (∀ u ∈ vs, one u = true) → off + i + vs.length ≤ l.length →
 ∃ w', (storeCells ⟨b, off, none⟩ vs i).run P w = .ok () w' ∧ w'.os = w.os ∧ w'.tape = w.tape ∧ w'.output = w.output ∧ w'.heap.size = w.heap.size ∧ (∀ k, k ≠ b → w'.heap[k]? = w.heap[k]?) ∧
  w'.heap[b]? = some (.cells (l.take (off + i) ++ vs ++ l.drop (off + i + vs.length)).toArray e (0, 0)) := by
 intro vs
 induction vs with
 | nil => intro i off l w h _ _; exact ⟨w, by simp [storeCells], rfl, rfl, rfl, rfl, fun _ _ => rfl, by simpa using h⟩
 | cons v vs ih =>
  intro i off l w h h1 hl
  simp only [List.length_cons] at hl
  have hlt : off + i < l.length := by omega
  have hc : w.cell? ((⟨b, off, none⟩ : Addr).add i) = some l[off + i] := by rw [add_none]; exact cell_at h (by simp [hlt])
  have hf : w.frozen? ((⟨b, off, none⟩ : Addr).add i) = false := by rw [add_none]; simp [World.frozen?, h]
  have hset : (w.setCell ((⟨b, off, none⟩ : Addr).add i) v).heap[b]? = some (.cells (l.set (off + i) v).toArray e (0, 0)) := by rw [add_none]; exact setCell_block h
  obtain ⟨w', hr, a1, a2, a3, a4, a5, a6⟩ := ih (i + 1) off (l.set (off + i) v) _ hset (fun u hu => h1 u (List.mem_cons_of_mem _ hu)) (by simp; omega)
  refine ⟨w', ?_, a1, a2, a3, a4.trans (by simp [World.setCell]), fun k hk => (a5 k hk).trans ?_, ?_⟩
  ·simp only [storeCells, Sem.run_bind]
   rw [run_store hc hf (h1 v (List.mem_cons_self ..)), Result.andThen_ok, hr]
  ·rw [add_none]; simp only [World.setCell, Array.getElem?_modify]; rw [if_neg (by omega)]
  ·rw [a6]
   congr 3
   apply List.ext_getElem?
   intro m
   simp only [List.getElem?_append, List.length_append, List.length_take, List.length_set, List.length_cons, List.getElem?_take, List.getElem?_set, List.getElem?_drop]
   grind

abbrev UT (P : Program) (t : TypeId) (d : TypeDesc) : Prop := ∀ w, (underlying t).run P w = .ok d w
abbrev SZ (P : Program) (t : TypeId) (n : Nat) : Prop := ∀ w, (sizeOf t).run P w = .ok n w
abbrev ZR (P : Program) (t : TypeId) (v : Value) : Prop := ∀ w, (zeroValue t).run P w = .ok v w
abbrev AG (P : Program) (t : TypeId) (b : Bool) : Prop := ∀ w, (isAgg t).run P w = .ok b w

inductive Evs (f : Operand → Value) : List Operand → List Value → Prop
 | nil : Evs f [] []
 | cons {x : Operand} {v : Value} {xs : List Operand} {vs : List Value} (h : f x = v) (k : Evs f xs vs) : Evs f (x :: xs) (v :: vs)
theorem Evs.map {f : Operand → Value} {xs : List Operand} {vs : List Value} (h : Evs f xs vs) : xs.map f = vs := by
 induction h with
 | nil => rfl
 | cons h k ih => simp [h, ih]
inductive EvP (f : Operand → Value) : List (Nat × Operand) → List (Nat × Value) → Prop
 | nil : EvP f [] []
 | cons {i : Nat} {x : Operand} {v : Value} {xs : List (Nat × Operand)} {vs : List (Nat × Value)} (h : f x = v) (k : EvP f xs vs) : EvP f ((i, x) :: xs) ((i, v) :: vs)
section
variable {P : Program} {ops : Array Oper} {Q : Exit → Act → World → Prop} {n : Nat} {L : Env} {σ : Nat → Value} {ds : List Deferred} {w : World} {rest : List Oper}
variable {d : Nat} {ty : TypeId} {pos : String} {af : Array Edge} {v v1 v2 v3 : Value} {x y z : Operand}
variable {M I : Nat → Prop} {w0 wr : World} {R : List Rsc}

theorem r_load1 {t : TypeId} {a : Addr} (hA : AG P t false) (hc : w.cell? a = some v) : (loadVar t a).run P w = .ok v w := by
 simp [loadVar, Sem.run_bind, hA w, hc]
theorem r_loadA {t : TypeId} {a : Addr} {vs : List Value} {sz : Nat} (hA : AG P t true) (hs : SZ P t sz) (hl : vs.length = sz) (hc : CellsAt w a vs) : (loadVar t a).run P w = .ok (.agg vs.toArray) w := by
 simp [loadVar, Sem.run_bind, hA w, hs w, run_loadCells hl hc]
theorem s_indexs {t : TypeId} {s : ByteArray} {i : Int} {k' : IntKind} {c : Int} (hx : (st n L σ ds).eval x = .string s) (hy : (st n L σ ds).eval y = .int k' i) (hu : UT P t .string)
 (h0 : 0 ≤ i) (h1 : i < s.size) (hv : ((s[i.toNat]'(by omega)).toNat : Int) = c) (hn : Nat.blt d n = true)
 (k : wpList P ops Q rest (st n ((d, .int .u8 c) :: L) σ ds) w) :
 wpList P ops Q (⟨some d, .index t x y, ty, pos, af, none⟩ :: rest) (st n L σ ds) w := by
 refine sv rfl rfl hn ?_ k
 subst hv
 have h2 : i.toNat < s.size := by omega
 simp only [execOp, hx, hy]
 simp [Instr.index, asIntOf, Sem.run_bind, hu w, h0, h2]
theorem s_builtin {b : Builtin} {xs : List Operand} {vs : List Value} {ats : Array TypeId} {w' : World} (hx : Evs (st n L σ ds).eval xs vs)
 (hr : (builtin b ats ty (xs.map fun | .const _ => true | _ => false).toArray vs.toArray).run P w = .ok (.value v) w') (hn : Nat.blt d n = true)
 (k : wpList P ops Q rest (st n ((d, v) :: L) σ ds) w') :
 wpList P ops Q (⟨some d, .call { callee := .builtin b, args := xs.toArray, argTypes := ats }, ty, pos, af, none⟩ :: rest) (st n L σ ds) w := by
 refine sv rfl rfl hn ?_ k
 simp only [execOp, resolve, List.map_toArray, hx.map]
 simp only [Sem.run_bind, Sem.run_pure, Result.andThen_ok, invoke]
 exact hr
theorem r_lens {t : TypeId} {e : TypeId} {A : Option Addr} {m c : Nat} {cs : Array Bool} (hu : UT P t (.slice e)) :
 (builtin .len #[t] ty cs [Value.slice A m c].toArray).run P w = .ok (.value (.int .i64 m)) w := by
 simp [builtin, Builtin.len_, Sem.run_bind, hu w, goInt]
theorem r_lenstr {t : TypeId} {s : ByteArray} {cs : Array Bool} (hu : UT P t .string) :
 (builtin .len #[t] ty cs [Value.string s].toArray).run P w = .ok (.value (.int .i64 s.size)) w := by
 simp [builtin, Builtin.len_, Sem.run_bind, hu w, goInt]
theorem r_max {a b c : Int} {k : IntKind} {ts : Array TypeId} {cs : Array Bool} (hc : (if b > a then b else a) = c) :
 (builtin .max ts ty cs [Value.int k a, Value.int k b].toArray).run P w = .ok (.value (.int k c)) w := by
 subst hc
 simp [builtin, Builtin.max_, Builtin.max2, Sem.run_bind]
theorem r_min {a b c : Int} {k : IntKind} {ts : Array TypeId} {cs : Array Bool} (hc : (if b < a then b else a) = c) :
 (builtin .min ts ty cs [Value.int k a, Value.int k b].toArray).run P w = .ok (.value (.int k c)) w := by
 subst hc
 simp [builtin, Builtin.min_, Builtin.min2, Sem.run_bind]
end

def On (R : List Rsc) (k : Nat) : Prop := ∃ p ∈ R.flatten, p.1 = k
structure Have (w : World) (R : List Rsc) : Prop where
 own : ∀ p ∈ R.flatten, w.heap[p.1]? = some p.2
 nodup : (R.flatten.map (·.1)).Nodup
def Off (w : World) (R : List Rsc) (k : Nat) : Prop := k < w.heap.size ∧ ¬ On R k
structure Aft (w w' : World) (R R' : List Rsc) : Prop where
 os : w'.os = w.os
 tape : w'.tape = w.tape
 output : w'.output = w.output
 le : w.heap.size ≤ w'.heap.size
 old : ∀ k, k < w.heap.size → ¬ On R k → w'.heap[k]? = w.heap[k]?
 own : ∀ p ∈ R'.flatten, w'.heap[p.1]? = some p.2
 fresh : ∀ p ∈ R'.flatten, On R p.1 ∨ w.heap.size ≤ p.1
 nodup : (R'.flatten.map (·.1)).Nodup
def Up (I : Nat → Prop) (w : World) (I' : Nat → Prop) (w' : World) : Prop := ∀ k, I k → I' k ∧ w'.heap[k]? = w.heap[k]?
namespace Hp
variable {M I : Nat → Prop} {w0 wr w w' : World} {R : List Rsc}
end Hp
section
variable {M I : Nat → Prop} {w0 wr w w' : World} {R : List Rsc}
end

structure Enc (α : Type) where
 sz : Nat
 rep : (Nat → Prop) → World → α → List Value → Prop
 pos : 0 < sz
 len : ∀ {F w x cs}, rep F w x cs → cs.length = sz
 one : ∀ {F w x cs}, rep F w x cs → ∀ u ∈ cs, u.oneCell' = true
 up : ∀ {F G w w' x cs}, rep F w x cs → Up F w G w' → rep G w' x cs
def gi {α : Type} [Inhabited α] (xs : List α) (i : Int) : α := xs.getD i.toNat default
section
variable {α : Type} {E : Enc α} {F G : Nat → Prop} {w w' : World}
inductive Reps (E : Enc α) (F : Nat → Prop) (w : World) : List α → List Value → Prop
 | nil : Reps E F w [] []
 | cons {x : α} {xs : List α} {c cs : List Value} (h : E.rep F w x c) (k : Reps E F w xs cs) : Reps E F w (x :: xs) (c ++ cs)
namespace Reps
theorem mem {xs : List α} {cs : List Value} (h : Reps E F w xs cs) : ∀ u ∈ cs, u.oneCell' = true := by
 induction h with
 | nil => simp
 | cons h k ih =>
  intro u hu
  rcases List.mem_append.1 hu with hu | hu
  ·exact E.one h u hu
  ·exact ih u hu
theorem append {xs ys : List α} {cs ds : List Value} (h : Reps E F w xs cs) (k : Reps E F w ys ds) : Reps E F w (xs ++ ys) (cs ++ ds) := by
 induction h with
 | nil => exact k
 | cons h _ ih => rw [List.append_assoc]; exact .cons h ih
end Reps

structure RdS (E : Enc α) (F : Nat → Prop) (w : World) (A : Option Addr) (c : Nat) (xs : List α) : Prop where
 len : xs.length ≤ c
 big : xs.length ≤ 140737488355328
 at_ : xs ≠ [] → ∃ a cs, A = some a ∧ F a.block ∧ CellsAt w a cs ∧ Reps E F w xs cs
namespace RdS
variable {A : Option Addr} {c : Nat} {xs : List α}
end RdS

namespace Own
variable {M I : Nat → Prop} {w0 wr w1 : World} {R : List Rsc} {i : Nat} {e : TypeId} {A : Option Addr} {c : Nat} {xs : List α} {X : Rsc}
end Own
end

def partsOk (sz : Nat) : Nat → List (Nat × Value) → Bool
 | _, [] => true
 | i, p :: r => Nat.beq p.1 i && Nat.beq p.2.cells.size sz && partsOk sz (i + 1) r
theorem setFold : ∀ (l : List Value) (k off : Nat) (cs : Array Value), off + k + l.length ≤ cs.size →
 ((l.zipIdx k).foldl (fun cs (p : Value × Nat) => cs.setIfInBounds (off + p.2) p.1) cs).toList = cs.toList.take (off + k) ++ l ++ cs.toList.drop (off + k + l.length) := by
 intro l
 induction l with
 | nil => intro k off cs h; simp
 | cons a r ih =>
  intro k off cs h
  simp only [List.length_cons] at h
  rw [List.zipIdx_cons, List.foldl_cons, ih (k + 1) off _ (by simp; omega)]
  apply List.ext_getElem?
  intro m
  simp only [Array.toList_setIfInBounds, List.getElem?_append, List.length_append, List.length_take, List.getElem?_take, List.getElem?_drop, List.getElem?_set, List.length_set, Array.length_toList, List.length_cons, List.getElem?_cons]
  grind
theorem fill_parts (sz : Nat) : ∀ (vs : List (Nat × Value)) (i : Nat) (pre : List Value) (cells : Array Value), partsOk sz i vs = true → pre.length = i * sz → cells.toList.take (i * sz) = pre → cells.size = (i + vs.length) * sz →
 Instr.fill (fun i => some (i * sz, sz)) cells vs = some (pre ++ vs.flatMap fun p => p.2.cells.toList).toArray := by
 intro vs
 induction vs with
 | nil =>
  intro i pre cells _ hp ht hs
  simp only [List.length_nil, Nat.add_zero] at hs
  simp only [Instr.fill, List.flatMap_nil, List.append_nil, ← ht]
  rw [List.take_of_length_le (by simp [hs])]
 | cons p r ih =>
  intro i pre cells hk hp ht hs
  obtain ⟨j, v⟩ := p
  simp only [partsOk, Bool.and_eq_true] at hk
  obtain ⟨⟨h1, h2⟩, h3⟩ := hk
  have h1 := Nat.eq_of_beq_eq_true h1
  have h2 := Nat.eq_of_beq_eq_true h2
  subst h1
  simp only [List.length_cons] at hs
  have hm : j * sz + sz ≤ cells.size := by rw [hs, ← Nat.succ_mul]; exact Nat.mul_le_mul_right _ (by omega)
  simp only [Instr.fill]
  rw [if_neg (by simp [h2]; omega)]
  have hl : v.cells.toList.length = sz := by simp [h2]
  have hf : (v.cells.zipIdx.foldl (fun cs (x : Value × Nat) => match x with | (c, j_1) => cs.setIfInBounds (j * sz + j_1) c) cells).toList = cells.toList.take (j * sz) ++ v.cells.toList ++ cells.toList.drop (j * sz + sz) := by
   have := setFold v.cells.toList 0 (j * sz) cells (by simp only [hl]; omega)
   rw [Nat.add_zero, hl] at this
   rw [← this, ← Array.foldl_toList, Array.toList_zipIdx]
  have hz := ih (j + 1) (pre ++ v.cells.toList) _ h3 (by rw [List.length_append, hp, hl, Nat.succ_mul]) (by
   rw [hf, ht, List.take_append_of_le_length (by rw [List.length_append, hp, hl, Nat.succ_mul]; omega), List.take_of_length_le (by rw [List.length_append, hp, hl, Nat.succ_mul]; omega)]) (by
   rw [← Array.length_toList, hf]
   simp only [List.length_append, List.length_take, List.length_drop, hl, Array.length_toList]
   rw [show j + 1 + r.length = j + (r.length + 1) by omega, ← hs]
   omega)
  rw [hz]
  simp
section
variable {P : Program} {ops : Array Oper} {Q : Exit → Act → World → Prop} {n : Nat} {L : Env} {σ : Nat → Value} {ds : List Deferred} {w : World} {rest : List Oper}
variable {d : Nat} {ty : TypeId} {pos : String} {af : Array Edge} {v v1 v2 v3 : Value} {x y z : Operand} {gd : Option (Nat × Bool)} {dst : Option Tmp}
variable {M I F : Nat → Prop} {w0 wr wf : World} {R : List Rsc} {α : Type} {E : Enc α}

theorem run_indexAddr {t e : TypeId} {A : Addr} {m c : Nat} {i : Int} {k' : IntKind} {sz : Nat} (hu : UT P t (.slice e)) (hs : SZ P e sz) (h0 : 0 ≤ i) (h1 : i < m) :
 (Instr.indexAt t (.slice (some A) m c) (.int k' i)).run P w = .ok (.pointer (some (A.add (i.toNat * sz)))) w := by
 simp [Instr.indexAt, asIntOf, Sem.run_bind, hu w, h0, h1, hs w]
structure EP (I : Nat → Prop) (wr : World) (a : Addr) (cs : List Value) : Prop where
 at_ : I a.block
 cells : CellsAt wr a cs
theorem cs_replicate {c : List Value} {sz : Nat} (hc : c.length = sz) (hp : 0 < sz) : ∀ (l j : Nat), j < l * sz → (List.replicate l c).flatten[j]? = c[j % sz]?
 | 0, j, h => by simp at h
 | l + 1, j, h => by
  rw [List.replicate_succ, List.flatten_cons, List.getElem?_append]
  split
  ·rename_i hj; rw [Nat.mod_eq_of_lt (by omega)]
  ·rename_i hj
   rw [hc, cs_replicate hc hp l (j - sz) (by rw [Nat.succ_mul] at h; omega)]
   rw [hc] at hj
   congr 1
   conv => rhs; rw [show j = j - sz + sz by omega, Nat.add_mod_right]
end

section
variable {P : Program} {a : Act} {w : World} {dst : Option Tmp} {gd : Option (Nat × Bool)}
variable {d : Nat} {ty : TypeId} {pos : String} {af : Array Edge} {v v1 v2 v3 : Value} {x y z : Operand}

theorem e_move (hx : a.eval x = v) : (execOp a.eval ⟨dst, .move x, ty, pos, af, gd⟩).run P w = .ok (.value v) w := by
 simp only [execOp, hx]; rfl
theorem e_assign (hx : a.eval x = v) : (execOp a.eval ⟨dst, .assign x, ty, pos, af, gd⟩).run P w = .ok (.value v) w := by
 simp only [execOp, hx]; rfl
theorem e_pick {b : Bool} (hz : a.eval z = .bool b) (hx : b = true → a.eval x = v1) (hy : b = false → a.eval y = v2) (hv : (bif b then v1 else v2) = v) :
 (execOp a.eval ⟨dst, .pick z x y, ty, pos, af, gd⟩).run P w = .ok (.value v) w := by
 simp only [execOp, hz, asBool]
 subst hv
 cases b
 ·rw [← hy rfl]; rfl
 ·rw [← hx rfl]; rfl
theorem e_bin {op : BinOp} {xt yt : TypeId} (hx : a.eval x = v1) (hy : a.eval y = v2)
 (hr : (do eqGuard op xt x y v1 v2; binOp op xt v1 v2 : Sem Value).run P w = .ok v w) :
 (execOp a.eval ⟨dst, .binOp op xt x y yt, ty, pos, af, gd⟩).run P w = .ok (.value v) w := by
 simp only [execOp, hx, hy]
 rw [Sem.run_bind, hr]
 rfl
theorem e_un {op : UnOp} {xt : TypeId} (hx : a.eval x = v1) (hr : (Op.unary op v1).run P w = .ok v w) :
 (execOp a.eval ⟨dst, .unOp op xt x, ty, pos, af, gd⟩).run P w = .ok (.value v) w := by
 simp only [execOp, hx]
 rw [Sem.run_bind, hr]
 rfl
theorem e_conv {src dt : TypeId} {sd : TypeDesc} {k k' : IntKind} {c e : Int} (hx : a.eval x = .int k' c) (h1 : UT P src sd) (h2 : UT P dt (.int k)) (hc : k.wrap c = e) :
 (execOp a.eval ⟨dst, .convert src dt x, ty, pos, af, gd⟩).run P w = .ok (.value (.int k e)) w := by
 subst hc
 simp only [execOp, hx]
 rw [Sem.run_bind]
 simp [convert, Sem.run_bind, h1 w, h2 w, Conv.intToInt]
theorem e_load1 {t : TypeId} {p : Addr} (hx : a.eval x = .pointer (some p)) (hA : AG P t false) (hc : w.cell? p = some v) :
 (execOp a.eval ⟨dst, .load t x, ty, pos, af, gd⟩).run P w = .ok (.value v) w := by
 simp only [execOp, hx]
 simp [Instr.loadAt, Instr.sureAddr, Sem.run_bind, r_load1 hA hc]
theorem e_loadA {t : TypeId} {p : Addr} {vs : List Value} {sz : Nat} (hx : a.eval x = .pointer (some p)) (hA : AG P t true) (hs : SZ P t sz) (hl : vs.length = sz) (hc : CellsAt w p vs) :
 (execOp a.eval ⟨dst, .load t x, ty, pos, af, gd⟩).run P w = .ok (.value (.agg vs.toArray)) w := by
 simp only [execOp, hx]
 simp [Instr.loadAt, Instr.sureAddr, Sem.run_bind, r_loadA hA hs hl hc]
theorem e_fieldAddr {s : TypeId} {p p' : Addr} {f sz : Nat} {fs : Array Field} {fd : Field} (hx : a.eval x = .pointer (some p)) (hu : UT P s (.struct fs)) (hf : fs[f]? = some fd) (hs : SZ P fd.type sz) (hsz : Nat.beq sz 0 = false)
 (ha : p.add fd.offset = p') :
 (execOp a.eval ⟨dst, .fieldAddr s x f, ty, pos, af, gd⟩).run P w = .ok (.value (.pointer (some p'))) w := by
 subst ha
 have hz : ¬ sz = 0 := fun e => by rw [e] at hsz; cases hsz
 simp only [execOp, hx]
 simp [Instr.fieldAt, Instr.sureAddr, fieldPlace, Sem.run_bind, hu w, hf, hs w, hz]
theorem e_field1 {s : TypeId} {f : Nat} {fs : Array Field} {fd : Field} {cs : List Value} (hx : a.eval x = .agg cs.toArray) (hu : UT P s (.struct fs)) (hf : fs[f]? = some fd) (hA : AG P fd.type false) (hv : cs[fd.offset]? = some v) :
 (execOp a.eval ⟨dst, .field s x f, ty, pos, af, gd⟩).run P w = .ok (.value v) w := by
 simp only [execOp, hx]
 simp [Instr.field, asAgg, part, Sem.run_bind, hu w, hf, hA w, hv]
theorem e_fieldA {s : TypeId} {f sz : Nat} {fs : Array Field} {fd : Field} {cs vs : List Value} (hx : a.eval x = .agg cs.toArray) (hu : UT P s (.struct fs)) (hf : fs[f]? = some fd) (hA : AG P fd.type true) (hs : SZ P fd.type sz) (hv : (cs.drop fd.offset).take sz = vs) :
 (execOp a.eval ⟨dst, .field s x f, ty, pos, af, gd⟩).run P w = .ok (.value (.agg vs.toArray)) w := by
 subst hv
 simp only [execOp, hx]
 simp [Instr.field, asAgg, part, Sem.run_bind, hu w, hf, hA w, hs w, List.take_drop]
theorem e_extract {i : Nat} {vs : List Value} (hx : a.eval x = .tuple vs.toArray) (hv : vs[i]? = some v) :
 (execOp a.eval ⟨dst, .extract x i, ty, pos, af, gd⟩).run P w = .ok (.value v) w := by
 simp only [execOp, hx]
 simp [Instr.extract, Sem.run_bind, hv]
def sb (s : ByteArray) (i : Int) : Int := (s.data.getD i.toNat 0).toNat
theorem e_indexs {t : TypeId} {s : ByteArray} {i : Int} {k' : IntKind} (hx : a.eval x = .string s) (hy : a.eval y = .int k' i) (hu : UT P t .string)
 (h : 0 ≤ i ∧ i < s.size) :
 (execOp a.eval ⟨dst, .index t x y, ty, pos, af, gd⟩).run P w = .ok (.value (.int .u8 (sb s i))) w := by
 obtain ⟨h0, h1⟩ := h
 have h2 : i.toNat < s.size := by omega
 have h3 : ((s[i.toNat]'h2).toNat : Int) = sb s i := by
  have : i.toNat < s.data.size := h2
  simp only [sb, Array.getD, this, dif_pos]
  rfl
 simp only [execOp, hx, hy]
 simp [Instr.index, asIntOf, Sem.run_bind, hu w, h0, h2, h3]
theorem e_makeFunc {fn : Fn} {fi ca : List Operand} {v1 v2 : List Value} (h1 : Evs a.eval fi v1) (h2 : Evs a.eval ca v2) :
 (execOp a.eval ⟨dst, .makeFunc fn fi.toArray ca.toArray, ty, pos, af, gd⟩).run P w = .ok (.value (.func fn v1.toArray v2.toArray)) w := by
 simp only [execOp, List.map_toArray, h1.map, h2.map]
 simp [Instr.makeFunc, Sem.run_bind]
theorem e_nilCheckP {p : Addr} (hx : a.eval x = .pointer (some p)) :
 (execOp a.eval ⟨dst, .nilCheck x, ty, pos, af, gd⟩).run P w = .ok (.value (.pointer (some p))) w := by
 simp only [execOp, hx]
 rfl
theorem e_builtin {b : Builtin} {xs : List Operand} {vs : List Value} {ats : Array TypeId} (hx : Evs a.eval xs vs)
 (hr : (builtin b ats ty (xs.map fun | .const _ => true | _ => false).toArray vs.toArray).run P w = .ok (.value v) w) :
 (execOp a.eval ⟨dst, .call { callee := .builtin b, args := xs.toArray, argTypes := ats }, ty, pos, af, gd⟩).run P w = .ok (.value v) w := by
 simp only [execOp, resolve, List.map_toArray, hx.map]
 simp only [Sem.run_bind, Sem.run_pure, Result.andThen_ok, invoke]
 exact hr
theorem e_slices {t : TypeId} {s : ByteArray} {lo hi : Option Operand} {l h : Int} {kl kh : IntKind} {s' : ByteArray} (hx : a.eval x = .string s) (hu : UT P t .string)
 (hlo : (lo.map a.eval = some (.int kl l)) ∨ (lo = none ∧ l = 0)) (hhi : (hi.map a.eval = some (.int kh h)) ∨ (hi = none ∧ h = s.size)) (hb : 0 ≤ l ∧ l ≤ h ∧ h ≤ s.size) (hs : s.extract l.toNat h.toNat = s') :
 (execOp a.eval ⟨dst, .slice t x lo hi none, ty, pos, af, gd⟩).run P w = .ok (.value (.string s')) w := by
 subst hs
 obtain ⟨b0, b1, b2⟩ := hb
 have e0 : 0 ≤ h := by omega
 simp only [execOp, hx, Option.map_none]
 rcases hlo with hlo | ⟨rfl, rfl⟩ <;> rcases hhi with hhi | ⟨rfl, rfl⟩ <;>
  simp [Instr.sliceAt, Instr.slice, Instr.sliceBounds, Instr.sliceBound, Sem.run_bind, hu w, asIntOf, *] <;> omega
theorem run_eqb {b c : Bool} {xt : TypeId} (hu : UT P xt .bool) : (Op.equal xt (.bool b) (.bool c)).run P w = .ok (b == c) w := by
 unfold Op.equal Op.maxDepth
 rw [Op.equalIn]
 rw [Sem.run_bind, hu w, Result.andThen_ok]
 rfl
theorem r_eqb {b c e : Bool} {xt : TypeId} (hu : UT P xt .bool) (he : (b == c) = e) :
 (do eqGuard .eql xt x y (.bool b) (.bool c); binOp .eql xt (.bool b) (.bool c) : Sem Value).run P w = .ok (.bool e) w := by
 subst he
 have h1 : eqGuard .eql xt x y (.bool b) (.bool c) = pure () := rfl
 have h2 : binOp .eql xt (.bool b) (.bool c) = (do pure (.bool (← Op.equal xt (.bool b) (.bool c)))) := rfl
 rw [h1, h2, Sem.run_bind, Sem.run_pure, Result.andThen_ok, Sem.run_bind, run_eqb hu, Result.andThen_ok, Sem.run_pure]
theorem r_neb {b c e : Bool} {xt : TypeId} (hu : UT P xt .bool) (he : (!(b == c)) = e) :
 (do eqGuard .neq xt x y (.bool b) (.bool c); binOp .neq xt (.bool b) (.bool c) : Sem Value).run P w = .ok (.bool e) w := by
 subst he
 have h1 : eqGuard .neq xt x y (.bool b) (.bool c) = pure () := rfl
 have h2 : binOp .neq xt (.bool b) (.bool c) = (do pure (.bool (!(← Op.equal xt (.bool b) (.bool c))))) := rfl
 rw [h1, h2, Sem.run_bind, Sem.run_pure, Result.andThen_ok, Sem.run_bind, run_eqb hu, Result.andThen_ok, Sem.run_pure]

theorem wrap_u64 (n : Int) : IntKind.u64.wrap n = n % 18446744073709551616 := by
 have h : IntKind.u64.wrap n = n % 2 ^ 64 := by simp [IntKind.wrap, IntKind.bits, IntKind.signed]
 rw [h]
 rfl
theorem wrap_u32 (n : Int) : IntKind.u32.wrap n = n % 4294967296 := IntKind.wrap_u32 n
theorem wrap_u16 (n : Int) : IntKind.u16.wrap n = n % 65536 := by
 have h : IntKind.u16.wrap n = n % 2 ^ 16 := by simp [IntKind.wrap, IntKind.bits, IntKind.signed]
 rw [h]
 rfl
theorem wrap_u8 (n : Int) : IntKind.u8.wrap n = n % 256 := IntKind.wrap_u8 n
theorem wrap_i64 (n : Int) : IntKind.i64.wrap n = wrap64 n := IntKind.wrap_i64 n
theorem wrap_i32 (n : Int) : IntKind.i32.wrap n = wrap32 n := IntKind.wrap_i32 n
def wrap16 (n : Int) : Int := (n + 32768) % 65536 - 32768
theorem wrap_i16 (n : Int) : IntKind.i16.wrap n = wrap16 n := by
 have h : IntKind.i16.wrap n = if n % 65536 ≥ 32768 then n % 65536 - 65536 else n % 65536 := by simp [IntKind.wrap, IntKind.bits, IntKind.signed]
 rw [h]
 unfold wrap16
 omega
end

structure DF where
 slot : Option Nat
 fact : Value → World → Prop
structure Grow (G : World → World → Prop) : Prop where
 refl : ∀ w, G w w
 trans : ∀ {w w' w''}, G w w' → G w' w'' → G w w''
def dval (σ : Nat → Value) : Option Nat → Value
 | some d => σ d
 | none => undef
def DF.at_ (G : World → World → Prop) (f : DF) (σ : Nat → Value) (w : World) : Prop := ∃ w', G w' w ∧ f.fact (dval σ f.slot) w'
def dnth : List DF → Nat → DF
 | [], _ => ⟨none, fun _ _ => True⟩
 | f :: _, 0 => f
 | _ :: r, i + 1 => dnth r i
def Fcs (G : World → World → Prop) (Φ : List DF) (σ : Nat → Value) (w : World) : List Nat → Prop
 | [] => True
 | j :: r => (dnth Φ j).at_ G σ w ∧ Fcs G Φ σ w r
def onDraw (o : Oper) (j : Nat) : Bool := o.after.any fun e => Region.binds .any e && Nat.beq e.on j
def predsOk (o : Oper) (pr : List Nat) : Bool := pr.all (onDraw o)
def opOn : List Oper → Nat → Nat → Bool
 | [], _, _ => false
 | o :: _, 0, i => onDraw o i
 | _ :: r, j + 1, i => opOn r j i
def succsOk (ol : List Oper) (i : Nat) (np : List Nat) : Bool := np.all fun j => opOn ol j i
def Fls (fl : Nat → Bool) (b : Bool) : List Nat → Prop
 | [] => True
 | j :: r => fl j = b ∧ Fls fl b r
def upd (fl : Nat → Bool) (i j : Nat) : Bool := bif Nat.beq i j then true else fl j
def pd (d : Option Nat) (v : Value) (L : Env) : Env := match d with | some d => (d, v) :: L | none => L
def dv (d : Option Nat) (v : Value) : Value := match d with | some _ => v | none => undef
def slotB (n : Nat) : Option Nat → Bool
 | some d => Nat.blt d n
 | none => true

inductive DSteps (P : Program) (ol : List Oper) (n : Nat) (L : Env) (ds : List Deferred) (J : (Nat → Bool) → World → Prop) (G : World → World → Prop) (Q : Exit → Act → World → Prop) (Φ : List DF) : Nat → List Oper → Prop
 | nil {i : Nat} : DSteps P ol n L ds J G Q Φ i []
 | cons {i : Nat} {o : Oper} {r : List Oper} (pr np : List Nat) (hs : (dnth Φ i).slot = o.dst) (hn : slotB n o.dst = true) (hp : predsOk o pr = true) (hq : succsOk ol i np = true)
  (h : ∀ σ fl w, J fl w → fl i = false → Fls fl true pr → Fls fl false np → Fcs G Φ σ w pr → wpList P ol.toArray (Exit.then (fun a w' => ∃ v, a = st n (pd o.dst v L) σ ds ∧ J (upd fl i) w' ∧ G w w' ∧ (dnth Φ i).fact (dv o.dst v) w') Q) [o] (st n L σ ds) w)
  (k : DSteps P ol n L ds J G Q Φ (i + 1) r) : DSteps P ol n L ds J G Q Φ i (o :: r)

section
variable {P : Program} {Q Q' : Exit → Act → World → Prop}
end

section
variable {P : Program} {ol : List Oper} {n : Nat} {L : Env} {ds : List Deferred} {J : (Nat → Bool) → World → Prop} {G : World → World → Prop} {Φ : List DF} {m : Nat} {N : Act → World → Prop} {Q : Exit → Act → World → Prop}

structure DJ (ol : List Oper) (n : Nat) (L : Env) (ds : List Deferred) (J : (Nat → Bool) → World → Prop) (G : World → World → Prop) (Φ : List DF) (listed : Array Bool) (a : Act) (w : World) : Prop where
 ex : ∃ σ, a = st n L σ ds ∧ J (fun j => listed.getD j false) w ∧ ∀ i, i < Φ.length → listed.getD i false = true → (dnth Φ i).at_ G σ w
 closed : ∀ i o, ol[i]? = some o → listed.getD i false = true → ∀ e ∈ o.after, Region.binds .any e = true → listed.getD e.on false = true

end
def Qf (P : Program) (xs ys : Array Value) (fs : List Field) (r : Bool) : Prop := ∀ d w, (Op.eqFields (d + 1) xs ys fs).run P w = .ok r w
section
variable {P : Program} {xs ys : Array Value} {f : Field} {fs : List Field} {a b : Value} {r s : Bool} {w : World}
theorem q_nil : Qf P xs ys [] true := fun d w => by simp [Op.eqFields]
theorem part_one {t : TypeId} {u : TypeDesc} {i : Nat} {cs : Array Value} {v : Value} (hu : P.underlying t = some u) (h : cs[i]? = some v) (hs : (∀ fs, u ≠ .struct fs) ∧ (∀ n e, u ≠ .array n e)) :
 (part t cs i).run P w = .ok v w := by
 have ha : (isAgg t).run P w = .ok false w := by
  cases u <;> first | (simp [isAgg, run_underlying hu]; done) | exact absurd rfl (hs.1 _) | exact absurd rfl (hs.2 _ _)
 unfold part
 rw [Sem.run_bind, ha, Result.andThen_ok]
 simp [h]
def QE (P : Program) (t : TypeId) (a b : Value) (r : Bool) : Prop := (∃ u, P.underlying t = some u ∧ (∀ fs, u ≠ .struct fs) ∧ (∀ n e, u ≠ .array n e)) ∧ ∀ d w, (Op.equalIn (d + 1) t a b).run P w = .ok r w
theorem q_int {t : TypeId} {k k' : IntKind} {a b : Int} (h : P.underlying t = some (.int k')) : QE P t (.int k a) (.int k b) (a == b) := ⟨⟨_, h, (by intro _ h; cases h), (by intro _ _ h; cases h)⟩, fun d w => run_equalIn_int w d t k k' a b h⟩
theorem q_bool {t : TypeId} {a b : Bool} (h : P.underlying t = some .bool) : QE P t (.bool a) (.bool b) (a == b) := ⟨⟨_, h, (by intro _ h; cases h), (by intro _ _ h; cases h)⟩, fun d w => run_equalIn_bool' w d t a b h⟩
theorem q_str {t : TypeId} {a b : ByteArray} (h : P.underlying t = some .string) : QE P t (.string a) (.string b) (a.toList == b.toList) := ⟨⟨_, h, (by intro _ h; cases h), (by intro _ _ h; cases h)⟩, fun d w => run_equalIn_string w d t a b h⟩
theorem q_cons (hn : (f.name == "_") = false) (ha : xs[f.offset]? = some a) (hb : ys[f.offset]? = some b) (he : QE P f.type a b r) (hr : Qf P xs ys fs s) : Qf P xs ys (f :: fs) (r && s) := fun d w => by
 obtain ⟨⟨u, hu, hs⟩, hq⟩ := he
 have hn' : f.name ≠ "_" := by simpa using hn
 rw [Op.eqFields]
 simp only [if_pos hn', Sem.run_bind, part_one hu ha hs, part_one hu hb hs, hq, Result.andThen_ok]
 cases r
 ·simp
 ·simpa using hr d w
theorem r_eqs {xt : TypeId} {fs : List Field} {x y : Operand} (hu : P.underlying xt = some (.struct fs.toArray)) (hp : P.stoodInHeld xt = false) (hm : P.eqGuardType P.depth xt = false) (h : Qf P xs ys fs r) :
 (do eqGuard .eql xt x y (.agg xs) (.agg ys); binOp .eql xt (.agg xs) (.agg ys) : Sem Value).run P w = .ok (.bool r) w := by
 rw [Sem.run_bind, run_eqGuard_agg w _ _ _ _ _ _ hm, Result.andThen_ok, run_eql_struct]
 have hf : P.fieldsOf xt = fs.toArray := by simp [Program.fieldsOf, hu]
 rw [run_equalIn_struct (P := P) w 9999 xt xs ys (by rw [hf]; exact hu) hp, hf]
 rw [show fs.toArray.toList = fs by simp, h 9998 w, Result.andThen_ok]
theorem r_nes {xt : TypeId} {fs : List Field} {x y : Operand} (hu : P.underlying xt = some (.struct fs.toArray)) (hp : P.stoodInHeld xt = false) (hm : P.eqGuardType P.depth xt = false) (h : Qf P xs ys fs r) :
 (do eqGuard .neq xt x y (.agg xs) (.agg ys); binOp .neq xt (.agg xs) (.agg ys) : Sem Value).run P w = .ok (.bool (!r)) w := by
 rw [Sem.run_bind, run_eqGuard_agg w _ _ _ _ _ _ hm, Result.andThen_ok, run_neq_struct]
 have hf : P.fieldsOf xt = fs.toArray := by simp [Program.fieldsOf, hu]
 rw [run_equalIn_struct (P := P) w 9999 xt xs ys (by rw [hf]; exact hu) hp, hf]
 rw [show fs.toArray.toList = fs by simp, h 9998 w, Result.andThen_ok]
end
end Go.Proofs.Ytbhekpcimmaijaa.B
namespace Go.Proofs.Ytbhekpcimmaijaa.B
open Go Go.RowKit Go.MapKept

def aidx {β : Type} : List (Int × β) → Int → Option (Nat × β)
 | [], _ => none
 | p :: r, k => if k = p.1 then some (0, p.2) else (aidx r k).map fun q => (q.1 + 1, q.2)
def aget {β : Type} (m : List (Int × β)) (k : Int) : Option β := (aidx m k).map (·.2)
def aset {β : Type} (m : List (Int × β)) (k : Int) (v : β) : List (Int × β) := match aidx m k with
 | some (i, _) => m.set i (k, v)
 | none => m ++ [(k, v)]
def Ent {β : Type} (kk : IntKind) (ev : β → Value) (es : List MapEntry) (m : List (Int × β)) : Prop :=
 es.map (fun e => (e.key, e.val)) = m.map fun p => (Value.int kk p.1, ev p.2)
section
variable {β : Type} {kk : IntKind} {ev : β → Value}
theorem find_ent {es : List MapEntry} {m : List (Int × β)} {k' : IntKind} (h : Ent kk ev es m) (key : Int) : ∀ i, Instr.findNow (.int k') (.int kk key) es i = some ((aidx m key).map fun q => (i + q.1, ev q.2)) := by
 induction es generalizing m with
 | nil =>
  intro i
  cases m with
  | nil => rfl
  | cons p r => simp [Ent] at h
 | cons e es ih =>
  intro i
  cases m with
  | nil => simp [Ent] at h
  | cons p r =>
   simp only [Ent, List.map_cons, List.cons.injEq, Prod.mk.injEq] at h
   obtain ⟨⟨h1, h2⟩, h3⟩ := h
   have hs : Instr.sameNow (.int k') (.int kk key) e.key = some (key == p.1) := by rw [h1]; simp [Instr.sameNow]
   rw [Instr.findNow, hs]
   by_cases hk : key = p.1
   ·subst hk
    simp [aidx, h2]
   ·have : (key == p.1) = false := by simpa using hk
    rw [this]
    simp only []
    rw [ih h3 (i + 1)]
    simp only [aidx, if_neg hk, Option.map_map]
    congr 1
    cases aidx r key with
    | none => rfl
    | some q => simp; omega
theorem aidx_lt {m : List (Int × β)} {k : Int} {i : Nat} {b : β} (h : aidx m k = some (i, b)) : m[i]? = some (k, b) := by
 induction m generalizing i with
 | nil => simp [aidx] at h
 | cons p r ih =>
  simp only [aidx] at h
  split at h
  ·rename_i hk
   simp at h
   obtain ⟨rfl, rfl⟩ := h
   simp [hk]
  ·cases hr : aidx r k with
   | none => simp [hr] at h
   | some q =>
    simp [hr] at h
    obtain ⟨rfl, rfl⟩ := h
    simpa using ih hr
def RdM (kk : IntKind) (ev : β → Value) (F : Nat → Prop) (w : World) (A : Option Nat) (m : List (Int × β)) : Prop :=
 (A = none ∧ m = []) ∨ ∃ r es c, A = some r ∧ F r ∧ w.heap[r]? = some (.map es c) ∧ Ent kk ev es.toList m
variable {P : Program} {M I F : Nat → Prop} {w0 wr w w' : World} {R : List Rsc} {A : Option Nat} {m : List (Int × β)} {X : Rsc}
variable {a : Act} {dst : Option Nat} {ty : TypeId} {pos : String} {af : Array Edge} {gd : Option (Nat × Bool)} {x y : Operand} {t kt et : TypeId} {k' : IntKind} {key : Int} {z : Value}
theorem run_lookup (hu : UT P t (.map kt et)) (hk : P.underlying kt = some (.int k')) (hz : ZR P et z) (hr : RdM kk ev F w A m) (ok : Bool) :
 (Instr.lookup t (.map A) (.int kk key) ok).run P w = .ok (if ok then .tuple #[(aget m key).elim z ev, .bool (aget m key).isSome] else (aget m key).elim z ev) w := by
 have hck : ∀ e, (Instr.checkKey e 10000 kt (.int kk key)).run P w = .ok () w := by
  intro e
  unfold Instr.checkKey
  rw [Sem.run_bind, run_underlying hk, Result.andThen_ok]
  rfl
 rcases hr with ⟨rfl, rfl⟩ | ⟨r, es, c, rfl, _, hh, he⟩
 ·unfold Instr.lookup
  simp only [Sem.run_bind, hu w, Result.andThen_ok, Sem.run_pure, hck]
  rw [run_findKey hk (show Instr.findNow (.int k') (.int kk key) (#[] : Array MapEntry).toList 0 = some none from rfl)]
  simp only [Result.andThen_ok, Sem.run_bind, hz w, Sem.run_pure]
  cases ok <;> simp [aget, aidx]
 ·unfold Instr.lookup
  have hg : (getObj r).run P w = .ok (.map es c) w := by simp [getObj, Sem.run, hh]
  simp only [Sem.run_bind, hu w, Result.andThen_ok, Sem.run_pure, hck, hg]
  rw [run_findKey hk (find_ent he key 0)]
  cases hi : aidx m key with
  | none => simp only [Option.map_none, Result.andThen_ok, Sem.run_bind, hz w, Sem.run_pure]; cases ok <;> simp [aget, hi]
  | some q => simp only [Option.map_some, Result.andThen_ok, Sem.run_bind, Sem.run_pure]; cases ok <;> simp [aget, hi]
variable {ops : Array Oper} {Q : Exit → Act → World → Prop} {n d : Nat} {L : Env} {σ : Nat → Value} {ds : List Deferred} {rest : List Oper}
end
end Go.Proofs.Ytbhekpcimmaijaa.B
namespace Go.Proofs.Ytbhekpcimmaijaa.B
open Go Go.RowKit

section
variable {P : Program} {ops : Array Oper} {Q : Exit → Act → World → Prop} {n : Nat} {L : Env} {σ : Nat → Value} {ds : List Deferred} {w : World} {rest : List Oper}
variable {d : Nat} {ty : TypeId} {pos : String} {af : Array Edge} {v v1 v2 v3 : Value} {x y z : Operand} {gd : Option (Nat × Bool)} {dst : Option Tmp} {a : Act}
variable {M I F : Nat → Prop} {w0 wr wf : World} {R : List Rsc} {α : Type} {E : Enc α}

theorem e_aidx {t e : TypeId} {b off m sz : Nat} {i : Int} {k' : IntKind} (hx : a.eval x = .pointer (some ⟨b, off, none⟩)) (hy : a.eval y = .int k' i) (hu : UT P t (.array m e)) (hs : SZ P e sz) (hi : 0 ≤ i ∧ i < (m : Int)) :
 (execOp a.eval ⟨dst, .indexAddr t x y, ty, pos, af, gd⟩).run P w = .ok (.value (.pointer (some ⟨b, off + i.toNat * sz, none⟩))) w := by
 simp only [execOp, hx, hy]
 simp [Instr.indexAt, Instr.sureAddr, asIntOf, Sem.run_bind, hu w, hi, hs w, add_none]
end

def loop {S O : Type} (f : S → Option (S ⊕ O)) (s : S) : Option O := (f s) >>= fun z => match z with
 | .inl s' => loop f s'
 | .inr o => some o partial_fixpoint
theorem loop_eq {S O : Type} (f : S → Option (S ⊕ O)) (s : S) : loop f s = (f s).bind fun z => match z with
 | .inl s' => loop f s'
 | .inr o => some o := by
 rw [loop]; rfl
theorem loop_in {S O : Type} {f : S → Option (S ⊕ O)} {s s' : S} (h : f s = some (.inl s')) : loop f s = loop f s' := by rw [loop_eq, h]; rfl
theorem loop_out {S O : Type} {f : S → Option (S ⊕ O)} {s : S} {o : O} (h : f s = some (.inr o)) : loop f s = some o := by rw [loop_eq, h]; rfl
theorem loop_ind {S O : Type} {f : S → Option (S ⊕ O)} (motive : S → O → Prop) (h1 : ∀ s o, f s = some (.inr o) → motive s o) (h2 : ∀ s s' o, f s = some (.inl s') → loop f s' = some o → motive s' o → motive s o)
 (s : S) (o : O) (h : loop f s = some o) : motive s o := by
 have := loop.partial_correctness f (fun s o => loop f s = some o ∧ motive s o) (fun lp ih s o hs => by
  cases hf : f s with
  | none => rw [hf] at hs; cases hs
  | some z =>
   rw [hf] at hs
   cases z with
   | inl s' =>
    have h3 := ih s' o hs
    exact ⟨(loop_in hf).trans h3.1, h2 s s' o hf h3.1 h3.2⟩
   | inr o' =>
    have : o' = o := Option.some.inj hs
    subst this
    exact ⟨loop_out hf, h1 s o' hf⟩) s o h
 exact this.2

section
variable {P : Program} {Q : Exit → Act → World → Prop} {N : Act → World → Prop} {a : Act} {w : World}
end
structure Ep (F : Nat → Prop) (R0 : List Rsc) (w : World) (I : Nat → Prop) (wr : World) : Prop where
 up : Up F w I wr
 new : ∀ k, I k → F k ∨ On R0 k ∨ w.heap.size ≤ k
section
variable {F I : Nat → Prop} {R0 R : List Rsc} {w wr w1 w2 : World} {α : Type} {E : Enc α}
structure Frz (F : Nat → Prop) (Rin : List Rsc) (w : World) (I' : Nat → Prop) (w' : World) (Rout : List Rsc) : Prop where
 up : Up F w I' w'
 new : ∀ k, I' k → F k ∨ On Rin k ∨ w.heap.size ≤ k
 off : ∀ k, I' k → Off w' Rout k
end
section
variable {P : Program} {ops : Array Oper} {Q : Exit → Act → World → Prop} {n : Nat} {L : Env} {σ : Nat → Value} {ds : List Deferred} {w : World} {rest : List Oper}
variable {d : Nat} {ty : TypeId} {pos : String} {af : Array Edge} {v : Value} {x y : Operand} {gd : Option (Nat × Bool)} {dst : Option Tmp} {a : Act} {α : Type}
def Pl (A : Option Addr) (sz : Nat) (i : Int) (p : Addr) : Prop := ∃ a0, A = some a0 ∧ p = a0.add (i.toNat * sz)
theorem e_idx {t e : TypeId} {A : Option Addr} {m c sz : Nat} {i : Int} {k' : IntKind} {p : Addr} (hx : a.eval x = .slice A m c) (hy : a.eval y = .int k' i) (hu : UT P t (.slice e)) (hs : SZ P e sz) (hp : Pl A sz i p) (hi : 0 ≤ i ∧ i < (m : Int)) :
 (execOp a.eval ⟨dst, .indexAddr t x y, ty, pos, af, gd⟩).run P w = .ok (.value (.pointer (some p))) w := by
 obtain ⟨a0, rfl, rfl⟩ := hp
 simp only [execOp, hx, hy]
 rw [Sem.run_bind, run_indexAddr hu hs hi.1 hi.2]
 rfl
variable {I F : Nat → Prop} {wr wf : World} {E : Enc α}
end

section
variable {α : Type} {E : Enc α} {F I : Nat → Prop} {w w' wr wf w0 : World} {M : Nat → Prop} {R : List Rsc}
structure Dj (M I : Nat → Prop) (w0 wr s0 : World) (R : List Rsc) (w : World) : Prop where
 hp : Hp M I w0 wr w R
 le : s0.heap.size ≤ w.heap.size
structure Fr (s0 w : World) (X : Rsc) : Prop where
 at_ : ∀ p ∈ X, s0.heap.size ≤ p.1 ∧ w.heap[p.1]? = some p.2
 nodup : (X.map (·.1)).Nodup
end
section
variable {P : Program} {ops : Array Oper} {N : Act → World → Prop} {Q : Exit → Act → World → Prop} {n : Nat} {L : Env} {σ : Nat → Value} {ds : List Deferred} {w : World} {rest : List Oper}
variable {d : Nat} {ty : TypeId} {pos : String} {af : Array Edge} {v : Value} {x y : Operand} {gd : Option (Nat × Bool)} {dst : Option Tmp} {a : Act}
theorem e_makeIface {t : TypeId} {td : TypeDesc} (hx : a.eval x = v) (hu : UT P t td) (h : (match td with | .interface _ => false | _ => true) = true) : (execOp a.eval ⟨dst, .makeInterface t x, ty, pos, af, gd⟩).run P w = .ok (.value (.iface t v)) w := by
 simp only [execOp, hx]
 cases td <;> first | (simp at h; done) | simp [Instr.makeInterface, Sem.run_bind, hu w]
end
section
variable {P : Program} {w : World} {ty : TypeId} {pos : String} {af : Array Edge} {x : Operand} {gd : Option (Nat × Bool)} {dst : Option Tmp} {a : Act} {α : Type} {E : Enc α} {I F : Nat → Prop} {wr wf : World}
end
end Go.Proofs.Ytbhekpcimmaijaa.B
