/- Step lemmas of this session's own: a frame is a list of slots over an unknown frame; what a call owns is a list of blocks. -/
import Derived.Below
import Derived.Tactics
import Derived.Orders
import Derived.Defers
import Derived.KernelRfl
set_option linter.unusedVariables false
set_option linter.unusedSimpArgs false
set_option linter.unusedSectionVars false
namespace Go.Proofs.Ytcnchjlomcafeaa.B
open Go Go.RowKit

abbrev Env := List (Nat × Value)
/-- A frame of n slots. -/
def fr (n : Nat) (f : Nat → Value) : Array Value := Array.ofFn (n := n) fun i => f i.val
/-- Slots over an unknown frame. -/
def ov : Env → (Nat → Value) → Nat → Value
  | [], f, t => f t
  | p :: r, f, t => bif Nat.beq p.1 t then p.2 else ov r f t
abbrev st (n : Nat) (L : Env) (σ : Nat → Value) (ds : List Deferred) : Act := ⟨fr n (ov L σ), ds⟩

theorem fr_get {n t : Nat} {f : Nat → Value} (h : t < n) : (fr n f)[t]? = some (f t) := by
  simp [fr, h]
theorem fr_getD {n t : Nat} {f : Nat → Value} (h : t < n) (u : Value) : (fr n f).getD t u = f t := by
  simp [fr, h]
theorem blt {a b : Nat} (h : Nat.blt a b = true) : a < b := by
  exact Nat.le_of_ble_eq_true h
theorem fr_set {n d : Nat} {L : Env} {σ : Nat → Value} {v : Value} (h : d < n) :
    (fr n (ov L σ)).setIfInBounds d v = fr n (ov ((d, v) :: L) σ) := by
  apply Array.ext_getElem?
  intro i
  by_cases hi : i < n
  · rw [fr_get hi, Array.getElem?_setIfInBounds]
    by_cases hd : d = i
    · subst hd; simp [ov, fr, h]
    · rw [if_neg hd, fr_get hi]
      have : Nat.beq d i = false := by
        cases hb : Nat.beq d i
        · rfl
        · exact absurd (Nat.eq_of_beq_eq_true hb) hd
      simp [ov, this]
  · have h1 : (fr n (ov ((d, v) :: L) σ)).size = n := by simp [fr]
    have h2 : ((fr n (ov L σ)).setIfInBounds d v).size = n := by simp [fr]
    rw [Array.getElem?_eq_none (by omega), Array.getElem?_eq_none (by omega)]

section
variable {P : Program} {ops : Array Oper} {Q : Exit → Act → World → Prop} {n : Nat} {L : Env} {σ : Nat → Value} {ds : List Deferred} {w : World} {rest : List Oper}

/-- A slot that is read. -/
theorem tm {t : Nat} {v : Value} (h : Nat.blt t n = true) (hv : ov L σ t = v) : (st n L σ ds).eval (.tmp t) = v := by
  show (fr n (ov L σ)).getD t undef = v
  rw [fr_getD (blt h), hv]
theorem put_st {d : Nat} {v : Value} (h : Nat.blt d n = true) : (st n L σ ds).put (some d) v = st n ((d, v) :: L) σ ds := by
  show (⟨(fr n (ov L σ)).setIfInBounds d v, ds⟩ : Act) = _
  rw [fr_set (blt h)]

/-- An operation that yields a value. -/
theorem sv {o : Oper} {d : Nat} {v : Value} {w' : World} (hg : o.guard = none) (hd : o.dst = some d) (hn : Nat.blt d n = true)
    (hx : (execOp (st n L σ ds).eval o).run P w = .ok (.value v) w') (k : wpList P ops Q rest (st n ((d, v) :: L) σ ds) w') :
    wpList P ops Q (o :: rest) (st n L σ ds) w := by
  refine wpList_plain hg fun K hK => ?_
  unfold Oper.wp
  rw [hx, Oper.upon_value, hd, put_st hn]
  exact hK _ _ k
/-- An operation that yields nothing (a store). -/
theorem su {o : Oper} {w' : World} (hg : o.guard = none) (hd : o.dst = none)
    (hx : (execOp (st n L σ ds).eval o).run P w = .ok .skip w') (k : wpList P ops Q rest (st n L σ ds) w') :
    wpList P ops Q (o :: rest) (st n L σ ds) w := by
  refine wpList_plain hg fun K hK => ?_
  unfold Oper.wp
  rw [hx, Oper.upon_skip, hd]
  exact hK _ _ k
def dstAt : List Oper → Nat → Option Tmp
  | [], _ => none
  | o :: _, 0 => o.dst
  | _ :: r, j + 1 => dstAt r j
theorem dstAt_eq (l : List Oper) : ∀ j, (l[j]?).bind (·.dst) = dstAt l j := by
  induction l with
  | nil => intro j; simp [dstAt]
  | cons o r ih =>
    intro j
    cases j with
    | zero => simp [dstAt]
    | succ j => simp only [List.getElem?_cons_succ, dstAt]; exact ih j
variable {ol : List Oper}
/-- A guarded operation that is carried out. -/
theorem gon {d : Option Tmp} {op : Op} {ty : TypeId} {pos : String} {af : Array Edge} {j dj : Nat} {want : Bool}
    (hj : dstAt ol j = some dj) (hn : Nat.blt dj n = true) (hv : ov L σ dj = .bool want)
    (k : wpList P ol.toArray Q (⟨d, op, ty, pos, af, none⟩ :: rest) (st n L σ ds) w) :
    wpList P ol.toArray Q (⟨d, op, ty, pos, af, some (j, want)⟩ :: rest) (st n L σ ds) w := by
  have hj' : (ol[j]?).bind (·.dst) = some dj := by rw [dstAt_eq]; exact hj
  have hw : Region.wanted ⟨d, op, ty, pos, af, some (j, want)⟩ (yielded ol.toArray (st n L σ ds).tmps) = true := by
    simp [Region.wanted, yielded, hj', fr_get (blt hn), hv]
  have h1 : Region.wanted (⟨d, op, ty, pos, af, none⟩ : Oper) (yielded ol.toArray (st n L σ ds).tmps) = true := rfl
  unfold wpList at k ⊢
  rw [if_pos h1] at k
  rw [if_pos hw]
  exact k
/-- A guarded operation that is passed over. -/
theorem goff {d : Nat} {op : Op} {ty : TypeId} {pos : String} {af : Array Edge} {j dj : Nat} {want : Bool}
    (hj : dstAt ol j = some dj) (hn : Nat.blt dj n = true) (hv : ov L σ dj = .bool (!want)) (hd : Nat.blt d n = true)
    (k : wpList P ol.toArray Q rest (st n ((d, undef) :: L) σ ds) w) :
    wpList P ol.toArray Q (⟨some d, op, ty, pos, af, some (j, want)⟩ :: rest) (st n L σ ds) w := by
  have hj' : (ol[j]?).bind (·.dst) = some dj := by rw [dstAt_eq]; exact hj
  have hw : Region.wanted ⟨some d, op, ty, pos, af, some (j, want)⟩ (yielded ol.toArray (st n L σ ds).tmps) = false := by
    simp [Region.wanted, yielded, hj', fr_get (blt hn), hv]
  unfold wpList
  rw [hw, put_st hd]
  exact k
/-! ### control -/
/-- What follows normally; all other ends. -/
abbrev wk (P : Program) (c : Code) (N : Act → World → Prop) (Q : Exit → Act → World → Prop) : Act → World → Prop := c.wp P (Exit.then N Q)
/-- Ends as seen inside a block. -/
def Qx (id : Nat) (N : Act → World → Prop) (Q : Exit → Act → World → Prop) : Exit → Act → World → Prop
  | .exit j, a, w => if j = id then N a w else Q (.exit j) a w
  | e, a, w => Q e a w
variable {N : Act → World → Prop} {a : Act}
theorem k_seq {x y : Code} (h : wk P x (wk P y N Q) Q a w) : wk P (.seq x y) N Q a w := by
  refine wp_seq (wp_mono h fun e a w he => ?_)
  cases e <;> exact he
theorem k_region {id : Nat} {l : List Oper} (h : wpList P l.toArray (Exit.then N Q) l a w) : wk P (.region id l.toArray false) N Q a w := wp_region_lit h
theorem k_nil {a : Act} (h : N a w) : wpList P ops (Exit.then N Q) [] a w := h
theorem k_skip (h : N a w) : wk P .skip N Q a w := wp_skip h
theorem k_ret (h : Q .ret a w) : wk P .ret N Q a w := wp_ret h
theorem k_exit {id : Nat} (h : Q (.exit id) a w) : wk P (.exit id) N Q a w := wp_exit h
theorem k_block {id : Nat} {c : Code} (h : wk P c N (Qx id N Q) a w) : wk P (.block id c) N Q a w := by
  refine wp_block (wp_mono h fun e a w he => ?_)
  cases e <;> first | exact he | (simp only [Exit.inBlock, Exit.then, Qx] at he ⊢; exact he)
theorem q_here {id : Nat} (h : N a w) : Qx id N Q (.exit id) a w := by simp only [Qx, if_true]; exact h
theorem q_ret {id : Nat} (h : Q .ret a w) : Qx id N Q .ret a w := h
theorem q_panic {id : Nat} {c : List PanicEntry} (h : Q (.panic c) a w) : Qx id N Q (.panic c) a w := h
theorem k_if {c : Operand} {x y : Code} {b : Bool} (hc : a.eval c = .bool b) (h1 : b = true → wk P x N Q a w) (h2 : b = false → wk P y N Q a w) :
    wk P (.cond c x y) N Q a w := wp_cond_split hc h1 h2
theorem k_if_t {c : Operand} {x y : Code} (hc : a.eval c = .bool true) (h1 : wk P x N Q a w) : wk P (.cond c x y) N Q a w := wp_cond_true hc h1
theorem k_if_f {c : Operand} {x y : Code} (hc : a.eval c = .bool false) (h1 : wk P y N Q a w) : wk P (.cond c x y) N Q a w := wp_cond_false hc h1
/-- A cut: what holds behind a piece of code. -/
theorem k_cut {x : Code} (J : Act → World → Prop) (h : wk P x J Q a w) (k : ∀ a w, J a w → N a w) : wk P x N Q a w :=
  wp_mono h fun e a w he => by cases e <;> first | exact k _ _ he | exact he

/-! ### a frame is seen through some of its slots -/
def AllEq : Env → (Nat → Value) → Prop
  | [], _ => True
  | p :: r, f => f p.1 = p.2 ∧ AllEq r f
theorem ov_absorb {L : Env} {f : Nat → Value} (h : AllEq L f) : ov L f = f := by
  induction L with
  | nil => rfl
  | cons p r ih =>
    funext t
    simp only [ov, ih h.2]
    cases hb : Nat.beq p.1 t
    · rfl
    · rw [← Nat.eq_of_beq_eq_true hb]; exact h.1.symm
/-! ### entering -/
def argEnv : Nat → List Value → Env
  | _, [] => []
  | i, v :: r => (i, v) :: argEnv (i + 1) r
theorem ov_argEnv (l : List Value) : ∀ i t, ov (argEnv i l) (fun _ => undef) t = if i ≤ t then l.getD (t - i) undef else undef := by
  induction l with
  | nil => intro i t; simp [argEnv, ov]
  | cons v r ih =>
    intro i t
    simp only [argEnv, ov, ih]
    cases hb : Nat.beq i t
    · have hne : i ≠ t := fun e => by rw [e, Nat.beq_refl] at hb; cases hb
      simp only [cond_false]
      by_cases hle : i + 1 ≤ t
      · rw [if_pos hle, if_pos (by omega)]
        have : t - i = (t - (i + 1)) + 1 := by omega
        rw [this]; simp
      · rw [if_neg hle, if_neg (by omega)]
    · have := Nat.eq_of_beq_eq_true hb
      subst this
      simp
theorem enter_fr (l : List Value) (n : Nat) (h : l.length ≤ n) : l.toArray ++ Array.replicate (n - l.toArray.size) undef = fr n (ov (argEnv 0 l) fun _ => undef) := by
  apply Array.ext_getElem?
  intro i
  by_cases hi : i < n
  · rw [fr_get hi, ov_argEnv]
    simp only [Nat.zero_le, if_true, Nat.sub_zero]
    rw [Array.getElem?_append]
    by_cases hl : i < l.length
    · rw [if_pos (by simpa using hl)]
      simp [List.getD_eq_getElem?_getD, hl]
    · rw [if_neg (by simpa using hl)]
      simp only [List.size_toArray]
      rw [Array.getElem?_replicate, if_pos (by omega), List.getD_eq_getElem?_getD, List.getElem?_eq_none (by omega)]
      rfl
  · rw [Array.getElem?_eq_none (by simp; omega), Array.getElem?_eq_none (by simp [fr]; omega)]
theorem enter {P : Program} {f : FuncId} {fn : Func} {c : Code} {l : List Value} {w : World} {R : Ending → World → Prop} {n : Nat}
    {L : Env} (hf : P.funcs[f]? = some fn) (hb : fn.body = some c) (hn : fn.ntmps = n) (hl : Nat.ble l.length n = true) (hL : argEnv 0 l = L)
    (h : wk P c (bodyPost P fn R .normal) (bodyPost P fn R) (st n L (fun _ => undef) []) w) : Calls P f l.toArray w R := by
  subst hL
  refine calls_of_wp hf hb ?_
  rw [hn, enter_fr l n (Nat.le_of_ble_eq_true hl)]
  exact wp_mono h fun e a w he => by cases e <;> exact he

/-- A call that returns. -/
def Ret (P : Program) (f : FuncId) (args : List Value) (w : World) (Φ : Value → World → Prop) : Prop :=
  Calls P f args.toArray w fun e w' => ∃ v, e = .returned v ∧ Φ v w'
theorem Ret.mono {P : Program} {f : FuncId} {args : List Value} {w : World} {Φ Ψ : Value → World → Prop} (h : Ret P f args w Φ) (k : ∀ v w', Φ v w' → Ψ v w') : Ret P f args w Ψ :=
  Calls.mono h fun e w' ⟨v, he, hv⟩ => ⟨v, he, k v w' hv⟩
/-- A call that returns, or gives up with a panic. -/
def RetP (P : Program) (f : FuncId) (args : List Value) (w : World) (Φ : Value → World → Prop) (Ψ : List PanicEntry → World → Prop) : Prop :=
  Calls P f args.toArray w fun e w' => (∃ v, e = .returned v ∧ Φ v w') ∨ (∃ c, e = .panicked c ∧ Ψ c w')
theorem RetP.mono {P : Program} {f : FuncId} {args : List Value} {w : World} {Φ Φ' : Value → World → Prop} {Ψ Ψ' : List PanicEntry → World → Prop} (h : RetP P f args w Φ Ψ) (k : ∀ v w', Φ v w' → Φ' v w') (k' : ∀ c w', Ψ c w' → Ψ' c w') : RetP P f args w Φ' Ψ' :=
  Calls.mono h fun e w' he => he.imp (fun ⟨v, he, hv⟩ => ⟨v, he, k v w' hv⟩) (fun ⟨c, he, hv⟩ => ⟨c, he, k' c w' hv⟩)

/-- The results as they are handed back. -/
inductive Res (P : Program) (w : World) (f : Nat → Value) (n : Nat) : List ResultVar → List Value → Prop
  | nil : Res P w f n [] []
  | tmp {t : Nat} {v : Value} {r : List ResultVar} {vs : List Value} (h : Nat.blt t n = true) (hv : f t = v) (k : Res P w f n r vs) : Res P w f n (.tmp t :: r) (v :: vs)
  | cell {t : Nat} {ty : TypeId} {a : Addr} {v : Value} {r : List ResultVar} {vs : List Value} (h : Nat.blt t n = true) (hv : f t = .pointer (some a))
      (hl : (loadVar ty a).run P w = .ok v w) (k : Res P w f n r vs) : Res P w f n (.cell t ty :: r) (v :: vs)
def pack : List Value → Value
  | [v] => v
  | vs => .tuple vs.toArray
def rv (tmps : Array Value) : ResultVar → Sem Value
  | .tmp t => pure (tmps.getD t undef)
  | .cell a t => do loadVar t (← asAddr (tmps.getD a undef))
theorem results_eq (fn : Func) (tmps : Array Value) : results fn tmps = (fn.results.mapM (rv tmps) >>= fun vs => pure (if h : vs.size = 1 then vs[0] else .tuple vs)) := by
  unfold results
  congr 1
theorem res_list {P : Program} {w : World} {f : Nat → Value} {n : Nat} {rs : List ResultVar} {vs : List Value} (h : Res P w f n rs vs) :
    (rs.mapM (m := Sem) (rv (fr n f))).run P w = .ok vs w := by
  induction h with
  | nil => rfl
  | tmp h hv k ih =>
    rw [List.mapM_cons]
    simp only [Sem.run_bind, rv, fr_getD (blt h), hv, Sem.run_pure, Result.andThen_ok, ih]
  | cell h hv hl k ih =>
    rw [List.mapM_cons]
    simp only [Sem.run_bind, rv, fr_getD (blt h), hv, asAddr, Sem.run_pure, Result.andThen_ok, hl, ih]
theorem res_run {P : Program} {w : World} {f : Nat → Value} {n : Nat} {rs : List ResultVar} {vs : List Value} (h : Res P w f n rs vs) {fn : Func} (hr : fn.results = rs.toArray) :
    (results fn (fr n f)).run P w = .ok (pack vs) w := by
  rw [results_eq, hr]
  simp only [List.mapM_toArray, Sem.run_bind]
  rw [show ∀ (s : Sem (List Value)), (List.toArray <$> s : Sem (Array Value)) = s >>= fun l => pure l.toArray from fun s => rfl]
  simp only [Sem.run_bind, res_list h, Result.andThen_ok, Sem.run_pure]
  rcases vs with _ | ⟨v, _ | ⟨u, vs⟩⟩ <;> simp [pack]
theorem k_end {P : Program} {fn : Func} {Φ : Value → World → Prop} {n : Nat} {L : Env} {σ : Nat → Value} {w : World} {rs : List ResultVar} {vs : List Value} {v : Value}
    (hr : fn.results = rs.toArray) (h : Res P w (ov L σ) n rs vs) (hv : pack vs = v) (k : Φ v w) :
    bodyPost P fn (fun e w' => ∃ v, e = .returned v ∧ Φ v w') .ret (st n L σ []) w :=
  ⟨rfl, v, by rw [← hv]; exact res_run h hr, v, rfl, k⟩
theorem k_endn {P : Program} {fn : Func} {Φ : Value → World → Prop} {n : Nat} {L : Env} {σ : Nat → Value} {w : World} {rs : List ResultVar} {vs : List Value} {v : Value}
    (hr : fn.results = rs.toArray) (h : Res P w (ov L σ) n rs vs) (hv : pack vs = v) (k : Φ v w) :
    bodyPost P fn (fun e w' => ∃ v, e = .returned v ∧ Φ v w') .normal (st n L σ []) w :=
  ⟨rfl, v, by rw [← hv]; exact res_run h hr, v, rfl, k⟩
end
end Go.Proofs.Ytcnchjlomcafeaa.B
