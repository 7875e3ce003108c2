/- LA: several texts in one. -/
import Derived.Below
import Derived.Tactics
import Derived.Orders
import Derived.Defers
import Derived.KernelRfl
import Derived.Laws.Bits
import Derived.Maps.AppendAt
import Derived.Laws.MakeOwn
import Derived.Laws.StructEq
import Derived.MapKept
import Derived.Recover
set_option linter.unusedVariables false
set_option linter.unusedSimpArgs false
set_option linter.unusedSectionVars false
namespace Go.Proofs.Ytbdbmklkgjbehaa.B
open Go Go.RowKit

abbrev Env := List (Nat × Value)
def fr (n : Nat) (f : Nat → Value) : Array Value := Array.ofFn (n := n) fun i => f i.val
def ov : Env → (Nat → Value) → Nat → Value
  | [], f, t => f t
  | p :: r, f, t => bif Nat.beq p.1 t then p.2 else ov r f t
abbrev st (n : Nat) (L : Env) (σ : Nat → Value) (ds : List Deferred) : Act := ⟨fr n (ov L σ), ds⟩

theorem fr_get {n t : Nat} {f : Nat → Value} (h : t < n) : (fr n f)[t]? = some (f t) := by
  simp [fr, h]
theorem fr_getD {n t : Nat} {f : Nat → Value} (h : t < n) (u : Value) : (fr n f).getD t u = f t := by
  simp [fr, h]
theorem blt {a b : Nat} (h : Nat.blt a b = true) : a < b := by
  exact Nat.le_of_ble_eq_true h
theorem fr_set {n d : Nat} {L : Env} {σ : Nat → Value} {v : Value} (h : d < n) :
    (fr n (ov L σ)).setIfInBounds d v = fr n (ov ((d, v) :: L) σ) := by
  apply Array.ext_getElem?
  intro i
  by_cases hi : i < n
  · rw [fr_get hi, Array.getElem?_setIfInBounds]
    by_cases hd : d = i
    · subst hd; simp [ov, fr, h]
    · rw [if_neg hd, fr_get hi]
      have : Nat.beq d i = false := by
        cases hb : Nat.beq d i
        · rfl
        · exact absurd (Nat.eq_of_beq_eq_true hb) hd
      simp [ov, this]
  · have h1 : (fr n (ov ((d, v) :: L) σ)).size = n := by simp [fr]
    have h2 : ((fr n (ov L σ)).setIfInBounds d v).size = n := by simp [fr]
    rw [Array.getElem?_eq_none (by omega), Array.getElem?_eq_none (by omega)]

section
variable {P : Program} {ops : Array Oper} {Q : Exit → Act → World → Prop} {n : Nat} {L : Env} {σ : Nat → Value} {ds : List Deferred} {w : World} {rest : List Oper}

theorem tm {t : Nat} {v : Value} (h : Nat.blt t n = true) (hv : ov L σ t = v) : (st n L σ ds).eval (.tmp t) = v := by
  show (fr n (ov L σ)).getD t undef = v
  rw [fr_getD (blt h), hv]
theorem put_st {d : Nat} {v : Value} (h : Nat.blt d n = true) : (st n L σ ds).put (some d) v = st n ((d, v) :: L) σ ds := by
  show (⟨(fr n (ov L σ)).setIfInBounds d v, ds⟩ : Act) = _
  rw [fr_set (blt h)]

theorem sv {o : Oper} {d : Nat} {v : Value} {w' : World} (hg : o.guard = none) (hd : o.dst = some d) (hn : Nat.blt d n = true)
    (hx : (execOp (st n L σ ds).eval o).run P w = .ok (.value v) w') (k : wpList P ops Q rest (st n ((d, v) :: L) σ ds) w') :
    wpList P ops Q (o :: rest) (st n L σ ds) w := by
  refine wpList_plain hg fun K hK => ?_
  unfold Oper.wp
  rw [hx, Oper.upon_value, hd, put_st hn]
  exact hK _ _ k
theorem su {o : Oper} {w' : World} (hg : o.guard = none) (hd : o.dst = none)
    (hx : (execOp (st n L σ ds).eval o).run P w = .ok .skip w') (k : wpList P ops Q rest (st n L σ ds) w') :
    wpList P ops Q (o :: rest) (st n L σ ds) w := by
  refine wpList_plain hg fun K hK => ?_
  unfold Oper.wp
  rw [hx, Oper.upon_skip, hd]
  exact hK _ _ k
theorem sv0 {o : Oper} {v : Value} {w' : World} (hg : o.guard = none) (hd : o.dst = none)
    (hx : (execOp (st n L σ ds).eval o).run P w = .ok (.value v) w') (k : wpList P ops Q rest (st n L σ ds) w') :
    wpList P ops Q (o :: rest) (st n L σ ds) w := by
  refine wpList_plain hg fun K hK => ?_
  unfold Oper.wp
  rw [hx, Oper.upon_value, hd]
  exact hK _ _ k
def dstAt : List Oper → Nat → Option Tmp
  | [], _ => none
  | o :: _, 0 => o.dst
  | _ :: r, j + 1 => dstAt r j
theorem dstAt_eq (l : List Oper) : ∀ j, (l[j]?).bind (·.dst) = dstAt l j := by
  induction l with
  | nil => intro j; simp [dstAt]
  | cons o r ih =>
    intro j
    cases j with
    | zero => simp [dstAt]
    | succ j => simp only [List.getElem?_cons_succ, dstAt]; exact ih j
variable {ol : List Oper}
theorem gon {d : Option Tmp} {op : Op} {ty : TypeId} {pos : String} {af : Array Edge} {j dj : Nat} {want : Bool}
    (hj : dstAt ol j = some dj) (hn : Nat.blt dj n = true) (hv : ov L σ dj = .bool want)
    (k : wpList P ol.toArray Q (⟨d, op, ty, pos, af, none⟩ :: rest) (st n L σ ds) w) :
    wpList P ol.toArray Q (⟨d, op, ty, pos, af, some (j, want)⟩ :: rest) (st n L σ ds) w := by
  have hj' : (ol[j]?).bind (·.dst) = some dj := by rw [dstAt_eq]; exact hj
  have hw : Region.wanted ⟨d, op, ty, pos, af, some (j, want)⟩ (yielded ol.toArray (st n L σ ds).tmps) = true := by
    simp [Region.wanted, yielded, hj', fr_get (blt hn), hv]
  have h1 : Region.wanted (⟨d, op, ty, pos, af, none⟩ : Oper) (yielded ol.toArray (st n L σ ds).tmps) = true := rfl
  unfold wpList at k ⊢
  rw [if_pos h1] at k
  rw [if_pos hw]
  exact k
theorem goff {d : Nat} {op : Op} {ty : TypeId} {pos : String} {af : Array Edge} {j dj : Nat} {want : Bool}
    (hj : dstAt ol j = some dj) (hn : Nat.blt dj n = true) (hv : ov L σ dj = .bool (!want)) (hd : Nat.blt d n = true)
    (k : wpList P ol.toArray Q rest (st n ((d, undef) :: L) σ ds) w) :
    wpList P ol.toArray Q (⟨some d, op, ty, pos, af, some (j, want)⟩ :: rest) (st n L σ ds) w := by
  have hj' : (ol[j]?).bind (·.dst) = some dj := by rw [dstAt_eq]; exact hj
  have hw : Region.wanted ⟨some d, op, ty, pos, af, some (j, want)⟩ (yielded ol.toArray (st n L σ ds).tmps) = false := by
    simp [Region.wanted, yielded, hj', fr_get (blt hn), hv]
  unfold wpList
  rw [hw, put_st hd]
  exact k
theorem goff0 {op : Op} {ty : TypeId} {pos : String} {af : Array Edge} {j dj : Nat} {want : Bool}
    (hj : dstAt ol j = some dj) (hn : Nat.blt dj n = true) (hv : ov L σ dj = .bool (!want))
    (k : wpList P ol.toArray Q rest (st n L σ ds) w) :
    wpList P ol.toArray Q (⟨none, op, ty, pos, af, some (j, want)⟩ :: rest) (st n L σ ds) w := by
  have hj' : (ol[j]?).bind (·.dst) = some dj := by rw [dstAt_eq]; exact hj
  have hw : Region.wanted ⟨none, op, ty, pos, af, some (j, want)⟩ (yielded ol.toArray (st n L σ ds).tmps) = false := by
    simp [Region.wanted, yielded, hj', fr_get (blt hn), hv]
  unfold wpList
  rw [hw]
  exact k

abbrev wk (P : Program) (c : Code) (N : Act → World → Prop) (Q : Exit → Act → World → Prop) : Act → World → Prop := c.wp P (Exit.then N Q)
def Qx (id : Nat) (N : Act → World → Prop) (Q : Exit → Act → World → Prop) : Exit → Act → World → Prop
  | .exit j, a, w => if j = id then N a w else Q (.exit j) a w
  | e, a, w => Q e a w
variable {N : Act → World → Prop} {a : Act}
theorem k_seq {x y : Code} (h : wk P x (wk P y N Q) Q a w) : wk P (.seq x y) N Q a w := by
  refine wp_seq (wp_mono h fun e a w he => ?_)
  cases e <;> exact he
theorem k_region {id : Nat} {l : List Oper} (h : wpList P l.toArray (Exit.then N Q) l a w) : wk P (.region id l.toArray false) N Q a w := wp_region_lit h
theorem k_nil {a : Act} (h : N a w) : wpList P ops (Exit.then N Q) [] a w := h
theorem k_skip (h : N a w) : wk P .skip N Q a w := wp_skip h
theorem k_ret (h : Q .ret a w) : wk P .ret N Q a w := wp_ret h
theorem k_exit {id : Nat} (h : Q (.exit id) a w) : wk P (.exit id) N Q a w := wp_exit h
theorem k_block {id : Nat} {c : Code} (h : wk P c N (Qx id N Q) a w) : wk P (.block id c) N Q a w := by
  refine wp_block (wp_mono h fun e a w he => ?_)
  cases e <;> first | exact he | (simp only [Exit.inBlock, Exit.then, Qx] at he ⊢; exact he)
theorem q_here {id : Nat} (h : N a w) : Qx id N Q (.exit id) a w := by simp only [Qx, if_true]; exact h
theorem q_there {id j : Nat} (hne : Nat.beq j id = false) (h : Q (.exit j) a w) : Qx id N Q (.exit j) a w := by
  have : ¬ j = id := fun e => by rw [e, Nat.beq_refl] at hne; cases hne
  simp only [Qx, if_neg this]; exact h
theorem q_ret {id : Nat} (h : Q .ret a w) : Qx id N Q .ret a w := h
theorem q_panic {id : Nat} {c : List PanicEntry} (h : Q (.panic c) a w) : Qx id N Q (.panic c) a w := h
theorem k_if {c : Operand} {x y : Code} {b : Bool} (hc : a.eval c = .bool b) (h1 : b = true → wk P x N Q a w) (h2 : b = false → wk P y N Q a w) :
    wk P (.cond c x y) N Q a w := wp_cond_split hc h1 h2
theorem k_if_t {c : Operand} {x y : Code} (hc : a.eval c = .bool true) (h1 : wk P x N Q a w) : wk P (.cond c x y) N Q a w := wp_cond_true hc h1
theorem k_if_f {c : Operand} {x y : Code} (hc : a.eval c = .bool false) (h1 : wk P y N Q a w) : wk P (.cond c x y) N Q a w := wp_cond_false hc h1
theorem k_loop {c : Code} (I : Act → World → Prop) (μ : Act → World → Nat) (h0 : I a w)
    (h : ∀ a w, I a w → wk P c (fun a' w' => I a' w' ∧ μ a' w' < μ a w) Q a w) : wk P (.loop c) N Q a w := by
  refine wp_loop I μ h0 fun a w hI => wp_mono (h a w hI) fun e a w he => ?_
  cases e <;> exact he
theorem k_loopg {c : Code} (I : Nat → Act → World → Prop) (m : Nat) (h0 : I m a w)
    (h : ∀ m a w, I m a w → wk P c (fun a' w' => ∃ m', m' < m ∧ I m' a' w') Q a w) : wk P (.loop c) N Q a w := by
  have key : ∀ m a w, I m a w → ∀ (b : Frame) (k : List Item) (cs : List Frame),
      ∃ e a' w', (Exit.then N Q) e a' w' ∧ Arrives P (lone (b.at a (.code c :: .inLoop c :: k)) cs w) b k cs e a' w' := by
    intro m
    induction m using Nat.strongRecOn with
    | _ m ih =>
      intro a w hI b k cs
      obtain ⟨e, a₁, w₁, hq, harr⟩ := h m a w hI b (.inLoop c :: k) cs
      cases e with
      | normal =>
        obtain ⟨m', hlt, hI'⟩ := hq
        obtain ⟨e₂, a₂, w₂, hq₂, harr₂⟩ := ih m' hlt a₁ w₁ hI' b k cs
        exact ⟨e₂, a₂, w₂, hq₂, .of_steps (Steps.trans harr (.one step_inLoop)) harr₂⟩
      | exit id => exact ⟨.exit id, a₁, w₁, hq, .pass (x := .inLoop c) rfl (fun _ _ => .inl (by simp)) harr⟩
      | goto l => exact ⟨.goto l, a₁, w₁, hq, .pass (x := .inLoop c) rfl (fun _ _ => .inl (by simp)) harr⟩
      | ret => exact ⟨.ret, a₁, w₁, hq, .pass (x := .inLoop c) rfl (fun _ _ => .inl (by simp)) harr⟩
      | panic ch => exact ⟨.panic ch, a₁, w₁, hq, .pass (x := .inLoop c) rfl (fun _ _ => .inl (by simp)) harr⟩
      | outgrown => exact ⟨.outgrown, a₁, w₁, hq, .pass (x := .inLoop c) rfl (fun _ _ => .inl (by simp)) harr⟩
  intro b k cs
  obtain ⟨e, a', w', hq, harr⟩ := key m a w h0 b k cs
  exact ⟨e, a', w', hq, .of_steps (.one step_loop) harr⟩
theorem k_cut {x : Code} (J : Act → World → Prop) (h : wk P x J Q a w) (k : ∀ a w, J a w → N a w) : wk P x N Q a w :=
  wp_mono h fun e a w he => by cases e <;> first | exact k _ _ he | exact he

def AllEq : Env → (Nat → Value) → Prop
  | [], _ => True
  | p :: r, f => f p.1 = p.2 ∧ AllEq r f
theorem ov_absorb {L : Env} {f : Nat → Value} (h : AllEq L f) : ov L f = f := by
  induction L with
  | nil => rfl
  | cons p r ih =>
    funext t
    simp only [ov, ih h.2]
    cases hb : Nat.beq p.1 t
    · rfl
    · rw [← Nat.eq_of_beq_eq_true hb]; exact h.1.symm
theorem see {L' : Env} (h : AllEq L' (ov L σ)) : ∃ σ', st n L σ ds = st n L' σ' ds := ⟨ov L σ, by simp only [st, ov_absorb h]⟩

def argEnv : Nat → List Value → Env
  | _, [] => []
  | i, v :: r => (i, v) :: argEnv (i + 1) r
theorem ov_argEnv (l : List Value) : ∀ i t, ov (argEnv i l) (fun _ => undef) t = if i ≤ t then l.getD (t - i) undef else undef := by
  induction l with
  | nil => intro i t; simp [argEnv, ov]
  | cons v r ih =>
    intro i t
    simp only [argEnv, ov, ih]
    cases hb : Nat.beq i t
    · have hne : i ≠ t := fun e => by rw [e, Nat.beq_refl] at hb; cases hb
      simp only [cond_false]
      by_cases hle : i + 1 ≤ t
      · rw [if_pos hle, if_pos (by omega)]
        have : t - i = (t - (i + 1)) + 1 := by omega
        rw [this]; simp
      · rw [if_neg hle, if_neg (by omega)]
    · have := Nat.eq_of_beq_eq_true hb
      subst this
      simp
theorem enter_fr (l : List Value) (n : Nat) (h : l.length ≤ n) : l.toArray ++ Array.replicate (n - l.toArray.size) undef = fr n (ov (argEnv 0 l) fun _ => undef) := by
  apply Array.ext_getElem?
  intro i
  by_cases hi : i < n
  · rw [fr_get hi, ov_argEnv]
    simp only [Nat.zero_le, if_true, Nat.sub_zero]
    rw [Array.getElem?_append]
    by_cases hl : i < l.length
    · rw [if_pos (by simpa using hl)]
      simp [List.getD_eq_getElem?_getD, hl]
    · rw [if_neg (by simpa using hl)]
      simp only [List.size_toArray]
      rw [Array.getElem?_replicate, if_pos (by omega), List.getD_eq_getElem?_getD, List.getElem?_eq_none (by omega)]
      rfl
  · rw [Array.getElem?_eq_none (by simp; omega), Array.getElem?_eq_none (by simp [fr]; omega)]
theorem enter {P : Program} {f : FuncId} {fn : Func} {c : Code} {l : List Value} {w : World} {R : Ending → World → Prop} {n : Nat}
    {L : Env} (hf : P.funcs[f]? = some fn) (hb : fn.body = some c) (hn : fn.ntmps = n) (hl : Nat.ble l.length n = true) (hL : argEnv 0 l = L)
    (h : wk P c (bodyPost P fn R .normal) (bodyPost P fn R) (st n L (fun _ => undef) []) w) : Calls P f l.toArray w R := by
  subst hL
  refine calls_of_wp hf hb ?_
  rw [hn, enter_fr l n (Nat.le_of_ble_eq_true hl)]
  exact wp_mono h fun e a w he => by cases e <;> exact he

def Ret (P : Program) (f : FuncId) (args : List Value) (w : World) (Φ : Value → World → Prop) : Prop :=
  Calls P f args.toArray w fun e w' => ∃ v, e = .returned v ∧ Φ v w'
theorem Ret.mono {P : Program} {f : FuncId} {args : List Value} {w : World} {Φ Ψ : Value → World → Prop} (h : Ret P f args w Φ) (k : ∀ v w', Φ v w' → Ψ v w') : Ret P f args w Ψ :=
  Calls.mono h fun e w' ⟨v, he, hv⟩ => ⟨v, he, k v w' hv⟩
def RetP (P : Program) (f : FuncId) (args : List Value) (w : World) (Φ : Value → World → Prop) (Ψ : List PanicEntry → World → Prop) : Prop :=
  Calls P f args.toArray w fun e w' => (∃ v, e = .returned v ∧ Φ v w') ∨ (∃ c, e = .panicked c ∧ Ψ c w')
theorem RetP.mono {P : Program} {f : FuncId} {args : List Value} {w : World} {Φ Φ' : Value → World → Prop} {Ψ Ψ' : List PanicEntry → World → Prop} (h : RetP P f args w Φ Ψ) (k : ∀ v w', Φ v w' → Φ' v w') (k' : ∀ c w', Ψ c w' → Ψ' c w') : RetP P f args w Φ' Ψ' :=
  Calls.mono h fun e w' he => he.imp (fun ⟨v, he, hv⟩ => ⟨v, he, k v w' hv⟩) (fun ⟨c, he, hv⟩ => ⟨c, he, k' c w' hv⟩)

inductive Res (P : Program) (w : World) (f : Nat → Value) (n : Nat) : List ResultVar → List Value → Prop
  | nil : Res P w f n [] []
  | tmp {t : Nat} {v : Value} {r : List ResultVar} {vs : List Value} (h : Nat.blt t n = true) (hv : f t = v) (k : Res P w f n r vs) : Res P w f n (.tmp t :: r) (v :: vs)
  | cell {t : Nat} {ty : TypeId} {a : Addr} {v : Value} {r : List ResultVar} {vs : List Value} (h : Nat.blt t n = true) (hv : f t = .pointer (some a))
      (hl : (loadVar ty a).run P w = .ok v w) (k : Res P w f n r vs) : Res P w f n (.cell t ty :: r) (v :: vs)
def pack : List Value → Value
  | [v] => v
  | vs => .tuple vs.toArray
def rv (tmps : Array Value) : ResultVar → Sem Value
  | .tmp t => pure (tmps.getD t undef)
  | .cell a t => do loadVar t (← asAddr (tmps.getD a undef))
theorem results_eq (fn : Func) (tmps : Array Value) : results fn tmps = (fn.results.mapM (rv tmps) >>= fun vs => pure (if h : vs.size = 1 then vs[0] else .tuple vs)) := by
  unfold results
  congr 1
theorem res_list {P : Program} {w : World} {f : Nat → Value} {n : Nat} {rs : List ResultVar} {vs : List Value} (h : Res P w f n rs vs) :
    (rs.mapM (m := Sem) (rv (fr n f))).run P w = .ok vs w := by
  induction h with
  | nil => rfl
  | tmp h hv k ih =>
    rw [List.mapM_cons]
    simp only [Sem.run_bind, rv, fr_getD (blt h), hv, Sem.run_pure, Result.andThen_ok, ih]
  | cell h hv hl k ih =>
    rw [List.mapM_cons]
    simp only [Sem.run_bind, rv, fr_getD (blt h), hv, asAddr, Sem.run_pure, Result.andThen_ok, hl, ih]
theorem res_run {P : Program} {w : World} {f : Nat → Value} {n : Nat} {rs : List ResultVar} {vs : List Value} (h : Res P w f n rs vs) {fn : Func} (hr : fn.results = rs.toArray) :
    (results fn (fr n f)).run P w = .ok (pack vs) w := by
  rw [results_eq, hr]
  simp only [List.mapM_toArray, Sem.run_bind]
  rw [show ∀ (s : Sem (List Value)), (List.toArray <$> s : Sem (Array Value)) = s >>= fun l => pure l.toArray from fun s => rfl]
  simp only [Sem.run_bind, res_list h, Result.andThen_ok, Sem.run_pure]
  rcases vs with _ | ⟨v, _ | ⟨u, vs⟩⟩ <;> simp [pack]
theorem k_end {P : Program} {fn : Func} {Φ : Value → World → Prop} {n : Nat} {L : Env} {σ : Nat → Value} {w : World} {rs : List ResultVar} {vs : List Value} {v : Value}
    (hr : fn.results = rs.toArray) (h : Res P w (ov L σ) n rs vs) (hv : pack vs = v) (k : Φ v w) :
    bodyPost P fn (fun e w' => ∃ v, e = .returned v ∧ Φ v w') .ret (st n L σ []) w :=
  ⟨rfl, v, by rw [← hv]; exact res_run h hr, v, rfl, k⟩
theorem k_endn {P : Program} {fn : Func} {Φ : Value → World → Prop} {n : Nat} {L : Env} {σ : Nat → Value} {w : World} {rs : List ResultVar} {vs : List Value} {v : Value}
    (hr : fn.results = rs.toArray) (h : Res P w (ov L σ) n rs vs) (hv : pack vs = v) (k : Φ v w) :
    bodyPost P fn (fun e w' => ∃ v, e = .returned v ∧ Φ v w') .normal (st n L σ []) w :=
  ⟨rfl, v, by rw [← hv]; exact res_run h hr, v, rfl, k⟩
end

section
variable {P : Program} {ops : Array Oper} {Q : Exit → Act → World → Prop} {n : Nat} {L : Env} {σ : Nat → Value} {ds : List Deferred} {w : World} {rest : List Oper}
variable {d : Nat} {ty : TypeId} {pos : String} {af : Array Edge} {v v1 v2 v3 : Value} {x y z : Operand}

theorem s_move (hx : (st n L σ ds).eval x = v) (hn : Nat.blt d n = true) (k : wpList P ops Q rest (st n ((d, v) :: L) σ ds) w) :
    wpList P ops Q (⟨some d, .move x, ty, pos, af, none⟩ :: rest) (st n L σ ds) w :=
  sv rfl rfl hn (by simp only [execOp, hx]; rfl) k
theorem s_assign (hx : (st n L σ ds).eval x = v) (hn : Nat.blt d n = true) (k : wpList P ops Q rest (st n ((d, v) :: L) σ ds) w) :
    wpList P ops Q (⟨some d, .assign x, ty, pos, af, none⟩ :: rest) (st n L σ ds) w :=
  sv rfl rfl hn (by simp only [execOp, hx]; rfl) k
theorem s_pick {b : Bool} (hz : (st n L σ ds).eval z = .bool b) (hx : (st n L σ ds).eval x = v1) (hy : (st n L σ ds).eval y = v2) (hv : (bif b then v1 else v2) = v) (hn : Nat.blt d n = true)
    (k : wpList P ops Q rest (st n ((d, v) :: L) σ ds) w) :
    wpList P ops Q (⟨some d, .pick z x y, ty, pos, af, none⟩ :: rest) (st n L σ ds) w :=
  sv rfl rfl hn (by
    simp only [execOp, hx, hy, hz, asBool]
    subst hv
    cases b <;> rfl) k
theorem s_bin {op : BinOp} {xt yt : TypeId} (hx : (st n L σ ds).eval x = v1) (hy : (st n L σ ds).eval y = v2)
    (hr : (do eqGuard op xt x y v1 v2; binOp op xt v1 v2 : Sem Value).run P w = .ok v w) (hn : Nat.blt d n = true)
    (k : wpList P ops Q rest (st n ((d, v) :: L) σ ds) w) :
    wpList P ops Q (⟨some d, .binOp op xt x y yt, ty, pos, af, none⟩ :: rest) (st n L σ ds) w :=
  sv rfl rfl hn (by
    simp only [execOp, hx, hy]
    rw [Sem.run_bind, hr]
    rfl) k
theorem s_un {op : UnOp} {xt : TypeId} (hx : (st n L σ ds).eval x = v1)
    (hr : (Op.unary op v1).run P w = .ok v w) (hn : Nat.blt d n = true)
    (k : wpList P ops Q rest (st n ((d, v) :: L) σ ds) w) :
    wpList P ops Q (⟨some d, .unOp op xt x, ty, pos, af, none⟩ :: rest) (st n L σ ds) w :=
  sv rfl rfl hn (by
    simp only [execOp, hx]
    rw [Sem.run_bind, hr]
    rfl) k
theorem r_div {op : UnOp} {k : IntKind} {a b c : Int} {xt : TypeId} (hb : b ≠ 0) (hc : k.wrap (a.tdiv b) = c) :
    (do eqGuard .quo xt x y (.int k a) (.int k b); binOp .quo xt (.int k a) (.int k b) : Sem Value).run P w = .ok (.int k c) w := by
  subst hc
  simp [eqGuard, binOp, Op.intDiv, hb]
theorem r_rem {k : IntKind} {a b c : Int} {xt : TypeId} (hb : b ≠ 0) (hc : a.tmod b = c) :
    (do eqGuard .rem xt x y (.int k a) (.int k b); binOp .rem xt (.int k a) (.int k b) : Sem Value).run P w = .ok (.int k c) w := by
  subst hc
  simp [eqGuard, binOp, Op.intDiv, hb]
theorem r_add {k : IntKind} {a b c : Int} {xt : TypeId} (hc : k.wrap (a + b) = c) :
    (do eqGuard .add xt x y (.int k a) (.int k b); binOp .add xt (.int k a) (.int k b) : Sem Value).run P w = .ok (.int k c) w := by
  subst hc
  simp [eqGuard, binOp, Op.intArith]
theorem r_sub {k : IntKind} {a b c : Int} {xt : TypeId} (hc : k.wrap (a - b) = c) :
    (do eqGuard .sub xt x y (.int k a) (.int k b); binOp .sub xt (.int k a) (.int k b) : Sem Value).run P w = .ok (.int k c) w := by
  subst hc
  simp [eqGuard, binOp, Op.intArith]
theorem r_mul {k : IntKind} {a b c : Int} {xt : TypeId} (hc : k.wrap (a * b) = c) :
    (do eqGuard .mul xt x y (.int k a) (.int k b); binOp .mul xt (.int k a) (.int k b) : Sem Value).run P w = .ok (.int k c) w := by
  subst hc
  simp [eqGuard, binOp, Op.intArith]
theorem r_shl {k k' : IntKind} {a b c : Int} {xt : TypeId} (hb : 0 ≤ b) (hc : k.wrap (a * 2 ^ (min b.toNat k.bits)) = c) :
    (do eqGuard .shl xt x y (.int k a) (.int k' b); binOp .shl xt (.int k a) (.int k' b) : Sem Value).run P w = .ok (.int k c) w := by
  subst hc
  have : ¬ b < 0 := by omega
  simp [eqGuard, binOp, Op.shift, this]
theorem r_shr {k k' : IntKind} {a b c : Int} {xt : TypeId} (hb : 0 ≤ b) (hc : a.fdiv (2 ^ (min b.toNat k.bits)) = c) :
    (do eqGuard .shr xt x y (.int k a) (.int k' b); binOp .shr xt (.int k a) (.int k' b) : Sem Value).run P w = .ok (.int k c) w := by
  subst hc
  have : ¬ b < 0 := by omega
  simp [eqGuard, binOp, Op.shift, this]
theorem r_eql {k : IntKind} {a b : Int} {c : Bool} {xt : TypeId} (hc : decide (a = b) = c) :
    (do eqGuard .eql xt x y (.int k a) (.int k b); binOp .eql xt (.int k a) (.int k b) : Sem Value).run P w = .ok (.bool c) w := by
  subst hc
  simp [eqGuard, binOp, Op.intCmp]
  rfl
theorem r_neq {k : IntKind} {a b : Int} {c : Bool} {xt : TypeId} (hc : (!decide (a = b)) = c) :
    (do eqGuard .neq xt x y (.int k a) (.int k b); binOp .neq xt (.int k a) (.int k b) : Sem Value).run P w = .ok (.bool c) w := by
  subst hc
  simp [eqGuard, binOp, Op.intCmp]
  rfl
theorem r_lss {k : IntKind} {a b : Int} {c : Bool} {xt : TypeId} (hc : decide (a < b) = c) :
    (do eqGuard .lss xt x y (.int k a) (.int k b); binOp .lss xt (.int k a) (.int k b) : Sem Value).run P w = .ok (.bool c) w := by
  subst hc
  simp [eqGuard, binOp, Op.intCmp]
theorem r_leq {k : IntKind} {a b : Int} {c : Bool} {xt : TypeId} (hc : decide (a ≤ b) = c) :
    (do eqGuard .leq xt x y (.int k a) (.int k b); binOp .leq xt (.int k a) (.int k b) : Sem Value).run P w = .ok (.bool c) w := by
  subst hc
  simp [eqGuard, binOp, Op.intCmp]
theorem r_gtr {k : IntKind} {a b : Int} {c : Bool} {xt : TypeId} (hc : decide (a > b) = c) :
    (do eqGuard .gtr xt x y (.int k a) (.int k b); binOp .gtr xt (.int k a) (.int k b) : Sem Value).run P w = .ok (.bool c) w := by
  subst hc
  simp [eqGuard, binOp, Op.intCmp]
theorem r_geq {k : IntKind} {a b : Int} {c : Bool} {xt : TypeId} (hc : decide (a ≥ b) = c) :
    (do eqGuard .geq xt x y (.int k a) (.int k b); binOp .geq xt (.int k a) (.int k b) : Sem Value).run P w = .ok (.bool c) w := by
  subst hc
  simp [eqGuard, binOp, Op.intCmp]
theorem r_bits {op : BinOp} {k : IntKind} {a b c : Int} {xt : TypeId} (ho : op = .and ∨ op = .or ∨ op = .xor ∨ op = .andNot) (hc : bits op k a b = c) :
    (do eqGuard op xt x y (.int k a) (.int k b); binOp op xt (.int k a) (.int k b) : Sem Value).run P w = .ok (.int k c) w := by
  subst hc
  rcases ho with rfl | rfl | rfl | rfl <;> simp [eqGuard, binOp, Op.intBits, bits]
theorem r_streq {a b : ByteArray} {c : Bool} {xt : TypeId} (hc : (a.toList == b.toList) = c) :
    (do eqGuard .eql xt x y (.string a) (.string b); binOp .eql xt (.string a) (.string b) : Sem Value).run P w = .ok (.bool c) w := by
  subst hc
  simp [eqGuard, binOp, Op.stringOp]
theorem r_strne {a b : ByteArray} {c : Bool} {xt : TypeId} (hc : (!(a.toList == b.toList)) = c) :
    (do eqGuard .neq xt x y (.string a) (.string b); binOp .neq xt (.string a) (.string b) : Sem Value).run P w = .ok (.bool c) w := by
  subst hc
  simp [eqGuard, binOp, Op.stringOp]
theorem r_not {b c : Bool} (hc : (!b) = c) : (Op.unary .not (.bool b)).run P w = .ok (.bool c) w := by subst hc; rfl
theorem r_neg {k : IntKind} {a c : Int} (hc : k.wrap (0 - a) = c) : (Op.unary .neg (.int k a)).run P w = .ok (.int k c) w := by
  subst hc; simp [Op.unary, Op.intArith]
theorem s_conv {src dst : TypeId} {sd : TypeDesc} {k k' : IntKind} {a c : Int} (hx : (st n L σ ds).eval x = .int k' a) (h1 : ∀ w, (underlying src).run P w = .ok sd w) (h2 : ∀ w, (underlying dst).run P w = .ok (.int k) w)
    (hc : k.wrap a = c) (hn : Nat.blt d n = true) (k' : wpList P ops Q rest (st n ((d, .int k c) :: L) σ ds) w) :
    wpList P ops Q (⟨some d, .convert src dst x, ty, pos, af, none⟩ :: rest) (st n L σ ds) w :=
  sv rfl rfl hn (by
    simp only [execOp, hx]
    rw [Sem.run_bind]
    subst hc
    simp [convert, Sem.run_bind, h1, h2, Conv.intToInt]) k'
end

abbrev Rsc := List (Nat × Obj)
structure Hp (M I : Nat → Prop) (w0 wr w : World) (R : List Rsc) : Prop where
  os : w.os = w0.os
  tape : w.tape = w0.tape
  output : w.output = w0.output
  le : w0.heap.size ≤ w.heap.size
  old : ∀ k, k < w0.heap.size → ¬ M k → w.heap[k]? = w0.heap[k]?
  imm : ∀ k, I k → w.heap[k]? = wr.heap[k]?
  ilt : ∀ k, I k → k < w.heap.size
  own : ∀ p ∈ R.flatten, w.heap[p.1]? = some p.2
  fresh : ∀ p ∈ R.flatten, (M p.1 ∨ w0.heap.size ≤ p.1) ∧ ¬ I p.1
  nodup : (R.flatten.map (·.1)).Nodup

theorem hlt {w : World} {k : Nat} {o : Obj} (h : w.heap[k]? = some o) : k < w.heap.size := (Array.getElem?_eq_some_iff.1 h).1

namespace Hp
variable {M I : Nat → Prop} {w0 wr w : World} {R : List Rsc}

theorem start (w : World) : Hp (fun _ => False) (fun k => k < w.heap.size) w w w [] :=
  ⟨rfl, rfl, rfl, Nat.le_refl _, fun _ _ _ => rfl, fun _ _ => rfl, fun _ h => h, by simp, by simp, by simp⟩
theorem below (h : Hp (fun _ => False) I w0 wr w R) : Below w0.heap.size w0 w := ⟨h.os, h.tape, h.output, h.le, fun k hk => h.old k hk id⟩
theorem lt (h : Hp M I w0 wr w R) {p : Nat × Obj} (hp : p ∈ R.flatten) : p.1 < w.heap.size := hlt (h.own p hp)
theorem mem {i j : Nat} {r : Rsc} {p : Nat × Obj} (hi : R[i]? = some r) (hj : r[j]? = some p) : p ∈ R.flatten :=
  List.mem_flatten.2 ⟨r, List.mem_of_getElem? hi, List.mem_of_getElem? hj⟩
theorem get (h : Hp M I w0 wr w R) {i j b : Nat} {r : Rsc} {o : Obj} (hi : R[i]? = some r) (hj : r[j]? = some (b, o)) : w.heap[b]? = some o := h.own (b, o) (mem hi hj)
theorem alloc (h : Hp M I w0 wr w R) (o : Obj) : Hp M I w0 wr { w with heap := w.heap.push o } (R ++ [[(w.heap.size, o)]]) := by
  have hk : ∀ k, k < w.heap.size → (w.heap.push o)[k]? = w.heap[k]? := fun k hk => by rw [Array.getElem?_push, if_neg (by omega)]
  refine ⟨h.os, h.tape, h.output, ?_, ?_, ?_, ?_, ?_, ?_, ?_⟩
  · have := h.le; simp; omega
  · intro k h1 h2
    exact (hk k (Nat.lt_of_lt_of_le h1 h.le)).trans (h.old k h1 h2)
  · intro k hi
    exact (hk k (h.ilt k hi)).trans (h.imm k hi)
  · intro k hi
    have := h.ilt k hi
    simp; omega
  · intro p hp
    rw [List.flatten_append, List.mem_append] at hp
    rcases hp with hp | hp
    · exact (hk _ (h.lt hp)).trans (h.own p hp)
    · simp at hp; subst hp; simp
  · intro p hp
    rw [List.flatten_append, List.mem_append] at hp
    rcases hp with hp | hp
    · exact h.fresh p hp
    · simp at hp; subst hp
      exact ⟨.inr h.le, fun hi => by have := h.ilt _ hi; simp at this⟩
  · rw [List.flatten_append, List.map_append, List.nodup_append]
    refine ⟨h.nodup, by simp, ?_⟩
    intro x hx y hy
    obtain ⟨p, hp, rfl⟩ := List.mem_map.1 hx
    have := h.lt hp
    simp at hy; subst hy
    omega
theorem grow {w' : World} (h : Hp M I w0 wr w R) (hb : Below w.heap.size w w') : Hp M I w0 wr w' R :=
  ⟨hb.os.trans h.os, hb.tape.trans h.tape, hb.output.trans h.output, Nat.le_trans h.le hb.size,
   fun k h1 h2 => (hb.block k (Nat.lt_of_lt_of_le h1 h.le)).trans (h.old k h1 h2),
   fun k hi => (hb.block k (h.ilt k hi)).trans (h.imm k hi), fun k hi => Nat.lt_of_lt_of_le (h.ilt k hi) hb.size,
   fun p hp => (hb.block _ (h.lt hp)).trans (h.own p hp), h.fresh, h.nodup⟩
theorem drawn (h : Hp M I w0 wr w R) (m : Nat) : Hp M I w0 wr { w with drawn := m } R :=
  ⟨h.os, h.tape, h.output, h.le, h.old, h.imm, h.ilt, h.own, h.fresh, h.nodup⟩
theorem keys_set {R : List Rsc} {i j b : Nat} {r : Rsc} {o o' : Obj} (hi : R[i]? = some r) (hj : r[j]? = some (b, o)) :
    ((R.set i (r.set j (b, o'))).flatten.map (·.1)) = R.flatten.map (·.1) := by
  induction R generalizing i with
  | nil => simp at hi
  | cons q R ih =>
    cases i with
    | zero =>
      simp at hi; subst hi
      simp only [List.set_cons_zero, List.flatten_cons, List.map_append]
      congr 1
      apply List.ext_getElem?
      intro m
      simp only [List.getElem?_map, List.getElem?_set]
      split
      · rename_i e; subst e
        split
        · simp [hj]
        · rename_i hl; simp at hl; simp [List.getElem?_eq_none hl] at hj
      · rfl
    | succ i => simp at hi; simp [ih hi]
theorem mem_set {R : List Rsc} {i j b : Nat} {r : Rsc} {o o' : Obj} (hi : R[i]? = some r) (hj : r[j]? = some (b, o)) (hn : (R.flatten.map (·.1)).Nodup) {p : Nat × Obj}
    (hp : p ∈ (R.set i (r.set j (b, o'))).flatten) : p = (b, o') ∨ (p ∈ R.flatten ∧ p.1 ≠ b) := by
  have hn' : ((R.set i (r.set j (b, o'))).flatten.map (·.1)).Nodup := by rw [keys_set hi hj]; exact hn
  by_cases hb : p.1 = b
  · left
    have hmem : (b, o') ∈ (R.set i (r.set j (b, o'))).flatten := by
      refine List.mem_flatten.2 ⟨r.set j (b, o'), ?_, ?_⟩
      · have : i < R.length := (List.getElem?_eq_some_iff.1 hi).1
        exact List.mem_of_getElem? (i := i) (by rw [List.getElem?_set_self this])
      · have : j < r.length := (List.getElem?_eq_some_iff.1 hj).1
        exact List.mem_of_getElem? (i := j) (by rw [List.getElem?_set_self this])
    have inj : ∀ {l : List (Nat × Obj)}, (l.map (·.1)).Nodup → ∀ {x y}, x ∈ l → y ∈ l → x.1 = y.1 → x = y := by
      intro l
      induction l with
      | nil => intro _ x y hx; simp at hx
      | cons z l ih =>
        intro hn x y hx hy hxy
        simp only [List.map_cons, List.nodup_cons] at hn
        rcases List.mem_cons.1 hx with hx1 | hx1 <;> rcases List.mem_cons.1 hy with hy1 | hy1
        · rw [hx1, hy1]
        · exact absurd (List.mem_map.2 ⟨y, hy1, by rw [← hx1]; exact hxy.symm⟩) hn.1
        · exact absurd (List.mem_map.2 ⟨x, hx1, by rw [← hy1]; exact hxy⟩) hn.1
        · exact ih hn.2 hx1 hy1 hxy
    exact inj hn' hp hmem hb
  · right
    refine ⟨?_, hb⟩
    obtain ⟨s, hs, hps⟩ := List.mem_flatten.1 hp
    rcases List.mem_or_eq_of_mem_set hs with hs | rfl
    · exact List.mem_flatten.2 ⟨s, hs, hps⟩
    · rcases List.mem_or_eq_of_mem_set hps with hps | rfl
      · exact List.mem_flatten.2 ⟨r, List.mem_of_getElem? hi, hps⟩
      · exact absurd rfl hb
theorem upd (h : Hp M I w0 wr w R) {i j b : Nat} {r : Rsc} {o o' : Obj} (hi : R[i]? = some r) (hj : r[j]? = some (b, o)) {w' : World}
    (h1 : w'.os = w.os) (h2 : w'.tape = w.tape) (h3 : w'.output = w.output) (h4 : w'.heap.size = w.heap.size)
    (h5 : ∀ k, k ≠ b → w'.heap[k]? = w.heap[k]?) (h6 : w'.heap[b]? = some o') : Hp M I w0 wr w' (R.set i (r.set j (b, o'))) := by
  have hb := mem hi hj
  refine ⟨h1.trans h.os, h2.trans h.tape, h3.trans h.output, by have := h.le; omega, ?_, ?_, ?_, ?_, ?_, ?_⟩
  · intro k hk hm
    refine (h5 k fun e => ?_).trans (h.old k hk hm)
    subst e
    rcases (h.fresh _ hb).1 with hM | hM
    · exact hm hM
    · simp at hM; omega
  · intro k hk
    refine (h5 k fun e => ?_).trans (h.imm k hk)
    subst e
    exact (h.fresh _ hb).2 hk
  · intro k hk; rw [h4]; exact h.ilt k hk
  · intro p hp
    rcases mem_set hi hj h.nodup hp with rfl | ⟨hp, hne⟩
    · exact h6
    · exact (h5 _ hne).trans (h.own p hp)
  · intro p hp
    rcases mem_set hi hj h.nodup hp with rfl | ⟨hp, hne⟩
    · exact h.fresh (b, o) hb
    · exact h.fresh _ hp
  · rw [keys_set hi hj]; exact h.nodup
theorem sub {R' : List Rsc} (h : Hp M I w0 wr w R) (hs : R'.flatten.Sublist R.flatten) : Hp M I w0 wr w R' :=
  ⟨h.os, h.tape, h.output, h.le, h.old, h.imm, h.ilt, fun p hp => h.own p (hs.subset hp), fun p hp => h.fresh p (hs.subset hp), h.nodup.sublist (hs.map _)⟩
end Hp

theorem cell_at {w : World} {b : Nat} {c : Array Value} {e : TypeId} {fz : Nat × Nat} {off : Nat} {v : Value} (h : w.heap[b]? = some (.cells c e fz)) (hc : c[off]? = some v) :
    w.cell? ⟨b, off, none⟩ = some v := by simp [World.cell?, h, hc]
theorem add_add (a : Addr) (m k : Nat) : (a.add m).add k = a.add (m + k) := by
  unfold Addr.add
  by_cases h1 : m = 0
  · subst h1; simp
  · by_cases h2 : k = 0
    · subst h2; simp
    · rw [if_neg h1, if_neg h2, if_neg (by omega)]; simp [Nat.add_assoc]
theorem add_none (b o k : Nat) : (⟨b, o, none⟩ : Addr).add k = ⟨b, o + k, none⟩ := by
  unfold Addr.add
  split
  · rename_i h; subst h; rfl
  · rfl
def CellsAt (w : World) (a : Addr) (vs : List Value) : Prop := ∀ j u, vs[j]? = some u → w.cell? (a.add j) = some u
theorem cells_box {w : World} {b : Nat} {l : List Value} {e : TypeId} {fz : Nat × Nat} {off sz : Nat} {vs : List Value} (h : w.heap[b]? = some (.cells l.toArray e fz)) (hv : (l.drop off).take sz = vs) :
    CellsAt w ⟨b, off, none⟩ vs := by
  intro j u hu
  subst hv
  rw [add_none]
  refine cell_at h ?_
  simp only [List.getElem?_toArray]
  rw [List.getElem?_take] at hu
  split at hu
  · rw [List.getElem?_drop] at hu; exact hu
  · cases hu
theorem cells_sub {w : World} {a : Addr} {l vs : List Value} {off sz : Nat} (h : CellsAt w a l) (hv : (l.drop off).take sz = vs) : CellsAt w (a.add off) vs := by
  intro j u hu
  subst hv
  rw [add_add]
  refine h _ _ ?_
  rw [List.getElem?_take] at hu
  split at hu
  · rw [List.getElem?_drop] at hu; exact hu
  · cases hu
theorem cells_one {w : World} {a : Addr} {l : List Value} {off : Nat} {v : Value} (h : CellsAt w a l) (hv : l[off]? = some v) : w.cell? (a.add off) = some v := h _ _ hv
theorem cells_zero {w : World} {a : Addr} {l : List Value} {v : Value} (h : CellsAt w a l) (hv : l[0]? = some v) : w.cell? a = some v := h 0 v hv

theorem run_load {P : Program} {w : World} {a : Addr} {v : Value} (h : w.cell? a = some v) : (load a).run P w = .ok v w := by
  simp [load, Sem.run, h]
theorem run_loadCellsFrom {P : Program} {w : World} {a : Addr} : ∀ (vs : List Value) (i : Nat) (acc : Array Value), (∀ j u, vs[j]? = some u → w.cell? (a.add (i + j)) = some u) →
    (loadCellsFrom a i vs.length acc).run P w = .ok (acc ++ vs.toArray) w := by
  intro vs
  induction vs with
  | nil => intro i acc h; simp [loadCellsFrom]
  | cons v vs ih =>
    intro i acc h
    simp only [List.length_cons, loadCellsFrom, Sem.run_bind]
    rw [run_load (v := v) (by simpa using h 0 v rfl), Result.andThen_ok, ih (i + 1) _ (fun j u hu => by have := h (j + 1) u hu; rw [show i + 1 + j = i + (j + 1) by omega]; exact this)]
    simp
theorem run_loadCells {P : Program} {w : World} {a : Addr} {vs : List Value} {n : Nat} (hn : vs.length = n) (h : CellsAt w a vs) : (loadCells a n).run P w = .ok vs.toArray w := by
  subst hn
  unfold loadCells
  rw [run_loadCellsFrom vs 0 #[] (fun j u hu => by rw [Nat.zero_add]; exact h j u hu)]
  simp
def one : Value → Bool
  | .agg _ | .tuple _ => false
  | _ => true
theorem run_store {P : Program} {w : World} {a : Addr} {u v : Value} (h : w.cell? a = some u) (hf : w.frozen? a = false) (h1 : one v = true) : (store a v).run P w = .ok () (w.setCell a v) := by
  cases v <;> first | (simp [one] at h1; done) | simp [store, Sem.run, h, hf]
theorem setCell_block {w : World} {b off : Nat} {l : List Value} {e : TypeId} {fz : Nat × Nat} {v : Value} (h : w.heap[b]? = some (.cells l.toArray e fz)) :
    (w.setCell ⟨b, off, none⟩ v).heap[b]? = some (.cells (l.set off v).toArray e fz) := by
  simp [World.setCell, Array.getElem?_modify, h]
theorem run_storeCells {P : Program} {b e : Nat} : ∀ (vs : List Value) (i off : Nat) (l : List Value) (w : World), w.heap[b]? = some (.cells l.toArray e (0, 0)) → (∀ u ∈ vs, one u = true) → off + i + vs.length ≤ l.length →
    ∃ w', (storeCells ⟨b, off, none⟩ vs i).run P w = .ok () w' ∧ w'.os = w.os ∧ w'.tape = w.tape ∧ w'.output = w.output ∧ w'.heap.size = w.heap.size ∧ (∀ k, k ≠ b → w'.heap[k]? = w.heap[k]?) ∧
      w'.heap[b]? = some (.cells (l.take (off + i) ++ vs ++ l.drop (off + i + vs.length)).toArray e (0, 0)) := by
  intro vs
  induction vs with
  | nil => intro i off l w h _ _; exact ⟨w, by simp [storeCells], rfl, rfl, rfl, rfl, fun _ _ => rfl, by simpa using h⟩
  | cons v vs ih =>
    intro i off l w h h1 hl
    simp only [List.length_cons] at hl
    have hlt : off + i < l.length := by omega
    have hc : w.cell? ((⟨b, off, none⟩ : Addr).add i) = some l[off + i] := by rw [add_none]; exact cell_at h (by simp [hlt])
    have hf : w.frozen? ((⟨b, off, none⟩ : Addr).add i) = false := by rw [add_none]; simp [World.frozen?, h]
    have hset : (w.setCell ((⟨b, off, none⟩ : Addr).add i) v).heap[b]? = some (.cells (l.set (off + i) v).toArray e (0, 0)) := by rw [add_none]; exact setCell_block h
    obtain ⟨w', hr, a1, a2, a3, a4, a5, a6⟩ := ih (i + 1) off (l.set (off + i) v) _ hset (fun u hu => h1 u (List.mem_cons_of_mem _ hu)) (by simp; omega)
    refine ⟨w', ?_, a1, a2, a3, a4.trans (by simp [World.setCell]), fun k hk => (a5 k hk).trans ?_, ?_⟩
    · simp only [storeCells, Sem.run_bind]
      rw [run_store hc hf (h1 v (List.mem_cons_self ..)), Result.andThen_ok, hr]
    · rw [add_none]; simp only [World.setCell, Array.getElem?_modify]; rw [if_neg (by omega)]
    · rw [a6]
      congr 3
      apply List.ext_getElem?
      intro m
      simp only [List.getElem?_append, List.length_append, List.length_take, List.length_set, List.length_cons, List.getElem?_take, List.getElem?_set, List.getElem?_drop]
      grind

abbrev UT (P : Program) (t : TypeId) (d : TypeDesc) : Prop := ∀ w, (underlying t).run P w = .ok d w
abbrev SZ (P : Program) (t : TypeId) (n : Nat) : Prop := ∀ w, (sizeOf t).run P w = .ok n w
abbrev ZR (P : Program) (t : TypeId) (v : Value) : Prop := ∀ w, (zeroValue t).run P w = .ok v w
abbrev AG (P : Program) (t : TypeId) (b : Bool) : Prop := ∀ w, (isAgg t).run P w = .ok b w

inductive Evs (f : Operand → Value) : List Operand → List Value → Prop
  | nil : Evs f [] []
  | cons {x : Operand} {v : Value} {xs : List Operand} {vs : List Value} (h : f x = v) (k : Evs f xs vs) : Evs f (x :: xs) (v :: vs)
theorem Evs.map {f : Operand → Value} {xs : List Operand} {vs : List Value} (h : Evs f xs vs) : xs.map f = vs := by
  induction h with
  | nil => rfl
  | cons h k ih => simp [h, ih]
inductive EvP (f : Operand → Value) : List (Nat × Operand) → List (Nat × Value) → Prop
  | nil : EvP f [] []
  | cons {i : Nat} {x : Operand} {v : Value} {xs : List (Nat × Operand)} {vs : List (Nat × Value)} (h : f x = v) (k : EvP f xs vs) : EvP f ((i, x) :: xs) ((i, v) :: vs)
theorem EvP.map {f : Operand → Value} {xs : List (Nat × Operand)} {vs : List (Nat × Value)} (h : EvP f xs vs) : xs.map (fun p => (p.1, f p.2)) = vs := by
  induction h with
  | nil => rfl
  | cons h k ih => simp [h, ih]

section
variable {P : Program} {ops : Array Oper} {Q : Exit → Act → World → Prop} {n : Nat} {L : Env} {σ : Nat → Value} {ds : List Deferred} {w : World} {rest : List Oper}
variable {d : Nat} {ty : TypeId} {pos : String} {af : Array Edge} {v v1 v2 v3 : Value} {x y z : Operand}
variable {M I : Nat → Prop} {w0 wr : World} {R : List Rsc}

theorem s_alloc {t : TypeId} {zv : Value} {l : List Value} (h : Hp M I w0 wr w R) (hz : ZR P t zv) (hl : zv.cells = l.toArray) (hn : Nat.blt d n = true)
    (k : ∀ b w', Hp M I w0 wr w' (R ++ [[(b, .cells l.toArray t (0, 0))]]) → wpList P ops Q rest (st n ((d, .pointer (some ⟨b, 0, none⟩)) :: L) σ ds) w') :
    wpList P ops Q (⟨some d, .alloc t, ty, pos, af, none⟩ :: rest) (st n L σ ds) w := by
  refine sv (v := .pointer (some ⟨w.heap.size, 0, none⟩)) (w' := { w with heap := w.heap.push (.cells l.toArray t (0, 0)) }) rfl rfl hn ?_ (k _ _ (h.alloc _))
  simp [execOp, Instr.alloc, Sem.run_bind, hz w, newVar, newRow, newObj, Sem.run, hl]
theorem s_box {t : TypeId} {l : List Value} (h : Hp M I w0 wr w R) (hx : (st n L σ ds).eval x = v) (hl : v.cells = l.toArray) (hn : Nat.blt d n = true)
    (k : ∀ b w', Hp M I w0 wr w' (R ++ [[(b, .cells l.toArray t (0, 0))]]) → wpList P ops Q rest (st n ((d, .pointer (some ⟨b, 0, none⟩)) :: L) σ ds) w') :
    wpList P ops Q (⟨some d, .box t x, ty, pos, af, none⟩ :: rest) (st n L σ ds) w := by
  refine sv (v := .pointer (some ⟨w.heap.size, 0, none⟩)) (w' := { w with heap := w.heap.push (.cells l.toArray t (0, 0)) }) rfl rfl hn ?_ (k _ _ (h.alloc _))
  simp only [execOp, hx]
  simp [Instr.box, Sem.run_bind, newVar, newRow, newObj, Sem.run, hl]
theorem r_load1 {t : TypeId} {a : Addr} (hA : AG P t false) (hc : w.cell? a = some v) : (loadVar t a).run P w = .ok v w := by
  simp [loadVar, Sem.run_bind, hA w, hc]
theorem r_loadA {t : TypeId} {a : Addr} {vs : List Value} {sz : Nat} (hA : AG P t true) (hs : SZ P t sz) (hl : vs.length = sz) (hc : CellsAt w a vs) : (loadVar t a).run P w = .ok (.agg vs.toArray) w := by
  simp [loadVar, Sem.run_bind, hA w, hs w, run_loadCells hl hc]
theorem s_load1 {t : TypeId} {a : Addr} (hx : (st n L σ ds).eval x = .pointer (some a)) (hA : AG P t false) (hc : w.cell? a = some v) (hn : Nat.blt d n = true)
    (k : wpList P ops Q rest (st n ((d, v) :: L) σ ds) w) :
    wpList P ops Q (⟨some d, .load t x, ty, pos, af, none⟩ :: rest) (st n L σ ds) w := by
  refine sv rfl rfl hn ?_ k
  simp only [execOp, hx]
  simp [Instr.loadAt, Instr.sureAddr, Sem.run_bind, r_load1 hA hc]
theorem s_loadA {t : TypeId} {a : Addr} {vs : List Value} {sz : Nat} (hx : (st n L σ ds).eval x = .pointer (some a)) (hA : AG P t true) (hs : SZ P t sz) (hl : vs.length = sz) (hc : CellsAt w a vs) (hn : Nat.blt d n = true)
    (k : wpList P ops Q rest (st n ((d, .agg vs.toArray) :: L) σ ds) w) :
    wpList P ops Q (⟨some d, .load t x, ty, pos, af, none⟩ :: rest) (st n L σ ds) w := by
  refine sv rfl rfl hn ?_ k
  simp only [execOp, hx]
  simp [Instr.loadAt, Instr.sureAddr, Sem.run_bind, r_loadA hA hs hl hc]
theorem s_store {t e : TypeId} {b off i j sz : Nat} {r : Rsc} {l l' vs : List Value} (h : Hp M I w0 wr w R) (hx : (st n L σ ds).eval x = .pointer (some ⟨b, off, none⟩)) (hy : (st n L σ ds).eval y = v)
    (hv : v.cells = vs.toArray) (hs : SZ P t sz) (hl : vs.length = sz) (h1 : vs.all one = true)
    (hi : R[i]? = some r) (hj : r[j]? = some (b, .cells l.toArray e (0, 0))) (hle : Nat.ble (off + vs.length) l.length = true) (hl' : l.take off ++ vs ++ l.drop (off + vs.length) = l')
    (k : ∀ w', Hp M I w0 wr w' (R.set i (r.set j (b, .cells l'.toArray e (0, 0)))) → wpList P ops Q rest (st n L σ ds) w') :
    wpList P ops Q (⟨none, .store t x y, ty, pos, af, none⟩ :: rest) (st n L σ ds) w := by
  subst hl'
  obtain ⟨w', hr, a1, a2, a3, a4, a5, a6⟩ := run_storeCells (P := P) vs 0 off l w (h.get hi hj) (fun u hu => List.all_eq_true.1 h1 u hu) (by have := Nat.le_of_ble_eq_true hle; omega)
  rw [Nat.add_zero] at a6
  refine su rfl rfl ?_ (k w' (h.upd hi hj a1 a2 a3 a4 a5 a6))
  simp only [execOp, hx, hy]
  simp [Instr.storeAt, Instr.sureAddr, storeVar, Sem.run_bind, hs w, hv, hl, hr]
theorem s_fieldAddr {s : TypeId} {a a' : Addr} {f sz : Nat} {fs : Array Field} {fd : Field} (hx : (st n L σ ds).eval x = .pointer (some a)) (hu : UT P s (.struct fs)) (hf : fs[f]? = some fd) (hs : SZ P fd.type sz) (hsz : Nat.beq sz 0 = false)
    (ha : a.add fd.offset = a') (hn : Nat.blt d n = true)
    (k : wpList P ops Q rest (st n ((d, .pointer (some a')) :: L) σ ds) w) :
    wpList P ops Q (⟨some d, .fieldAddr s x f, ty, pos, af, none⟩ :: rest) (st n L σ ds) w := by
  refine sv rfl rfl hn ?_ k
  subst ha
  have hz : ¬ sz = 0 := fun e => by rw [e] at hsz; cases hsz
  simp only [execOp, hx]
  simp [Instr.fieldAt, Instr.sureAddr, fieldPlace, Sem.run_bind, hu w, hf, hs w, hz]
theorem s_field1 {s : TypeId} {f : Nat} {fs : Array Field} {fd : Field} {cs : List Value} (hx : (st n L σ ds).eval x = .agg cs.toArray) (hu : UT P s (.struct fs)) (hf : fs[f]? = some fd) (hA : AG P fd.type false) (hv : cs[fd.offset]? = some v) (hn : Nat.blt d n = true)
    (k : wpList P ops Q rest (st n ((d, v) :: L) σ ds) w) :
    wpList P ops Q (⟨some d, .field s x f, ty, pos, af, none⟩ :: rest) (st n L σ ds) w := by
  refine sv rfl rfl hn ?_ k
  simp only [execOp, hx]
  simp [Instr.field, asAgg, part, Sem.run_bind, hu w, hf, hA w, hv]
theorem s_fieldA {s : TypeId} {f sz : Nat} {fs : Array Field} {fd : Field} {cs vs : List Value} (hx : (st n L σ ds).eval x = .agg cs.toArray) (hu : UT P s (.struct fs)) (hf : fs[f]? = some fd) (hA : AG P fd.type true) (hs : SZ P fd.type sz) (hv : (cs.drop fd.offset).take sz = vs) (hn : Nat.blt d n = true)
    (k : wpList P ops Q rest (st n ((d, .agg vs.toArray) :: L) σ ds) w) :
    wpList P ops Q (⟨some d, .field s x f, ty, pos, af, none⟩ :: rest) (st n L σ ds) w := by
  refine sv rfl rfl hn ?_ k
  subst hv
  simp only [execOp, hx]
  simp [Instr.field, asAgg, part, Sem.run_bind, hu w, hf, hA w, hs w, List.take_drop]
theorem s_extract {i : Nat} {vs : List Value} (hx : (st n L σ ds).eval x = .tuple vs.toArray) (hv : vs[i]? = some v) (hn : Nat.blt d n = true)
    (k : wpList P ops Q rest (st n ((d, v) :: L) σ ds) w) :
    wpList P ops Q (⟨some d, .extract x i, ty, pos, af, none⟩ :: rest) (st n L σ ds) w := by
  refine sv rfl rfl hn ?_ k
  simp only [execOp, hx]
  simp [Instr.extract, Sem.run_bind, hv]
def Blds (P : Program) (t : TypeId) : Prop := ∃ zv places, ZR P t zv ∧ ∀ ps cells w, Instr.fill places zv.cells ps = some cells → (Instr.build t ps.toArray).run P w = .ok (.agg cells) w
theorem s_build {t : TypeId} {ps : List (Nat × Operand)} {vs : List (Nat × Value)} {cs : List Value} (hx : EvP (st n L σ ds).eval ps vs) (hb : ∀ w, (Instr.build t vs.toArray).run P w = .ok (.agg cs.toArray) w) (hn : Nat.blt d n = true)
    (k : wpList P ops Q rest (st n ((d, .agg cs.toArray) :: L) σ ds) w) :
    wpList P ops Q (⟨some d, .build t ps.toArray, ty, pos, af, none⟩ :: rest) (st n L σ ds) w := by
  refine sv rfl rfl hn ?_ k
  simp only [execOp, List.map_toArray, hx.map]
  simp [Sem.run_bind, hb w]
theorem s_index {t e : TypeId} {m : Nat} {cs : List Value} {i : Int} {k' : IntKind} (hx : (st n L σ ds).eval x = .agg cs.toArray) (hy : (st n L σ ds).eval y = .int k' i) (hu : UT P t (.array m e)) (hA : AG P e false) (hs : SZ P e 1)
    (h0 : 0 ≤ i) (h1 : i < m) (hv : cs[i.toNat]? = some v) (hn : Nat.blt d n = true)
    (k : wpList P ops Q rest (st n ((d, v) :: L) σ ds) w) :
    wpList P ops Q (⟨some d, .index t x y, ty, pos, af, none⟩ :: rest) (st n L σ ds) w := by
  refine sv rfl rfl hn ?_ k
  simp only [execOp, hx, hy]
  simp [Instr.index, asIntOf, part, Sem.run_bind, hu w, hA w, hs w, h0, h1, hv]
theorem s_indexs {t : TypeId} {s : ByteArray} {i : Int} {k' : IntKind} {c : Int} (hx : (st n L σ ds).eval x = .string s) (hy : (st n L σ ds).eval y = .int k' i) (hu : UT P t .string)
    (h0 : 0 ≤ i) (h1 : i < s.size) (hv : ((s[i.toNat]'(by omega)).toNat : Int) = c) (hn : Nat.blt d n = true)
    (k : wpList P ops Q rest (st n ((d, .int .u8 c) :: L) σ ds) w) :
    wpList P ops Q (⟨some d, .index t x y, ty, pos, af, none⟩ :: rest) (st n L σ ds) w := by
  refine sv rfl rfl hn ?_ k
  subst hv
  have h2 : i.toNat < s.size := by omega
  simp only [execOp, hx, hy]
  simp [Instr.index, asIntOf, Sem.run_bind, hu w, h0, h2]
theorem s_makeFunc {fn : Fn} {fi ca : List Operand} {v1 v2 : List Value} (h1 : Evs (st n L σ ds).eval fi v1) (h2 : Evs (st n L σ ds).eval ca v2) (hn : Nat.blt d n = true)
    (k : wpList P ops Q rest (st n ((d, .func fn v1.toArray v2.toArray) :: L) σ ds) w) :
    wpList P ops Q (⟨some d, .makeFunc fn fi.toArray ca.toArray, ty, pos, af, none⟩ :: rest) (st n L σ ds) w := by
  refine sv rfl rfl hn ?_ k
  simp only [execOp, List.map_toArray, h1.map, h2.map]
  simp [Instr.makeFunc, Sem.run_bind]
theorem s_nilCheckP {a : Addr} (hx : (st n L σ ds).eval x = .pointer (some a)) (hn : Nat.blt d n = true)
    (k : wpList P ops Q rest (st n ((d, .pointer (some a)) :: L) σ ds) w) :
    wpList P ops Q (⟨some d, .nilCheck x, ty, pos, af, none⟩ :: rest) (st n L σ ds) w := by
  refine sv rfl rfl hn ?_ k
  simp only [execOp, hx]
  rfl

theorem wp_call {o : Oper} {f : FuncId} {args : List Value} {Φ : Value → World → Prop} {K : Act → World → Prop} {a : Act}
    (hx : (execOp a.eval o).run P w = .ok (.enter f args.toArray) w) (hc : Ret P f args w Φ) (k : ∀ v w', Φ v w' → K (a.put o.dst v) w') : o.wp P a w K Q := by
  unfold Oper.wp
  rw [hx, Oper.upon_enter]
  refine Calls.mono hc fun e w' he => ?_
  obtain ⟨v, rfl, hv⟩ := he
  exact k v w' hv
theorem wp_callP {o : Oper} {f : FuncId} {args : List Value} {Φ : Value → World → Prop} {Ψ : List PanicEntry → World → Prop} {K : Act → World → Prop} {a : Act}
    (hx : (execOp a.eval o).run P w = .ok (.enter f args.toArray) w) (hc : RetP P f args w Φ Ψ) (k : ∀ v w', Φ v w' → K (a.put o.dst v) w') (kp : ∀ c w', Ψ c w' → Q (.panic c) a w') : o.wp P a w K Q := by
  unfold Oper.wp
  rw [hx, Oper.upon_enter]
  refine Calls.mono hc fun e w' he => ?_
  rcases he with ⟨v, rfl, hv⟩ | ⟨c, rfl, hv⟩
  · exact k v w' hv
  · exact kp c w' hv
theorem x_call {f : FuncId} {xs : List Operand} {vs : List Value} {ats : Array TypeId} {dst : Option Tmp} {a : Act} (hx : Evs a.eval xs vs) (hcf : ∀ args w, (callFunc f args).run P w = .ok (.enter f args) w) :
    (execOp a.eval ⟨dst, .call { callee := .value (.func f), args := xs.toArray, argTypes := ats }, ty, pos, af, none⟩).run P w = .ok (.enter f vs.toArray) w := by
  simp only [execOp, resolve, List.map_toArray, hx.map]
  simp [Act.eval, Deferred.ofValue, Sem.run_bind, invoke, hcf]
theorem x_callc {f : FuncId} {c : Operand} {ca : List Value} {xs : List Operand} {vs : List Value} {ats : Array TypeId} {dst : Option Tmp} {a : Act} (hc : a.eval c = .func (.func f) #[] ca.toArray) (hx : Evs a.eval xs vs) (hcf : ∀ args w, (callFunc f args).run P w = .ok (.enter f args) w) :
    (execOp a.eval ⟨dst, .call { callee := .value c, args := xs.toArray, argTypes := ats }, ty, pos, af, none⟩).run P w = .ok (.enter f (vs ++ ca).toArray) w := by
  simp only [execOp, resolve, List.map_toArray, hx.map, hc]
  simp [Deferred.ofValue, Sem.run_bind, invoke, hcf]
theorem s_call {f : FuncId} {xs : List Operand} {vs : List Value} {ats : Array TypeId} {Φ : Value → World → Prop} (hx : Evs (st n L σ ds).eval xs vs) (hcf : ∀ args w, (callFunc f args).run P w = .ok (.enter f args) w)
    (hc : Ret P f vs w Φ) (hn : Nat.blt d n = true) (k : ∀ v w', Φ v w' → wpList P ops Q rest (st n ((d, v) :: L) σ ds) w') :
    wpList P ops Q (⟨some d, .call { callee := .value (.func f), args := xs.toArray, argTypes := ats }, ty, pos, af, none⟩ :: rest) (st n L σ ds) w :=
  wpList_plain rfl fun K hK => wp_call (x_call hx hcf) hc fun v w' hv => by rw [put_st hn]; exact hK _ _ (k v w' hv)
theorem s_call0 {f : FuncId} {xs : List Operand} {vs : List Value} {ats : Array TypeId} {Φ : Value → World → Prop} (hx : Evs (st n L σ ds).eval xs vs) (hcf : ∀ args w, (callFunc f args).run P w = .ok (.enter f args) w)
    (hc : Ret P f vs w Φ) (k : ∀ v w', Φ v w' → wpList P ops Q rest (st n L σ ds) w') :
    wpList P ops Q (⟨none, .call { callee := .value (.func f), args := xs.toArray, argTypes := ats }, ty, pos, af, none⟩ :: rest) (st n L σ ds) w :=
  wpList_plain rfl fun K hK => wp_call (x_call hx hcf) hc fun v w' hv => hK _ _ (k v w' hv)
theorem s_callP {f : FuncId} {xs : List Operand} {vs : List Value} {ats : Array TypeId} {Φ : Value → World → Prop} {Ψ : List PanicEntry → World → Prop} (hx : Evs (st n L σ ds).eval xs vs) (hcf : ∀ args w, (callFunc f args).run P w = .ok (.enter f args) w)
    (hc : RetP P f vs w Φ Ψ) (hn : Nat.blt d n = true) (kp : ∀ c w', Ψ c w' → Q (.panic c) (st n L σ ds) w') (k : ∀ v w', Φ v w' → wpList P ops Q rest (st n ((d, v) :: L) σ ds) w') :
    wpList P ops Q (⟨some d, .call { callee := .value (.func f), args := xs.toArray, argTypes := ats }, ty, pos, af, none⟩ :: rest) (st n L σ ds) w :=
  wpList_plain rfl fun K hK => wp_callP (x_call hx hcf) hc (fun v w' hv => by rw [put_st hn]; exact hK _ _ (k v w' hv)) kp
theorem s_callP0 {f : FuncId} {xs : List Operand} {vs : List Value} {ats : Array TypeId} {Φ : Value → World → Prop} {Ψ : List PanicEntry → World → Prop} (hx : Evs (st n L σ ds).eval xs vs) (hcf : ∀ args w, (callFunc f args).run P w = .ok (.enter f args) w)
    (hc : RetP P f vs w Φ Ψ) (kp : ∀ c w', Ψ c w' → Q (.panic c) (st n L σ ds) w') (k : ∀ v w', Φ v w' → wpList P ops Q rest (st n L σ ds) w') :
    wpList P ops Q (⟨none, .call { callee := .value (.func f), args := xs.toArray, argTypes := ats }, ty, pos, af, none⟩ :: rest) (st n L σ ds) w :=
  wpList_plain rfl fun K hK => wp_callP (x_call hx hcf) hc (fun v w' hv => hK _ _ (k v w' hv)) kp
theorem s_callc {f : FuncId} {c : Operand} {ca : List Value} {xs : List Operand} {vs as : List Value} {ats : Array TypeId} {Φ : Value → World → Prop} (hc0 : (st n L σ ds).eval c = .func (.func f) #[] ca.toArray) (hx : Evs (st n L σ ds).eval xs vs) (hcf : ∀ args w, (callFunc f args).run P w = .ok (.enter f args) w)
    (ha : vs ++ ca = as) (hc : Ret P f as w Φ) (hn : Nat.blt d n = true) (k : ∀ v w', Φ v w' → wpList P ops Q rest (st n ((d, v) :: L) σ ds) w') :
    wpList P ops Q (⟨some d, .call { callee := .value c, args := xs.toArray, argTypes := ats }, ty, pos, af, none⟩ :: rest) (st n L σ ds) w := by
  subst ha
  exact wpList_plain rfl fun K hK => wp_call (x_callc hc0 hx hcf) hc fun v w' hv => by rw [put_st hn]; exact hK _ _ (k v w' hv)
theorem s_builtin {b : Builtin} {xs : List Operand} {vs : List Value} {ats : Array TypeId} {w' : World} (hx : Evs (st n L σ ds).eval xs vs)
    (hr : (builtin b ats ty (xs.map fun | .const _ => true | _ => false).toArray vs.toArray).run P w = .ok (.value v) w') (hn : Nat.blt d n = true)
    (k : wpList P ops Q rest (st n ((d, v) :: L) σ ds) w') :
    wpList P ops Q (⟨some d, .call { callee := .builtin b, args := xs.toArray, argTypes := ats }, ty, pos, af, none⟩ :: rest) (st n L σ ds) w := by
  refine sv rfl rfl hn ?_ k
  simp only [execOp, resolve, List.map_toArray, hx.map]
  simp only [Sem.run_bind, Sem.run_pure, Result.andThen_ok, invoke]
  exact hr
theorem r_lens {t : TypeId} {e : TypeId} {A : Option Addr} {m c : Nat} {cs : Array Bool} (hu : UT P t (.slice e)) :
    (builtin .len #[t] ty cs [Value.slice A m c].toArray).run P w = .ok (.value (.int .i64 m)) w := by
  simp [builtin, Builtin.len_, Sem.run_bind, hu w, goInt]
theorem r_lenstr {t : TypeId} {s : ByteArray} {cs : Array Bool} (hu : UT P t .string) :
    (builtin .len #[t] ty cs [Value.string s].toArray).run P w = .ok (.value (.int .i64 s.size)) w := by
  simp [builtin, Builtin.len_, Sem.run_bind, hu w, goInt]
theorem r_max {a b c : Int} {k : IntKind} {ts : Array TypeId} {cs : Array Bool} (hc : (if b > a then b else a) = c) :
    (builtin .max ts ty cs [Value.int k a, Value.int k b].toArray).run P w = .ok (.value (.int k c)) w := by
  subst hc
  simp [builtin, Builtin.max_, Builtin.max2, Sem.run_bind]
theorem r_min {a b c : Int} {k : IntKind} {ts : Array TypeId} {cs : Array Bool} (hc : (if b < a then b else a) = c) :
    (builtin .min ts ty cs [Value.int k a, Value.int k b].toArray).run P w = .ok (.value (.int k c)) w := by
  subst hc
  simp [builtin, Builtin.min_, Builtin.min2, Sem.run_bind]
end

theorem below_refl (w : World) : Below w.heap.size w w := ⟨rfl, rfl, rfl, Nat.le_refl _, fun _ _ => rfl⟩
theorem below_trans {w w' w'' : World} (h : Below w.heap.size w w') (k : Below w'.heap.size w' w'') : Below w.heap.size w w'' :=
  ⟨k.os.trans h.os, k.tape.trans h.tape, k.output.trans h.output, Nat.le_trans h.size k.size, fun i hi => (k.block i (Nat.lt_of_lt_of_le hi h.size)).trans (h.block i hi)⟩

def On (R : List Rsc) (k : Nat) : Prop := ∃ p ∈ R.flatten, p.1 = k
structure Have (w : World) (R : List Rsc) : Prop where
  own : ∀ p ∈ R.flatten, w.heap[p.1]? = some p.2
  nodup : (R.flatten.map (·.1)).Nodup
def Off (w : World) (R : List Rsc) (k : Nat) : Prop := k < w.heap.size ∧ ¬ On R k
structure Aft (w w' : World) (R R' : List Rsc) : Prop where
  os : w'.os = w.os
  tape : w'.tape = w.tape
  output : w'.output = w.output
  le : w.heap.size ≤ w'.heap.size
  old : ∀ k, k < w.heap.size → ¬ On R k → w'.heap[k]? = w.heap[k]?
  own : ∀ p ∈ R'.flatten, w'.heap[p.1]? = some p.2
  fresh : ∀ p ∈ R'.flatten, On R p.1 ∨ w.heap.size ≤ p.1
  nodup : (R'.flatten.map (·.1)).Nodup
def Up (I : Nat → Prop) (w : World) (I' : Nat → Prop) (w' : World) : Prop := ∀ k, I k → I' k ∧ w'.heap[k]? = w.heap[k]?
theorem Up.refl (I : Nat → Prop) (w : World) : Up I w I w := fun k h => ⟨h, rfl⟩
theorem Up.trans {I I' I'' : Nat → Prop} {w w' w'' : World} (h : Up I w I' w') (k : Up I' w' I'' w'') : Up I w I'' w'' :=
  fun j hj => ⟨(k j (h j hj).1).1, (k j (h j hj).1).2.trans (h j hj).2⟩

theorem Have.nil (w : World) : Have w [] := ⟨by simp, by simp⟩
theorem On.nil {k : Nat} (h : On [] k) : False := by obtain ⟨p, hp, _⟩ := h; simp at hp

namespace Hp
variable {M I : Nat → Prop} {w0 wr w w' : World} {R : List Rsc}
theorem startR {F : Nat → Prop} {R : List Rsc} (h : Have w R) (hF : ∀ k, F k → Off w R k) : Hp (On R) F w w w R :=
  ⟨rfl, rfl, rfl, Nat.le_refl _, fun _ _ _ => rfl, fun _ _ => rfl, fun k hk => (hF k hk).1, h.own, fun p hp => ⟨.inl ⟨p, hp, rfl⟩, fun hk => (hF _ hk).2 ⟨p, hp, rfl⟩⟩, h.nodup⟩
theorem start0 {F : Nat → Prop} (hF : ∀ k, F k → k < w.heap.size) : Hp (On []) F w w w [] := startR (Have.nil w) fun k hk => ⟨hF k hk, fun h => On.nil h⟩
theorem aft {R0 : List Rsc} {w1 : World} (h : Hp (On R0) I w wr w1 R) : Aft w w1 R0 R := ⟨h.os, h.tape, h.output, h.le, h.old, h.own, fun p hp => (h.fresh p hp).1, h.nodup⟩
theorem have_ (h : Hp M I w0 wr w R) : Have w R := ⟨h.own, h.nodup⟩
theorem up (h : Hp M I w0 wr w R) : Up I wr I w := fun k hk => ⟨hk, h.imm k hk⟩
theorem off (h : Hp M I w0 wr w R) {Rin : List Rsc} (hs : ∀ p ∈ Rin.flatten, p ∈ R.flatten) : ∀ k, I k → Off w Rin k :=
  fun k hk => ⟨h.ilt k hk, fun ⟨p, hp, e⟩ => (h.fresh p (hs p hp)).2 (e ▸ hk)⟩
theorem call {Rin Rest Rout : List Rsc} (h : Hp M I w0 wr w (Rin ++ Rest)) (a : Aft w w' Rin Rout) : Hp M I w0 wr w' (Rout ++ Rest) := by
  have hin : ∀ p, p ∈ Rin.flatten → p ∈ (Rin ++ Rest).flatten := fun p hp => by simp only [List.flatten_append, List.mem_append]; exact .inl hp
  have hre : ∀ p, p ∈ Rest.flatten → p ∈ (Rin ++ Rest).flatten := fun p hp => by simp only [List.flatten_append, List.mem_append]; exact .inr hp
  have hnd := h.nodup
  simp only [List.flatten_append, List.map_append, List.nodup_append] at hnd
  have hoff : ∀ p ∈ Rest.flatten, ¬ On Rin p.1 := fun p hp ⟨q, hq, e⟩ => hnd.2.2 _ (List.mem_map.2 ⟨q, hq, rfl⟩) _ (List.mem_map.2 ⟨p, hp, rfl⟩) e
  refine ⟨a.os.trans h.os, a.tape.trans h.tape, a.output.trans h.output, Nat.le_trans h.le a.le, ?_, ?_, ?_, ?_, ?_, ?_⟩
  · intro k hk hm
    refine (a.old k (Nat.lt_of_lt_of_le hk h.le) fun ⟨q, hq, e⟩ => ?_).trans (h.old k hk hm)
    rcases (h.fresh q (hin q hq)).1 with h1 | h1
    · exact hm (e ▸ h1)
    · omega
  · intro k hk
    exact (a.old k (h.ilt k hk) fun ⟨q, hq, e⟩ => (h.fresh q (hin q hq)).2 (e ▸ hk)).trans (h.imm k hk)
  · intro k hk; exact Nat.lt_of_lt_of_le (h.ilt k hk) a.le
  · intro p hp
    simp only [List.flatten_append, List.mem_append] at hp
    rcases hp with hp | hp
    · exact a.own p hp
    · exact (a.old _ (h.lt (hre p hp)) (hoff p hp)).trans (h.own p (hre p hp))
  · intro p hp
    simp only [List.flatten_append, List.mem_append] at hp
    rcases hp with hp | hp
    · rcases a.fresh p hp with ⟨q, hq, e⟩ | hle
      · rw [← e]; exact h.fresh q (hin q hq)
      · exact ⟨.inr (Nat.le_trans h.le hle), fun hi => by have := h.ilt _ hi; omega⟩
    · exact h.fresh p (hre p hp)
  · simp only [List.flatten_append, List.map_append, List.nodup_append]
    refine ⟨a.nodup, hnd.2.1, ?_⟩
    intro x hx y hy e
    obtain ⟨p, hp, rfl⟩ := List.mem_map.1 hx
    obtain ⟨q, hq, rfl⟩ := List.mem_map.1 hy
    rcases a.fresh p hp with hon | hle
    · exact hoff q hq (e ▸ hon)
    · have := h.lt (hre q hq); omega
theorem freeze {X : Rsc} (h : Hp M I w0 wr w (X :: R)) : Hp M (fun k => I k ∨ On [X] k) w0 w w R := by
  have hX : ∀ p, p ∈ X → p ∈ (X :: R).flatten := fun p hp => by simp only [List.flatten_cons, List.mem_append]; exact .inl hp
  have hR : ∀ p, p ∈ R.flatten → p ∈ (X :: R).flatten := fun p hp => by simp only [List.flatten_cons, List.mem_append]; exact .inr hp
  have hnd := h.nodup
  simp only [List.flatten_cons, List.map_append, List.nodup_append] at hnd
  refine ⟨h.os, h.tape, h.output, h.le, h.old, fun _ _ => rfl, ?_, fun p hp => h.own p (hR p hp), fun p hp => ⟨(h.fresh p (hR p hp)).1, ?_⟩, hnd.2.1⟩
  · rintro k (hk | ⟨p, hp, e⟩)
    · exact h.ilt k hk
    · simp at hp; rw [← e]; exact h.lt (hX p hp)
  · rintro (hk | ⟨q, hq, e⟩)
    · exact (h.fresh p (hR p hp)).2 hk
    · simp at hq
      exact hnd.2.2 _ (List.mem_map.2 ⟨q, hq, rfl⟩) _ (List.mem_map.2 ⟨p, hp, rfl⟩) e
theorem frozenUp {X : Rsc} (h : Hp M I w0 wr w (X :: R)) : Up I wr (fun k => I k ∨ On [X] k) w := fun k hk => ⟨.inl hk, h.imm k hk⟩
theorem callF {I' : Nat → Prop} {Rin Rest Rout : List Rsc} (h : Hp M I w0 wr w (Rin ++ Rest)) (a : Aft w w' Rin Rout) (hu : Up I w I' w') (hn : ∀ k, I' k → I k ∨ On Rin k ∨ w.heap.size ≤ k) (ho : ∀ k, I' k → Off w' Rout k) :
    Hp M I' w0 w' w' (Rout ++ Rest) := by
  have h2 := h.call a
  have hnd := h.nodup
  simp only [List.flatten_append, List.map_append, List.nodup_append] at hnd
  refine ⟨h2.os, h2.tape, h2.output, h2.le, h2.old, fun _ _ => rfl, fun k hk => (ho k hk).1, h2.own, fun p hp => ⟨(h2.fresh p hp).1, fun hk => ?_⟩, h2.nodup⟩
  simp only [List.flatten_append, List.mem_append] at hp
  rcases hp with hp | hp
  · exact (ho _ hk).2 ⟨p, hp, rfl⟩
  · have hp' : p ∈ (Rin ++ Rest).flatten := by simp only [List.flatten_append, List.mem_append]; exact .inr hp
    rcases hn _ hk with hk | ⟨q, hq, e⟩ | hk
    · exact (h.fresh p hp').2 hk
    · exact hnd.2.2 _ (List.mem_map.2 ⟨q, hq, rfl⟩) _ (List.mem_map.2 ⟨p, hp, rfl⟩) e
    · have := h.lt hp'; omega
theorem callUp {I' : Nat → Prop} {R : List Rsc} (h : Hp M I w0 wr w R) (hu : Up I w I' w') : Up I wr I' w' := (h.up).trans hu
end Hp
theorem Aft.below {w w' : World} {R' : List Rsc} (a : Aft w w' [] R') : Below w.heap.size w w' := ⟨a.os, a.tape, a.output, a.le, fun k hk => a.old k hk fun h => On.nil h⟩
theorem aft_of_below {w w' : World} (b : Below w.heap.size w w') : Aft w w' [] [] := ⟨b.os, b.tape, b.output, b.size, fun k hk _ => b.block k hk, by simp, by simp, by simp⟩
theorem Aft.drop {w w' : World} {R R' : List Rsc} (a : Aft w w' R R') {R'' : List Rsc} (hs : R''.flatten.Sublist R'.flatten) : Aft w w' R R'' :=
  ⟨a.os, a.tape, a.output, a.le, a.old, fun p hp => a.own p (hs.subset hp), fun p hp => a.fresh p (hs.subset hp), a.nodup.sublist (hs.map _)⟩
def Cov (I : Nat → Prop) (R : List Rsc) (k : Nat) : Prop := I k ∨ On R k
section
variable {M I : Nat → Prop} {w0 wr w w' : World} {R : List Rsc}
theorem Hp.upCov {Rest : List Rsc} (h : Hp M I w0 wr w R) : Up I wr (Cov I Rest) w := fun k hk => ⟨.inl hk, h.imm k hk⟩
theorem flat_inj {R : List Rsc} (hn : (R.flatten.map (·.1)).Nodup) : ∀ {i j : Nat} {r s : Rsc} {p q : Nat × Obj}, R[i]? = some r → R[j]? = some s → p ∈ r → q ∈ s → p.1 = q.1 → i = j := by
  induction R with
  | nil => intro i j r s p q hi; simp at hi
  | cons X R ih =>
    intro i j r s p q hi hj hp hq he
    simp only [List.flatten_cons, List.map_append, List.nodup_append] at hn
    cases i with
    | zero =>
      cases j with
      | zero => rfl
      | succ j =>
        simp at hi hj; subst hi
        exact absurd he (hn.2.2 _ (List.mem_map.2 ⟨p, hp, rfl⟩) _ (List.mem_map.2 ⟨q, List.mem_flatten.2 ⟨s, List.mem_of_getElem? hj, hq⟩, rfl⟩))
    | succ i =>
      cases j with
      | zero =>
        simp at hi hj; subst hj
        exact absurd he.symm (hn.2.2 _ (List.mem_map.2 ⟨q, hq, rfl⟩) _ (List.mem_map.2 ⟨p, List.mem_flatten.2 ⟨r, List.mem_of_getElem? hi, hp⟩, rfl⟩))
      | succ j =>
        simp at hi hj
        rw [ih hn.2.1 hi hj hp hq he]
theorem Hp.pick {R' : List Rsc} (idx : List Nat) (h : Hp M I w0 wr w R) (hn : idx.Nodup) (hR : idx.map (fun i => R.getD i []) = R') : Hp M I w0 wr w R' := by
  subst hR
  have hmem : ∀ p, p ∈ (idx.map (fun i => R.getD i [])).flatten → p ∈ R.flatten := by
    intro p hp
    obtain ⟨X, hX, hp⟩ := List.mem_flatten.1 hp
    obtain ⟨i, _, rfl⟩ := List.mem_map.1 hX
    by_cases hi : i < R.length
    · rw [List.getD_eq_getElem?_getD, List.getElem?_eq_getElem hi] at hp
      exact List.mem_flatten.2 ⟨R[i], List.getElem_mem hi, hp⟩
    · rw [List.getD_eq_getElem?_getD, List.getElem?_eq_none (by omega)] at hp; simp at hp
  refine ⟨h.os, h.tape, h.output, h.le, h.old, h.imm, h.ilt, fun p hp => h.own p (hmem p hp), fun p hp => h.fresh p (hmem p hp), ?_⟩
  induction idx with
  | nil => simp
  | cons i idx ih =>
    simp only [List.map_cons, List.flatten_cons, List.map_append, List.nodup_append]
    rw [List.nodup_cons] at hn
    refine ⟨?_, ih hn.2 (fun p hp => hmem p (by simp only [List.map_cons, List.flatten_cons, List.mem_append]; exact .inr hp)), ?_⟩
    · by_cases hi : i < R.length
      · rw [List.getD_eq_getElem?_getD, List.getElem?_eq_getElem hi]
        exact h.nodup.sublist ((List.sublist_flatten_of_mem (List.getElem_mem hi)).map _)
      · rw [List.getD_eq_getElem?_getD, List.getElem?_eq_none (by omega)]; simp
    · intro x hx y hy e
      subst e
      obtain ⟨p, hp, rfl⟩ := List.mem_map.1 hx
      obtain ⟨q, hq, hqp⟩ := List.mem_map.1 hy
      obtain ⟨X, hX, hq⟩ := List.mem_flatten.1 hq
      obtain ⟨j, hj, rfl⟩ := List.mem_map.1 hX
      have gi_ : ∀ {i : Nat} {p : Nat × Obj}, p ∈ R.getD i [] → R[i]? = some (R.getD i []) := by
        intro i p hp
        by_cases hi : i < R.length
        · simp [List.getD_eq_getElem?_getD, List.getElem?_eq_getElem hi]
        · rw [List.getD_eq_getElem?_getD, List.getElem?_eq_none (by omega)] at hp; simp at hp
      have := flat_inj h.nodup (gi_ hp) (gi_ hq) hp hq hqp.symm
      subst this
      exact hn.1 hj
theorem Hp.nilRes (h : Hp M I w0 wr w R) : Hp M I w0 wr w (R ++ [[]]) := by
  have : (R ++ [[]]).flatten = R.flatten := by simp
  exact ⟨h.os, h.tape, h.output, h.le, h.old, h.imm, h.ilt, by rw [this]; exact h.own, by rw [this]; exact h.fresh, by rw [this]; exact h.nodup⟩
theorem Hp.have1 (h : Hp M I w0 wr w R) (Rin Rest : List Rsc) (e : R = Rin ++ Rest) : Have w Rin := by
  subst e
  refine ⟨fun p hp => h.own p (by simp only [List.flatten_append, List.mem_append]; exact .inl hp), ?_⟩
  have hnd := h.nodup
  simp only [List.flatten_append, List.map_append, List.nodup_append] at hnd
  exact hnd.1
theorem subRest {R : List Rsc} (Rin Rest : List Rsc) (e : R = Rin ++ Rest) : ∀ p ∈ Rest.flatten, p ∈ R.flatten := fun p hp => by
  subst e; simp only [List.flatten_append, List.mem_append]; exact .inr hp
theorem Hp.offCov (h : Hp M I w0 wr w R) (Rin Rest : List Rsc) (e : R = Rin ++ Rest) : ∀ k, Cov I Rest k → Off w Rin k := by
  subst e
  have hnd := h.nodup
  simp only [List.flatten_append, List.map_append, List.nodup_append] at hnd
  have hin : ∀ p, p ∈ Rin.flatten → p ∈ (Rin ++ Rest).flatten := fun p hp => by simp only [List.flatten_append, List.mem_append]; exact .inl hp
  have hre : ∀ p, p ∈ Rest.flatten → p ∈ (Rin ++ Rest).flatten := fun p hp => by simp only [List.flatten_append, List.mem_append]; exact .inr hp
  rintro k (hk | ⟨q, hq, e⟩)
  · exact ⟨h.ilt k hk, fun ⟨p, hp, e⟩ => (h.fresh p (hin p hp)).2 (e ▸ hk)⟩
  · exact ⟨e ▸ h.lt (hre q hq), fun ⟨p, hp, e2⟩ => hnd.2.2 _ (List.mem_map.2 ⟨p, hp, rfl⟩) _ (List.mem_map.2 ⟨q, hq, rfl⟩) (e2.trans e.symm)⟩
theorem Hp.offI (h : Hp M I w0 wr w R) (Rin Rest : List Rsc) (e : R = Rin ++ Rest) : ∀ k, I k → Off w Rin k := fun k hk => h.offCov Rin Rest e k (.inl hk)
end

structure Enc (α : Type) where
  sz : Nat
  rep : (Nat → Prop) → World → α → List Value → Prop
  pos : 0 < sz
  len : ∀ {F w x cs}, rep F w x cs → cs.length = sz
  one : ∀ {F w x cs}, rep F w x cs → ∀ u ∈ cs, u.oneCell' = true
  up : ∀ {F G w w' x cs}, rep F w x cs → Up F w G w' → rep G w' x cs
def gi {α : Type} [Inhabited α] (xs : List α) (i : Int) : α := xs.getD i.toNat default
def gn {α : Type} [Inhabited α] (xs : List α) (i : Nat) : α := xs.getD i default
theorem one_of {v : Value} (h : v.oneCell' = true) : B.one v = true := by cases v <;> first | rfl | (simp [Value.oneCell'] at h)
def flatE {α : Type} (enc : α → List Value) (sz : Nat) (pos : 0 < sz) (len : ∀ x, (enc x).length = sz) (one : ∀ x, ∀ u ∈ enc x, u.oneCell' = true) : Enc α :=
  ⟨sz, fun _ _ x cs => cs = enc x, pos, fun h => by rw [h, len], fun h => by rw [h]; exact one _, fun h _ => h⟩
def intE (k : IntKind) : Enc Int := flatE (fun x => [.int k x]) 1 Nat.one_pos (fun _ => rfl) (fun x u hu => by simp at hu; subst hu; rfl)
def boolE : Enc Bool := flatE (fun x => [.bool x]) 1 Nat.one_pos (fun _ => rfl) (fun x u hu => by simp at hu; subst hu; rfl)
def strE : Enc ByteArray := flatE (fun x => [.string x]) 1 Nat.one_pos (fun _ => rfl) (fun x u hu => by simp at hu; subst hu; rfl)
def floatE (k : FloatKind) : Enc Nat := flatE (fun x => [.float k x]) 1 Nat.one_pos (fun _ => rfl) (fun x u hu => by simp at hu; subst hu; rfl)
def no : Nat → Prop := fun _ => False
def wz : World := default
theorem upNo (G : Nat → Prop) (w' : World) : Up no wz G w' := fun k h => h.elim
def Flat {α : Type} (E : Enc α) : Prop := ∀ {F w x cs}, E.rep F w x cs → E.rep no wz x cs

section
variable {α : Type} {E : Enc α} {F G : Nat → Prop} {w w' : World}
inductive Reps (E : Enc α) (F : Nat → Prop) (w : World) : List α → List Value → Prop
  | nil : Reps E F w [] []
  | cons {x : α} {xs : List α} {c cs : List Value} (h : E.rep F w x c) (k : Reps E F w xs cs) : Reps E F w (x :: xs) (c ++ cs)
namespace Reps
theorem up {xs : List α} {cs : List Value} (h : Reps E F w xs cs) (u : Up F w G w') : Reps E G w' xs cs := by
  induction h with
  | nil => exact .nil
  | cons h k ih => exact .cons (E.up h u) ih
theorem flat (hE : Flat E) {xs : List α} {cs : List Value} (h : Reps E F w xs cs) : Reps E no wz xs cs := by
  induction h with
  | nil => exact .nil
  | cons h k ih => exact .cons (hE h) ih
theorem len {xs : List α} {cs : List Value} (h : Reps E F w xs cs) : cs.length = xs.length * E.sz := by
  induction h with
  | nil => simp
  | cons h k ih => rw [List.length_append, E.len h, ih, List.length_cons, Nat.succ_mul, Nat.add_comm]
theorem one_ {x : α} {c : List Value} (h : E.rep F w x c) : Reps E F w [x] c := by have := Reps.cons h .nil; rwa [List.append_nil] at this
theorem mem {xs : List α} {cs : List Value} (h : Reps E F w xs cs) : ∀ u ∈ cs, u.oneCell' = true := by
  induction h with
  | nil => simp
  | cons h k ih =>
    intro u hu
    rcases List.mem_append.1 hu with hu | hu
    · exact E.one h u hu
    · exact ih u hu
theorem cons' {x : α} {xs : List α} {c cs ds : List Value} (h : E.rep F w x c) (k : Reps E F w xs cs) (e : c ++ cs = ds) : Reps E F w (x :: xs) ds := e ▸ .cons h k
theorem append {xs ys : List α} {cs ds : List Value} (h : Reps E F w xs cs) (k : Reps E F w ys ds) : Reps E F w (xs ++ ys) (cs ++ ds) := by
  induction h with
  | nil => exact k
  | cons h _ ih => rw [List.append_assoc]; exact .cons h ih
theorem get {xs : List α} {cs : List Value} (h : Reps E F w xs cs) {i : Nat} {x : α} (hx : xs[i]? = some x) : ∃ c, E.rep F w x c ∧ (cs.drop (i * E.sz)).take E.sz = c := by
  induction h generalizing i with
  | nil => simp at hx
  | cons h k ih =>
    cases i with
    | zero =>
      simp at hx; subst hx
      refine ⟨_, h, ?_⟩
      rw [Nat.zero_mul, List.drop_zero, ← E.len h, List.take_left]
    | succ i =>
      simp at hx
      obtain ⟨c', hc, he⟩ := ih hx
      refine ⟨c', hc, ?_⟩
      rw [← he, Nat.succ_mul, Nat.add_comm, ← List.drop_drop]
      congr 1
      rw [← E.len h, List.drop_left]
theorem drop {xs : List α} {cs : List Value} (h : Reps E F w xs cs) (k : Nat) : Reps E F w (xs.drop k) (cs.drop (k * E.sz)) := by
  induction h generalizing k with
  | nil => simp; exact .nil
  | cons h k' ih =>
    cases k with
    | zero => simp; exact .cons h k'
    | succ k =>
      rw [List.drop_succ_cons, Nat.succ_mul, Nat.add_comm, ← List.drop_drop]
      have := ih k
      rw [← E.len h, List.drop_left]; rw [E.len h]; exact this
theorem take {xs : List α} {cs : List Value} (h : Reps E F w xs cs) (k : Nat) : Reps E F w (xs.take k) (cs.take (k * E.sz)) := by
  induction h generalizing k with
  | nil => simp; exact .nil
  | cons h k' ih =>
    cases k with
    | zero => simp; exact .nil
    | succ k =>
      rename_i c cs
      rw [List.take_succ_cons, Nat.succ_mul, Nat.add_comm, List.take_append]
      rw [List.take_of_length_le (l := c) (show c.length ≤ E.sz + k * E.sz by rw [E.len h]; omega), E.len h, Nat.add_sub_cancel_left]
      exact .cons h (ih k)
theorem set {xs : List α} {cs c : List Value} {y : α} (h : Reps E F w xs cs) {i : Nat} (hi : i < xs.length) (hy : E.rep F w y c) : Reps E F w (xs.set i y) (cs.take (i * E.sz) ++ c ++ cs.drop (i * E.sz + E.sz)) := by
  have h1 := h.take i
  have h2 := h.drop (i + 1)
  have : xs.set i y = xs.take i ++ ([y] ++ xs.drop (i + 1)) := by
    rw [List.set_eq_take_append_cons_drop, if_pos hi]; rfl
  rw [this, List.append_assoc]
  refine h1.append ((one_ hy).append ?_)
  rw [← Nat.succ_mul]; exact h2
theorem replicate {x : α} {c : List Value} (h : E.rep F w x c) : ∀ n, Reps E F w (List.replicate n x) (List.replicate n c).flatten
  | 0 => .nil
  | n + 1 => by simp only [List.replicate_succ, List.flatten_cons]; exact .cons h (replicate h n)
theorem cat {enc : α → List Value} {sz : Nat} {pos : 0 < sz} {len one} : ∀ {xs : List α} {cs : List Value}, Reps (flatE enc sz pos len one) F w xs cs ↔ cs = xs.flatMap enc := by
  intro xs cs
  constructor
  · intro h
    induction h with
    | nil => rfl
    | cons h k ih => rw [List.flatMap_cons, ih]; congr 1
  · rintro rfl
    induction xs with
    | nil => exact .nil
    | cons x xs ih => rw [List.flatMap_cons]; exact .cons rfl ih
end Reps

theorem CellsAt.block {a : Addr} {cs : List Value} (h : CellsAt w a cs) (hw : w'.heap[a.block]? = w.heap[a.block]?) : CellsAt w' a cs := fun j u hu => by
  have hc := h j u hu
  have hb : (a.add j).block = a.block := by unfold Addr.add; split <;> rfl
  rw [World.cell?_of_block (w := w) (by rw [hb]; exact hw)]
  exact hc
theorem CellsAt.part {a : Addr} {cs : List Value} (h : CellsAt w a cs) (k n : Nat) : CellsAt w (a.add k) ((cs.drop k).take n) := cells_sub h rfl

structure RdS (E : Enc α) (F : Nat → Prop) (w : World) (A : Option Addr) (c : Nat) (xs : List α) : Prop where
  len : xs.length ≤ c
  big : xs.length ≤ 140737488355328
  at_ : xs ≠ [] → ∃ a cs, A = some a ∧ F a.block ∧ CellsAt w a cs ∧ Reps E F w xs cs
namespace RdS
variable {A : Option Addr} {c : Nat} {xs : List α}
theorem nil (F : Nat → Prop) (w : World) : RdS E F w none 0 [] := ⟨Nat.le_refl _, Nat.zero_le _, fun h => absurd rfl h⟩
theorem up (h : RdS E F w A c xs) (u : Up F w G w') : RdS E G w' A c xs :=
  ⟨h.len, h.big, fun hne => by
    obtain ⟨a, cs, ha, hf, hc, hr⟩ := h.at_ hne
    exact ⟨a, cs, ha, (u _ hf).1, hc.block (u _ hf).2, hr.up u⟩⟩
theorem elem [Inhabited α] (h : RdS E F w A c xs) {i : Nat} (hi : i < xs.length) : ∃ a cs, A = some a ∧ F a.block ∧ CellsAt w (a.add (i * E.sz)) cs ∧ E.rep F w (gn xs i) cs := by
  obtain ⟨a, cs, ha, hf, hc, hr⟩ := h.at_ (fun e => by rw [e] at hi; simp at hi)
  obtain ⟨d, hd, he⟩ := hr.get (List.getElem?_eq_getElem hi)
  refine ⟨a, d, ha, hf, he ▸ hc.part _ _, ?_⟩
  have : gn xs i = xs[i] := by simp [gn, hi]
  rw [this]; exact hd
theorem drop (h : RdS E F w A c xs) {k : Nat} (hk : k ≤ xs.length) (A' : Option Addr) (hA : A' = if c = k then A else A.map (·.add (k * E.sz))) : RdS E F w A' (c - k) (xs.drop k) :=
  ⟨by have := h.len; simp; omega, by have := h.big; simp; omega, fun hne => by
    have hk' : k < xs.length := by
      rcases Nat.lt_or_ge k xs.length with h' | h'
      · exact h'
      · exact absurd (List.drop_eq_nil_of_le h') hne
    obtain ⟨a, cs, ha, hf, hc, hr⟩ := h.at_ (fun e => by rw [e] at hk'; simp at hk')
    have : ¬ c = k := by have := h.len; omega
    rw [if_neg this, ha] at hA
    refine ⟨a.add (k * E.sz), cs.drop (k * E.sz), hA, by unfold Addr.add; split <;> exact hf, ?_, hr.drop k⟩
    have := hc.part (k * E.sz) (cs.length)
    rwa [List.take_of_length_le (by simp)] at this⟩
theorem take (h : RdS E F w A c xs) {k : Nat} (hk : k ≤ xs.length) : RdS E F w A c (xs.take k) :=
  ⟨by have := h.len; simp; omega, by have := h.big; simp; omega, fun hne => by
    obtain ⟨a, cs, ha, hf, hc, hr⟩ := h.at_ (fun e => by rw [e] at hne; simp at hne)
    refine ⟨a, cs.take (k * E.sz), ha, hf, fun j u hu => hc j u ?_, hr.take k⟩
    rw [List.getElem?_take] at hu
    split at hu
    · exact hu
    · cases hu⟩
theorem cov {R : List Rsc} (h : RdS E F w A c xs) : RdS E (Cov F R) w A c xs := h.up fun k hk => ⟨.inl hk, rfl⟩
end RdS

def slE (E : Enc α) : Enc (List α) := ⟨1, fun F w x cs => ∃ A c, cs = [.slice A x.length c] ∧ RdS E F w A c x, Nat.one_pos, fun h => by obtain ⟨A, c, rfl, _⟩ := h; rfl, fun h u hu => by
    obtain ⟨A, c, rfl, _⟩ := h
    simp at hu; subst hu; rfl,
  fun h u => by
    obtain ⟨A, c, rfl, h0⟩ := h
    exact ⟨A, c, rfl, h0.up u⟩⟩
def Own (E : Enc α) (F : Nat → Prop) (w : World) (e : TypeId) (A : Option Addr) (c : Nat) (xs : List α) (X : Rsc) : Prop :=
  (A = none ∧ c = 0 ∧ xs = [] ∧ X = []) ∨
  ∃ g cur cs, A = some ⟨g, 0, none⟩ ∧ X = [(g, .cells cur e (0, 0))] ∧ xs.length ≤ c ∧ c ≤ maxLen ∧ xs.length ≤ 140737488355328 ∧ cur.size = c * E.sz ∧ cur.toList.take (xs.length * E.sz) = cs ∧ Reps E F w xs cs
namespace Own
variable {M I : Nat → Prop} {w0 wr w1 : World} {R : List Rsc} {i : Nat} {e : TypeId} {A : Option Addr} {c : Nat} {xs : List α} {X : Rsc}
theorem nil (E : Enc α) (F : Nat → Prop) (w : World) (e : TypeId) : Own E F w e none 0 ([] : List α) [] := .inl ⟨rfl, rfl, rfl, rfl⟩
theorem up (o : Own E F w e A c xs X) (u : Up F w G w') : Own E G w' e A c xs X := by
  rcases o with o | ⟨g, cur, cs, h1, h2, h3, h4, h5, h6, h7, h8⟩
  · exact .inl o
  · exact .inr ⟨g, cur, cs, h1, h2, h3, h4, h5, h6, h7, h8.up u⟩
theorem flat (hE : Flat E) (o : Own E F w e A c xs X) : Own E no wz e A c xs X := by
  rcases o with o | ⟨g, cur, cs, h1, h2, h3, h4, h5, h6, h7, h8⟩
  · exact .inl o
  · exact .inr ⟨g, cur, cs, h1, h2, h3, h4, h5, h6, h7, h8.flat hE⟩
theorem any (o : Own E no wz e A c xs X) : Own E F w e A c xs X := o.up (upNo _ _)
theorem row (o : Own E F w e A c xs X) (h : Hp M I w0 wr w1 R) (hi : R[i]? = some X) : ∃ cs, Reps E F w xs cs ∧ w1.ownsRow 0 e E.sz (.slice A xs.length c) xs.length cs := by
  rcases o with ⟨rfl, rfl, rfl, rfl⟩ | ⟨g, cur, cs, rfl, rfl, h1, h2, _, h3, h4, h5⟩
  · exact ⟨[], .nil, by simp, .inl ⟨rfl, rfl⟩⟩
  · exact ⟨cs, h5, h5.len, .inr ⟨g, c, cur, rfl, Nat.zero_le _, h.get hi (j := 0) rfl, h1, h2, h3, h4⟩⟩
theorem big (o : Own E F w e A c xs X) : xs.length ≤ 140737488355328 := by
  rcases o with ⟨rfl, rfl, rfl, rfl⟩ | ⟨g, cur, cs, rfl, rfl, h1, h2, hb, h3, h4⟩
  · simp
  · exact hb
theorem le (o : Own E F w e A c xs X) : xs.length ≤ c := by
  rcases o with ⟨rfl, rfl, rfl, rfl⟩ | ⟨g, cur, cs, rfl, rfl, h1, h2, hb, h3, h4⟩
  · simp
  · exact h1
theorem rd_ (o : Own E F w e A c xs X) (hX : ∀ p ∈ X, w1.heap[p.1]? = some p.2) (u : Up F w G w1) (hG : ∀ p ∈ X, G p.1) : RdS E G w1 A c xs := by
  rcases o with ⟨rfl, rfl, rfl, rfl⟩ | ⟨g, cur, cs, rfl, rfl, h1, h2, hb, h3, h4, h5⟩
  · exact RdS.nil _ _
  · refine ⟨h1, hb, fun _ => ⟨_, cs, rfl, hG _ (List.mem_singleton.2 rfl), fun j u hu => ?_, h5.up u⟩⟩
    rw [add_none]
    refine cell_at (hX _ (List.mem_singleton.2 rfl)) ?_
    rw [← h4, List.getElem?_take] at hu
    split at hu
    · rw [Nat.zero_add, ← Array.getElem?_toList]; exact hu
    · cases hu
theorem rd (o : Own E I wr e A c xs X) (h : Hp M I w0 wr w1 R) (hi : R[i]? = some X) : RdS E (Cov I R) w1 A c xs :=
  o.rd_ (fun p hp => h.own p (List.mem_flatten.2 ⟨X, List.mem_of_getElem? hi, hp⟩)) (fun k hk => ⟨.inl hk, h.imm k hk⟩) fun p hp => .inr ⟨p, List.mem_flatten.2 ⟨X, List.mem_of_getElem? hi, hp⟩, rfl⟩
theorem froze (o : Own E I wr e A c xs X) (h : Hp M I w0 wr w1 (X :: R)) : RdS E (fun k => I k ∨ On [X] k) w1 A c xs :=
  o.rd_ (fun p hp => h.own p (by simp only [List.flatten_cons, List.mem_append]; exact .inl hp)) (fun k hk => ⟨.inl hk, h.imm k hk⟩) fun p hp => .inr ⟨p, by simpa using hp, rfl⟩
end Own
theorem RdS.now {M I : Nat → Prop} {w0 wr w1 : World} {R : List Rsc} {A : Option Addr} {c : Nat} {xs : List α} (r : RdS E I wr A c xs) (h : Hp M I w0 wr w1 R) : RdS E I w1 A c xs := r.up h.up
theorem RdS.pass {M I : Nat → Prop} {w0 wr w1 : World} {R Rest : List Rsc} {A : Option Addr} {c : Nat} {xs : List α} (r : RdS E I wr A c xs) (h : Hp M I w0 wr w1 R) : RdS E (Cov I Rest) w1 A c xs := (r.now h).cov
theorem Own.pass {M I : Nat → Prop} {w0 wr w1 : World} {R Rest : List Rsc} {i : Nat} {e : TypeId} {A : Option Addr} {c : Nat} {xs : List α} {X : Rsc} (o : Own E I wr e A c xs X) (h : Hp M I w0 wr w1 R) (hs : ∀ p ∈ Rest.flatten, p ∈ R.flatten) (hi : Rest[i]? = some X) : RdS E (Cov I Rest) w1 A c xs :=
  o.rd_ (fun p hp => h.own p (hs p (List.mem_flatten.2 ⟨X, List.mem_of_getElem? hi, hp⟩))) (fun k hk => ⟨.inl hk, h.imm k hk⟩) fun p hp => .inr ⟨p, List.mem_flatten.2 ⟨X, List.mem_of_getElem? hi, hp⟩, rfl⟩

theorem Hp.swap {M I : Nat → Prop} {w0 wr w w' : World} {R : List Rsc} {i : Nat} {X X' : Rsc} (h : Hp M I w0 wr w R) (hi : R[i]? = some X) {row : Option Nat} (hg : w.grownBy w' row) (hr : ∀ k, row = some k → ∃ p ∈ X, p.1 = k)
    (hown : ∀ p ∈ X', w'.heap[p.1]? = some p.2) (hk : ∀ p ∈ X', (∃ q ∈ X, q.1 = p.1) ∨ w.heap.size ≤ p.1) (hn : (X'.map (·.1)).Nodup) : Hp M I w0 wr w' (R.set i X') := by
  have hlen : i < R.length := (List.getElem?_eq_some_iff.1 hi).1
  have hX : X = R[i] := by rw [List.getElem?_eq_getElem hlen] at hi; exact (Option.some.inj hi).symm
  have hsplit : R = R.take i ++ X :: R.drop (i + 1) := by rw [hX]; simp [List.getElem_cons_drop]
  have hset : R.set i X' = R.take i ++ X' :: R.drop (i + 1) := by
    rw [List.set_eq_take_append_cons_drop, if_pos hlen]
  have hrow : ∀ k, row = some k → k < w.heap.size ∧ ∃ p ∈ R.flatten, p.1 = k := by
    intro k hk
    obtain ⟨p, hp, rfl⟩ := hr k hk
    have : p ∈ R.flatten := List.mem_flatten.2 ⟨X, List.mem_of_getElem? hi, hp⟩
    exact ⟨h.lt this, p, this, rfl⟩
  have hfl : ∀ p, p ∈ (R.set i X').flatten → p ∈ X' ∨ (p ∈ R.flatten ∧ ∀ q ∈ X, q.1 ≠ p.1) := by
    intro p hp
    rw [hset] at hp
    simp only [List.flatten_append, List.flatten_cons, List.mem_append] at hp
    have hnd := h.nodup
    rw [hsplit] at hnd
    simp only [List.flatten_append, List.flatten_cons, List.map_append, List.nodup_append] at hnd
    rcases hp with hp | hp | hp
    · refine .inr ⟨?_, fun q hq e => ?_⟩
      · rw [hsplit]; simp only [List.flatten_append, List.flatten_cons, List.mem_append]; exact .inl hp
      · exact hnd.2.2 _ (List.mem_map.2 ⟨p, hp, rfl⟩) _ (List.mem_append.2 (.inl (List.mem_map.2 ⟨q, hq, rfl⟩))) e.symm
    · exact .inl hp
    · refine .inr ⟨?_, fun q hq e => ?_⟩
      · rw [hsplit]; simp only [List.flatten_append, List.flatten_cons, List.mem_append]; exact .inr (.inr hp)
      · exact hnd.2.1.2.2 _ (List.mem_map.2 ⟨q, hq, rfl⟩) _ (List.mem_map.2 ⟨p, hp, rfl⟩) e
  refine ⟨hg.os.trans h.os, hg.tape.trans h.tape, hg.output.trans h.output, Nat.le_trans h.le hg.size, ?_, ?_, ?_, ?_, ?_, ?_⟩
  · intro k hk hm
    refine (hg.block k (Nat.lt_of_lt_of_le hk h.le) fun e => ?_).trans (h.old k hk hm)
    obtain ⟨_, p, hp, rfl⟩ := hrow k e.symm
    rcases (h.fresh p hp).1 with hM | hM
    · exact hm hM
    · omega
  · intro k hk
    refine (hg.block k (h.ilt k hk) fun e => ?_).trans (h.imm k hk)
    obtain ⟨_, p, hp, rfl⟩ := hrow k e.symm
    exact (h.fresh p hp).2 hk
  · intro k hk; exact Nat.lt_of_lt_of_le (h.ilt k hk) hg.size
  · intro p hp
    rcases hfl p hp with hp | ⟨hp, hne⟩
    · exact hown p hp
    · refine (hg.block _ (h.lt hp) fun e => ?_).trans (h.own p hp)
      obtain ⟨q, hq, hqk⟩ := hr _ e.symm
      exact hne q hq hqk
  · intro p hp
    rcases hfl p hp with hp | ⟨hp, hne⟩
    · rcases hk p hp with ⟨q, hq, hqk⟩ | hle
      · rw [← hqk]; exact h.fresh q (List.mem_flatten.2 ⟨X, List.mem_of_getElem? hi, hq⟩)
      · exact ⟨.inr (Nat.le_trans h.le hle), fun hi => by have := h.ilt _ hi; omega⟩
    · exact h.fresh p hp
  · have hnd := h.nodup
    rw [hsplit] at hnd
    rw [hset]
    simp only [List.flatten_append, List.flatten_cons, List.map_append, List.nodup_append] at hnd ⊢
    have old : ∀ p ∈ X', ∀ q ∈ R.flatten, (∀ z ∈ X, z.1 ≠ q.1) → p.1 ≠ q.1 := by
      intro p hp q hq hne e
      rcases hk p hp with ⟨z, hz, hzk⟩ | hle
      · exact hne z hz (hzk.trans e)
      · have := h.lt hq; omega
    have inL : ∀ q ∈ (R.take i).flatten, q ∈ R.flatten := fun q hq => by rw [hsplit]; simp only [List.flatten_append, List.mem_append]; exact .inl hq
    have inR : ∀ q ∈ (R.drop (i + 1)).flatten, q ∈ R.flatten := fun q hq => by rw [hsplit]; simp only [List.flatten_append, List.flatten_cons, List.mem_append]; exact .inr (.inr hq)
    refine ⟨hnd.1, ⟨hn, hnd.2.1.2.1, ?_⟩, ?_⟩
    · intro x hx y hy
      obtain ⟨p, hp, rfl⟩ := List.mem_map.1 hx
      obtain ⟨q, hq, rfl⟩ := List.mem_map.1 hy
      exact old p hp q (inR q hq) fun z hz => hnd.2.1.2.2 _ (List.mem_map.2 ⟨z, hz, rfl⟩) _ (List.mem_map.2 ⟨q, hq, rfl⟩)
    · intro x hx y hy
      obtain ⟨p, hp, rfl⟩ := List.mem_map.1 hx
      rcases List.mem_append.1 hy with hy | hy
      · obtain ⟨q, hq, rfl⟩ := List.mem_map.1 hy
        exact (old q hq p (inL p hp) fun z hz => (hnd.2.2 _ (List.mem_map.2 ⟨p, hp, rfl⟩) _ (List.mem_append.2 (.inl (List.mem_map.2 ⟨z, hz, rfl⟩)))).symm).symm
      · exact hnd.2.2 _ (List.mem_map.2 ⟨p, hp, rfl⟩) _ (List.mem_append.2 (.inr hy))
end

def partsOk (sz : Nat) : Nat → List (Nat × Value) → Bool
  | _, [] => true
  | i, p :: r => Nat.beq p.1 i && Nat.beq p.2.cells.size sz && partsOk sz (i + 1) r
theorem setFold : ∀ (l : List Value) (k off : Nat) (cs : Array Value), off + k + l.length ≤ cs.size →
    ((l.zipIdx k).foldl (fun cs (p : Value × Nat) => cs.setIfInBounds (off + p.2) p.1) cs).toList = cs.toList.take (off + k) ++ l ++ cs.toList.drop (off + k + l.length) := by
  intro l
  induction l with
  | nil => intro k off cs h; simp
  | cons a r ih =>
    intro k off cs h
    simp only [List.length_cons] at h
    rw [List.zipIdx_cons, List.foldl_cons, ih (k + 1) off _ (by simp; omega)]
    apply List.ext_getElem?
    intro m
    simp only [Array.toList_setIfInBounds, List.getElem?_append, List.length_append, List.length_take, List.getElem?_take, List.getElem?_drop, List.getElem?_set, List.length_set, Array.length_toList, List.length_cons, List.getElem?_cons]
    grind
theorem fill_parts (sz : Nat) : ∀ (vs : List (Nat × Value)) (i : Nat) (pre : List Value) (cells : Array Value), partsOk sz i vs = true → pre.length = i * sz → cells.toList.take (i * sz) = pre → cells.size = (i + vs.length) * sz →
    Instr.fill (fun i => some (i * sz, sz)) cells vs = some (pre ++ vs.flatMap fun p => p.2.cells.toList).toArray := by
  intro vs
  induction vs with
  | nil =>
    intro i pre cells _ hp ht hs
    simp only [List.length_nil, Nat.add_zero] at hs
    simp only [Instr.fill, List.flatMap_nil, List.append_nil, ← ht]
    rw [List.take_of_length_le (by simp [hs])]
  | cons p r ih =>
    intro i pre cells hk hp ht hs
    obtain ⟨j, v⟩ := p
    simp only [partsOk, Bool.and_eq_true] at hk
    obtain ⟨⟨h1, h2⟩, h3⟩ := hk
    have h1 := Nat.eq_of_beq_eq_true h1
    have h2 := Nat.eq_of_beq_eq_true h2
    subst h1
    simp only [List.length_cons] at hs
    have hm : j * sz + sz ≤ cells.size := by rw [hs, ← Nat.succ_mul]; exact Nat.mul_le_mul_right _ (by omega)
    simp only [Instr.fill]
    rw [if_neg (by simp [h2]; omega)]
    have hl : v.cells.toList.length = sz := by simp [h2]
    have hf : (v.cells.zipIdx.foldl (fun cs (x : Value × Nat) => match x with | (c, j_1) => cs.setIfInBounds (j * sz + j_1) c) cells).toList = cells.toList.take (j * sz) ++ v.cells.toList ++ cells.toList.drop (j * sz + sz) := by
      have := setFold v.cells.toList 0 (j * sz) cells (by simp only [hl]; omega)
      rw [Nat.add_zero, hl] at this
      rw [← this, ← Array.foldl_toList, Array.toList_zipIdx]
    have hz := ih (j + 1) (pre ++ v.cells.toList) _ h3 (by rw [List.length_append, hp, hl, Nat.succ_mul]) (by
      rw [hf, ht, List.take_append_of_le_length (by rw [List.length_append, hp, hl, Nat.succ_mul]; omega), List.take_of_length_le (by rw [List.length_append, hp, hl, Nat.succ_mul]; omega)]) (by
      rw [← Array.length_toList, hf]
      simp only [List.length_append, List.length_take, List.length_drop, hl, Array.length_toList]
      rw [show j + 1 + r.length = j + (r.length + 1) by omega, ← hs]
      omega)
    rw [hz]
    simp
section
variable {P : Program} {ops : Array Oper} {Q : Exit → Act → World → Prop} {n : Nat} {L : Env} {σ : Nat → Value} {ds : List Deferred} {w : World} {rest : List Oper}
variable {d : Nat} {ty : TypeId} {pos : String} {af : Array Edge} {v v1 v2 v3 : Value} {x y z : Operand} {gd : Option (Nat × Bool)} {dst : Option Tmp}
variable {M I F : Nat → Prop} {w0 wr wf : World} {R : List Rsc} {α : Type} {E : Enc α}

theorem run_indexAddr {t e : TypeId} {A : Addr} {m c : Nat} {i : Int} {k' : IntKind} {sz : Nat} (hu : UT P t (.slice e)) (hs : SZ P e sz) (h0 : 0 ≤ i) (h1 : i < m) :
    (Instr.indexAt t (.slice (some A) m c) (.int k' i)).run P w = .ok (.pointer (some (A.add (i.toNat * sz)))) w := by
  simp [Instr.indexAt, asIntOf, Sem.run_bind, hu w, h0, h1, hs w]
structure EP (I : Nat → Prop) (wr : World) (a : Addr) (cs : List Value) : Prop where
  at_ : I a.block
  cells : CellsAt wr a cs
theorem EP.now {a : Addr} {cs : List Value} (h : EP I wr a cs) (hp : Hp M I w0 wr w R) : CellsAt w a cs := h.cells.block (hp.imm _ h.at_)
theorem EP.up {I' : Nat → Prop} {w' : World} {a : Addr} {cs : List Value} (h : EP I wr a cs) (u : Up I wr I' w') : EP I' w' a cs := ⟨(u _ h.at_).1, h.cells.block (u _ h.at_).2⟩
theorem ep_idx {t e : TypeId} [Inhabited α] {A : Option Addr} {c : Nat} {xs : List α} {i : Int} {k' : IntKind} (hr : RdS E I wr A c xs) (hu : UT P t (.slice e)) (hs : SZ P e E.sz) (hi : 0 ≤ i ∧ i < (xs.length : Int)) :
    ∃ a cs, EP I wr a cs ∧ E.rep I wr (gi xs i) cs ∧ ∀ {ac : Act} {w : World}, ac.eval x = .slice A xs.length c → ac.eval y = .int k' i → (execOp ac.eval ⟨dst, .indexAddr t x y, ty, pos, af, gd⟩).run P w = .ok (.value (.pointer (some a))) w := by
  obtain ⟨a, cs, rfl, hf, hc, hd⟩ := hr.elem (i := i.toNat) (by omega)
  refine ⟨a.add (i.toNat * E.sz), cs, ⟨?_, hc⟩, hd, fun hx hy => ?_⟩
  · unfold Addr.add; split <;> exact hf
  · simp only [execOp, hx, hy]
    rw [Sem.run_bind, run_indexAddr hu hs hi.1 hi.2]
    rfl
def OA (X : Rsc) (a : Addr) (cs : List Value) : Prop := ∀ w : World, (∀ p ∈ X, w.heap[p.1]? = some p.2) → CellsAt w a cs
theorem OA.now {X : Rsc} {a : Addr} {cs : List Value} {i : Nat} (h : OA X a cs) (hp : Hp M I w0 wr w R) (hi : R[i]? = some X) : CellsAt w a cs :=
  h w fun p hq => hp.own p (List.mem_flatten.2 ⟨X, List.mem_of_getElem? hi, hq⟩)
theorem own_idx {t e e' : TypeId} [Inhabited α] {A : Option Addr} {c : Nat} {xs : List α} {X : Rsc} {i : Int} {k' : IntKind} (ho : Own E F wf e' A c xs X) (hu : UT P t (.slice e)) (hs : SZ P e E.sz) (hi : 0 ≤ i ∧ i < (xs.length : Int)) :
    ∃ g cs, A = some ⟨g, 0, none⟩ ∧ OA X ⟨g, i.toNat * E.sz, none⟩ cs ∧ E.rep F wf (gi xs i) cs ∧ ∀ {ac : Act} {w : World}, ac.eval x = .slice A xs.length c → ac.eval y = .int k' i →
      (execOp ac.eval ⟨dst, .indexAddr t x y, ty, pos, af, gd⟩).run P w = .ok (.value (.pointer (some ⟨g, i.toNat * E.sz, none⟩))) w := by
  rcases ho with ⟨rfl, rfl, rfl, rfl⟩ | ⟨g, cur, cs, rfl, rfl, h1, h2, hb, h3, h4, h5⟩
  · simp at hi; omega
  · have hil : i.toNat < xs.length := by omega
    obtain ⟨dd, hd, he⟩ := h5.get (List.getElem?_eq_getElem hil)
    have hg : gi xs i = xs[i.toNat] := by simp [gi, hil]
    refine ⟨g, dd, rfl, fun w hX => ?_, hg ▸ hd, fun hx hy => ?_⟩
    · have hh := hX _ (List.mem_singleton.2 rfl)
      intro j u hu
      rw [add_none]
      refine cell_at hh ?_
      rw [← he, ← h4, List.getElem?_take] at hu
      split at hu
      · rw [List.getElem?_drop, List.getElem?_take] at hu
        split at hu
        · rw [← Array.getElem?_toList]; exact hu
        · cases hu
      · cases hu
    · simp only [execOp, hx, hy]
      rw [Sem.run_bind, run_indexAddr hu hs hi.1 hi.2, add_none, Nat.zero_add]
      rfl
theorem s_storeO {t e : TypeId} [Inhabited α] {A : Option Addr} {c g r off sz : Nat} {xs : List α} {X : Rsc} {i : Int} {el : α} {vs cs : List Value} (h : Hp M I w0 wr w R) (hA : A = some ⟨g, 0, none⟩)
    (hx : (st n L σ ds).eval x = .pointer (some ⟨g, i.toNat * E.sz + off, none⟩)) (hy : (st n L σ ds).eval y = v)
    (hv : v.cells = vs.toArray) (hs : SZ P t sz) (hl : vs.length = sz) (h1 : vs.all one = true)
    (hi : R[r]? = some X) (ho : Own E F wf e A c xs X) (hlt : 0 ≤ i ∧ i < (xs.length : Int)) (hoff : Nat.ble (off + vs.length) E.sz = true) (hcs : OA X ⟨g, i.toNat * E.sz, none⟩ cs) (hcsl : cs.length = E.sz)
    (hrep : E.rep F wf el (cs.take off ++ vs ++ cs.drop (off + vs.length)))
    (k : ∀ w' X', Hp M I w0 wr w' (R.set r X') → Own E F wf e A c (xs.set i.toNat el) X' → wpList P ops Q rest (st n L σ ds) w') :
    wpList P ops Q (⟨none, .store t x y, ty, pos, af, none⟩ :: rest) (st n L σ ds) w := by
  have hoff := Nat.le_of_ble_eq_true hoff
  have hil : i.toNat < xs.length := by omega
  generalize i.toNat = i' at *
  rcases ho with ⟨rfl, rfl, rfl, rfl⟩ | ⟨g', cur, cs0, hA', rfl, h2, h3, hb, h4, h5, h6⟩
  · simp at hil
  · rw [hA] at hA'
    injection hA' with hA'; injection hA' with hA'; subst hA'
    have hfit : i' * E.sz + E.sz ≤ xs.length * E.sz := by rw [← Nat.succ_mul]; exact Nat.mul_le_mul_right _ hil
    have hcap : xs.length * E.sz ≤ c * E.sz := Nat.mul_le_mul_right _ h2
    have hcl : cur.toList.length = c * E.sz := by simpa using h4
    have hown := h.get hi (j := 0) (b := g) (o := .cells cur e (0, 0)) rfl
    obtain ⟨w', hr, a1, a2, a3, a4, a5, a6⟩ := run_storeCells (P := P) (b := g) (e := e) vs 0 (i' * E.sz + off) cur.toList w (by simpa using hown) (fun u hu => List.all_eq_true.1 h1 u hu) (by omega)
    rw [Nat.add_zero] at a6
    have hcseq : cs = (cur.toList.drop (i' * E.sz)).take E.sz := by
      have hc := hcs w (by intro p hp; simp at hp; subst hp; exact hown)
      apply List.ext_getElem?
      intro j
      rw [List.getElem?_take]
      by_cases hj : j < E.sz
      · rw [if_pos hj]
        have hj' : j < cs.length := by omega
        have h7 := hc j _ (List.getElem?_eq_getElem hj')
        rw [add_none] at h7
        have h8 : w.cell? ⟨g, i' * E.sz + j, none⟩ = cur[i' * E.sz + j]? := by simp [World.cell?, hown]
        rw [h8] at h7
        rw [List.getElem?_eq_getElem hj', ← h7, List.getElem?_drop, Array.getElem?_toList]
      · rw [if_neg hj, List.getElem?_eq_none (by omega)]
    refine su rfl rfl ?_ (k w' _ (h.upd hi (j := 0) rfl a1 a2 a3 a4 a5 a6) ?_)
    · simp only [execOp, hx, hy]
      simp [Instr.storeAt, Instr.sureAddr, storeVar, Sem.run_bind, hs w, hv, hl, hr]
    · refine .inr ⟨g, _, _, hA, rfl, by simpa using h2, h3, by simpa using hb, ?_, rfl, ?_⟩
      · simp only [List.size_toArray, List.length_append, List.length_take, List.length_drop]; omega
      · have h9 := h6.set hil hrep
        have hgoal : ((cur.toList.take (i' * E.sz + off) ++ vs ++ cur.toList.drop (i' * E.sz + off + vs.length)).take ((xs.set i' el).length * E.sz)) =
            cs0.take (i' * E.sz) ++ (cs.take off ++ vs ++ cs.drop (off + vs.length)) ++ cs0.drop (i' * E.sz + E.sz) := by
          rw [hcseq, ← h5, List.length_set]
          apply List.ext_getElem?
          intro m
          simp only [List.getElem?_append, List.length_append, List.length_take, List.getElem?_take, List.getElem?_drop, List.length_drop]
          grind
        simp only [] at hgoal ⊢
        rw [hgoal]; exact h9
def Src (E : Enc α) (F : Nat → Prop) (wf w : World) (A : Option Addr) (ys : List α) : Prop := ys ≠ [] → ∃ a cs, A = some a ∧ CellsAt w a cs ∧ Reps E F wf ys cs
theorem RdS.src {A : Option Addr} {c : Nat} {ys : List α} (r : RdS E I wr A c ys) (h : Hp M I w0 wr w R) : Src E I wr w A ys := fun hne => by
  obtain ⟨a, cs, ha, hf, hc, hr⟩ := r.at_ hne
  exact ⟨a, cs, ha, hc.block (h.imm _ hf), hr⟩
theorem RdS.srcF {A : Option Addr} {c : Nat} {ys : List α} (r : RdS E I wr A c ys) (hE : Flat E) (h : Hp M I w0 wr w R) : Src E no wz w A ys := fun hne => by
  obtain ⟨a, cs, ha, hf, hc, hr⟩ := r.at_ hne
  exact ⟨a, cs, ha, hc.block (h.imm _ hf), hr.flat hE⟩
theorem Own.src {e : TypeId} {A : Option Addr} {c i : Nat} {ys : List α} {X : Rsc} (o : Own E F wf e A c ys X) (h : Hp M I w0 wr w R) (hi : R[i]? = some X) : Src E F wf w A ys := fun hne => by
  rcases o with ⟨_, _, rfl, _⟩ | ⟨g, cur, cs, rfl, rfl, h1, h2, hb, h3, h4, h5⟩
  · exact absurd rfl hne
  · refine ⟨_, cs, rfl, fun j u hu => ?_, h5⟩
    rw [add_none]
    refine cell_at (h.get hi (j := 0) rfl) ?_
    rw [← h4, List.getElem?_take] at hu
    split at hu
    · rw [Nat.zero_add, ← Array.getElem?_toList]; exact hu
    · cases hu
theorem Src.nil (A : Option Addr) : Src E F wf w A ([] : List α) := fun h => absurd rfl h
theorem s_append {t e : TypeId} {ti : TypeInfo} {zv : Value} {by_ : Nat} {A A' : Option Addr} {c c' r : Nat} {xs ys : List α} {X : Rsc} (h : Hp M I w0 wr w R)
    (hx : (st n L σ ds).eval x = .slice A xs.length c) (hy : (st n L σ ds).eval y = .slice A' ys.length c')
    (hu : P.underlying t = some (.slice e)) (hi : P.info? e = some ti) (hz : ti.zero = some zv) (hsz : ti.size = E.sz) (hby : ti.bytes = by_) (hzs : zv.cells.size = E.sz) (hb0 : Nat.blt 0 by_ = true)
    (hr : R[r]? = some X) (ho : Own E F wf e A c xs X) (hs : Src E F wf w A' ys) (hlim : (xs.length + ys.length) * by_ ≤ 140737488355328) (hn : Nat.blt d n = true)
    (k : ∀ A2 c2 w' X', Hp M I w0 wr w' (R.set r X') → Own E F wf e A2 c2 (xs ++ ys) X' → wpList P ops Q rest (st n ((d, .slice A2 (xs ++ ys).length c2) :: L) σ ds) w') :
    wpList P ops Q (⟨some d, .call { callee := .builtin .append, args := #[x, y], argTypes := #[t, t] }, ty, pos, af, none⟩ :: rest) (st n L σ ds) w := by
  have hb0 := blt hb0
  have hlen : xs.length + ys.length ≤ 140737488355328 := Nat.le_trans (Nat.le_mul_of_pos_right _ hb0) hlim
  obtain ⟨cx, hcx, hown⟩ := ho.row h hr
  have main : ∃ v' w' cy, Reps E F wf ys cy ∧ (Builtin.append_ #[t, t] ty #[.slice A xs.length c, .slice A' ys.length c']).run P w = .ok v' w' ∧ w'.ownsRow 0 e E.sz v' (xs.length + ys.length) (cx ++ cy) ∧
      w.grownBy w' (Value.slice A xs.length c).ownBlock ∧ (v'.ownBlock = (Value.slice A xs.length c).ownBlock ∨ v'.ownBlock = some w.heap.size) := by
    by_cases hne : ys = []
    · subst hne
      refine ⟨.slice A xs.length c, w, [], .nil, ?_, by simpa using hown, ⟨rfl, rfl, rfl, Nat.le_refl _, fun _ _ _ => rfl⟩, .inl rfl⟩
      have hle := ho.le
      have hfc : (Builtin.firstCells E.sz 0 (.slice A' 0 c')).run P w = .ok #[] w := by cases A' <;> simp [Builtin.firstCells, loadCells, loadCellsFrom]
      cases A with
      | none => simp [Builtin.append_, run_underlying hu, sizeOf, typeInfo, hi, Builtin.lenOf, hle, hsz, hfc, Sem.run_bind]
      | some a => simp [Builtin.append_, run_underlying hu, sizeOf, typeInfo, hi, Builtin.lenOf, hle, hsz, hfc, Sem.run_bind, storeCells]
    · obtain ⟨a, cy, rfl, hc, hcy⟩ := hs hne
      obtain ⟨v', w', h1, h2, h3, _, h5⟩ := run_append_own_at (P := P) w 0 t ty e ti zv E.sz by_ hu hi hz hsz hby hzs E.pos (.slice A xs.length c) xs.length cx hown a ys.length c' cy hcy.len hc
        (fun u hu => hcy.mem u hu) (by simp only [maxLen]; omega) hlim (Nat.zero_le _)
      exact ⟨v', w', cy, hcy, h1, h2, h3, h5⟩
  obtain ⟨v', w', cy, hcy, hrun, hown', hg, hat⟩ := main
  have hres : ∃ A2 c2 X', v' = .slice A2 (xs ++ ys).length c2 ∧ Own E F wf e A2 c2 (xs ++ ys) X' ∧ (∀ p ∈ X', w'.heap[p.1]? = some p.2) ∧ (∀ p ∈ X', (∃ q ∈ X, q.1 = p.1) ∨ w.heap.size ≤ p.1) ∧ (X'.map (·.1)).Nodup := by
    rcases hown'.2 with ⟨rfl, h0⟩ | ⟨g, cap, cur, rfl, _, hg1, h1, h2, h3, h4⟩
    · have hnil : xs ++ ys = [] := List.eq_nil_of_length_eq_zero (by rw [List.length_append]; exact h0)
      refine ⟨none, 0, [], by rw [hnil]; rfl, by rw [hnil]; exact Own.nil E _ _ e, by simp, by simp, by simp⟩
    · refine ⟨some ⟨g, 0, none⟩, cap, [(g, .cells cur e (0, 0))], by simp, .inr ⟨g, cur, _, rfl, rfl, by simpa using h1, h2, by rw [List.length_append]; exact hlen, h3, by simpa using h4, hcx.append hcy⟩, by simp [hg1], ?_, by simp⟩
      intro p hp
      simp at hp; subst hp
      rcases hat with hat | hat
      · left
        rcases ho with ⟨rfl, rfl, rfl, rfl⟩ | ⟨g', cur', _, rfl, rfl, _⟩
        · simp [Value.ownBlock] at hat
        · simp [Value.ownBlock] at hat; subst hat; exact ⟨_, List.mem_singleton.2 rfl, rfl⟩
      · right; simp [Value.ownBlock] at hat; omega
  obtain ⟨A2, c2, X', rfl, hO, hc1, hc2, hc3⟩ := hres
  refine sv rfl rfl hn ?_ (k A2 c2 w' X' (h.swap hr hg ?_ hc1 hc2 hc3) hO)
  · simp only [execOp, resolve]
    rw [show (#[x, y] : Array Operand).map (st n L σ ds).eval = #[.slice A xs.length c, .slice A' ys.length c'] by simp [hx, hy]]
    simp only [Sem.run_bind, Sem.run_pure, Result.andThen_ok, invoke, builtin]
    rw [hrun]; rfl
  · intro k hk
    rcases ho with ⟨rfl, rfl, rfl, rfl⟩ | ⟨g', cur', _, rfl, rfl, _⟩
    · simp [Value.ownBlock] at hk
    · simp [Value.ownBlock] at hk; subst hk; exact ⟨_, List.mem_singleton.2 rfl, rfl⟩
theorem s_buildSlice {t e : TypeId} {m : Nat} {ps : List (Nat × Operand)} {vs : List (Nat × Value)} {xs : List α} {cs : List Value} {zv : Value} (h : Hp M I w0 wr w R)
    (hx : EvP (st n L σ ds).eval ps vs) (hu : UT P t (.slice e)) (hs : SZ P e E.sz) (hz : ZR P e zv) (hm : xs.length = m) (h0 : Nat.beq m 0 = false) (hsmall : Nat.ble (m * E.sz) 16777216 = true)
    (hr : Reps E F wf xs cs)
    (hf : Instr.fill (fun i => some (i * E.sz, E.sz)) ((Array.range (m * E.sz)).map (zv.cells[· % zv.cells.size]!)) vs = some cs.toArray) (hn : Nat.blt d n = true)
    (k : ∀ A c w' X, Hp M I w0 wr w' (R ++ [X]) → Own E F wf e A c xs X → wpList P ops Q rest (st n ((d, .slice A xs.length c) :: L) σ ds) w') :
    wpList P ops Q (⟨some d, .buildSlice t m ps.toArray, ty, pos, af, none⟩ :: rest) (st n L σ ds) w := by
  have hsmall := Nat.le_of_ble_eq_true hsmall
  have h0 : ¬ m = 0 := fun e => by rw [e] at h0; cases h0
  subst hm
  refine sv rfl rfl hn ?_ (k (some ⟨w.heap.size, 0, none⟩) xs.length _ _ (h.alloc (.cells cs.toArray e (0, 0))) (.inr ⟨_, _, _, rfl, rfl, Nat.le_refl _, ?_, ?_, ?_, rfl, ?_⟩))
  · simp only [execOp, List.map_toArray, hx.map]
    have h1 : ¬ (xs.length * E.sz > 2 ^ 24) := by omega
    have h2 : ¬ (xs.length * E.sz = 0) := by have := Nat.mul_pos (Nat.pos_of_ne_zero h0) E.pos; omega
    simp only [Instr.buildSlice, Sem.run_bind, hu w, hs w, Result.andThen_ok, if_neg h1, Sem.run_pure, if_neg h2, hz w, hf]
    simp [newRow, newObj, Sem.run, Sem.run_bind]
  · have : xs.length ≤ xs.length * E.sz := Nat.le_mul_of_pos_right _ E.pos
    simp only [maxLen]; omega
  · have : xs.length ≤ xs.length * E.sz := Nat.le_mul_of_pos_right _ E.pos
    omega
  · simp [hr.len]
  · have : (cs.take (xs.length * E.sz)) = cs := List.take_of_length_le (by rw [hr.len]; omega)
    simpa [this] using hr
theorem s_buildC {t e : TypeId} {m : Nat} {ps : List (Nat × Operand)} {vs : List (Nat × Value)} {xs : List α} {cs : List Value} {zv : Value} (h : Hp M I w0 wr w R)
    (hx : EvP (st n L σ ds).eval ps vs) (hu : UT P t (.slice e)) (hs : SZ P e E.sz) (hz : ZR P e zv) (hm : xs.length = m) (h0 : Nat.beq m 0 = false) (hsmall : Nat.ble (m * E.sz) 16777216 = true)
    (hr : Reps E F wf xs cs) (hp : partsOk E.sz 0 vs = true) (hl : vs.length = m) (hcs : (vs.flatMap fun p => p.2.cells.toList) = cs) (hn : Nat.blt d n = true)
    (k : ∀ A c w' X, Hp M I w0 wr w' (R ++ [X]) → Own E F wf e A c xs X → wpList P ops Q rest (st n ((d, .slice A xs.length c) :: L) σ ds) w') :
    wpList P ops Q (⟨some d, .buildSlice t m ps.toArray, ty, pos, af, none⟩ :: rest) (st n L σ ds) w :=
  s_buildSlice h hx hu hs hz hm h0 hsmall hr (by
    have := fill_parts E.sz vs 0 [] ((Array.range (m * E.sz)).map (zv.cells[· % zv.cells.size]!)) hp (by simp) (by simp) (by simp [hl])
    rw [this, hcs]; rfl) hn k
theorem s_buildSlice0 {t e : TypeId} (E : Enc α) (F : Nat → Prop) (wf : World) (h : Hp M I w0 wr w R) (hu : UT P t (.slice e)) (hs : SZ P e E.sz) (hn : Nat.blt d n = true)
    (k : ∀ A c w' X, Hp M I w0 wr w' (R ++ [X]) → Own E F wf e A c ([] : List α) X → wpList P ops Q rest (st n ((d, .slice A ([] : List α).length c) :: L) σ ds) w') :
    wpList P ops Q (⟨some d, .buildSlice t 0 #[], ty, pos, af, none⟩ :: rest) (st n L σ ds) w := by
  refine sv rfl rfl hn ?_ (k (some ⟨w.heap.size, 0, none⟩) 0 _ _ (h.alloc (.cells #[] e (0, 0))) (.inr ⟨_, _, [], rfl, rfl, Nat.le_refl _, by simp [maxLen], by simp, by simp, by simp, .nil⟩))
  simp only [execOp, Instr.buildSlice, Sem.run_bind, hu w, hs w, Result.andThen_ok, Nat.zero_mul]
  have hr : Array.range 0 = #[] := by simp [Array.range]
  simp [Instr.fill, newRow, newObj, Sem.run, Sem.run_bind, hr]
theorem cs_replicate {c : List Value} {sz : Nat} (hc : c.length = sz) (hp : 0 < sz) : ∀ (l j : Nat), j < l * sz → (List.replicate l c).flatten[j]? = c[j % sz]?
  | 0, j, h => by simp at h
  | l + 1, j, h => by
    rw [List.replicate_succ, List.flatten_cons, List.getElem?_append]
    split
    · rename_i hj; rw [Nat.mod_eq_of_lt (by omega)]
    · rename_i hj
      rw [hc, cs_replicate hc hp l (j - sz) (by rw [Nat.succ_mul] at h; omega)]
      rw [hc] at hj
      congr 1
      conv => rhs; rw [show j = j - sz + sz by omega, Nat.add_mod_right]
theorem s_makeSlice {t e : TypeId} {ti : TypeInfo} {zv : Value} {by_ : Nat} {kl kc : IntKind} {l c : Int} {cs : List Value} (x0 : α) (h : Hp M I w0 wr w R)
    (hx : (st n L σ ds).eval x = .int kl l) (hy : (st n L σ ds).eval y = .int kc c)
    (hu : P.underlying t = some (.slice e)) (hi : P.info? e = some ti) (hz : ti.zero = some zv) (hsz : ti.size = E.sz) (hby : ti.bytes = by_) (hrep : E.rep F wf x0 cs) (hzs : zv.cells = cs.toArray) (hb0 : Nat.blt 0 by_ = true)
    (hlim : 0 ≤ l ∧ l ≤ c ∧ c * by_ ≤ 140737488355328) (hn : Nat.blt d n = true)
    (k : ∀ A c2 w' X, Hp M I w0 wr w' (R ++ [X]) → Own E F wf e A c2 (List.replicate l.toNat x0) X → wpList P ops Q rest (st n ((d, .slice A (List.replicate l.toNat x0).length c2) :: L) σ ds) w') :
    wpList P ops Q (⟨some d, .makeSlice t x y, ty, pos, af, none⟩ :: rest) (st n L σ ds) w := by
  obtain ⟨h0, hlc, hl⟩ := hlim
  have hb1 : (1 : Int) ≤ by_ := by have := blt hb0; omega
  have hc0 : 0 ≤ c := by omega
  have hcb : c ≤ c * by_ := by
    have := Int.mul_le_mul_of_nonneg_left hb1 hc0
    omega
  have hcl := E.len hrep
  have hrun := run_make (P := P) w t e ti zv hu hi hz kl kc l c h0 hlc (by rw [hby, Int.mul_comm]; omega) (by omega)
  have hlen : (List.replicate l.toNat x0).length = l.toNat := by simp
  refine sv (v := .slice (some ⟨w.heap.size, 0, none⟩) (List.replicate l.toNat x0).length c.toNat) (w' := w.alloc (.cells (madeCells zv.cells (c.toNat * ti.size)) e)) rfl rfl hn ?_ (k _ _ _ _ (h.alloc (.cells (madeCells zv.cells (c.toNat * ti.size)) e)) (.inr ⟨_, _, _, rfl, rfl, ?_, ?_, ?_, ?_, rfl, ?_⟩))
  · simp only [execOp, hx, hy, hlen]
    rw [Sem.run_bind, hrun, Result.andThen_ok]
    rfl
  · rw [hlen]; omega
  · simp only [maxLen]; omega
  · rw [hlen]; omega
  · rw [size_madeCells, hsz]
  · rw [hlen]
    have hll : l.toNat ≤ c.toNat := by omega
    have hmul : l.toNat * E.sz ≤ c.toNat * E.sz := Nat.mul_le_mul_right _ hll
    have heq : (madeCells zv.cells (c.toNat * ti.size)).toList.take (l.toNat * E.sz) = (List.replicate l.toNat cs).flatten := by
      apply List.ext_getElem?
      intro j
      by_cases hj : j < l.toNat * E.sz
      · rw [List.getElem?_take, if_pos hj, cs_replicate hcl E.pos _ _ hj]
        have hmod : j % E.sz < cs.length := by rw [hcl]; exact Nat.mod_lt _ E.pos
        have hj2 : j < c.toNat * E.sz := by omega
        have hj3 : j < c.toNat * ti.size := by rw [hsz]; exact hj2
        simp [madeCells, hj3, hzs, hcl, List.getElem?_eq_getElem hmod, hmod, getElem!_pos, hsz, hj2]
      · rw [List.getElem?_take, if_neg hj, List.getElem?_eq_none]
        have := (Reps.replicate hrep l.toNat).len
        simp at this; simp; omega
    rw [heq]; exact .replicate hrep _
theorem e_cut {t e : TypeId} {A : Option Addr} {c : Nat} {xs : List α} {lo hi : Option Operand} {l h : Int} {kl kh : IntKind} (hu : UT P t (.slice e)) (hs : SZ P e E.sz)
    (hb : 0 ≤ l ∧ l ≤ h ∧ h ≤ (xs.length : Int)) (hr : RdS E I wr A c xs) :
    ∃ A', RdS E I wr A' (c - l.toNat) ((xs.drop l.toNat).take (h.toNat - l.toNat)) ∧ ∀ {ac : Act} {w : World}, ac.eval x = .slice A xs.length c →
      ((lo.map ac.eval = some (.int kl l)) ∨ (lo = none ∧ l = 0)) → ((hi.map ac.eval = some (.int kh h)) ∨ (hi = none ∧ h = (xs.length : Int))) →
      (execOp ac.eval ⟨dst, .slice t x lo hi none, ty, pos, af, gd⟩).run P w = .ok (.value (.slice A' ((xs.drop l.toNat).take (h.toNat - l.toNat)).length (c - l.toNat))) w := by
  obtain ⟨b0, b1, b2⟩ := hb
  have e0 : 0 ≤ h := by omega
  have hc := hr.len
  have hl : ((xs.drop l.toNat).take (h.toNat - l.toNat)).length = h.toNat - l.toNat := by
    rw [List.length_take, List.length_drop]; omega
  refine ⟨if c = l.toNat then A else A.map (·.add (l.toNat * E.sz)), (hr.drop (k := l.toNat) (by omega) _ rfl).take (by rw [List.length_drop]; omega), fun {ac w} hx hlo hhi => ?_⟩
  rw [hl]
  have g1 : h ≤ (c : Int) := by omega
  simp only [execOp, hx, Option.map_none]
  rcases hlo with hlo | ⟨rfl, rfl⟩ <;> rcases hhi with hhi | ⟨rfl, rfl⟩ <;>
    simp [Instr.sliceAt, Instr.slice, Instr.sliceBounds, Instr.sliceBound, Sem.run_bind, hu w, hs w, asIntOf, *] <;> (try omega)
theorem e_cutO {t e e' : TypeId} {A : Option Addr} {c : Nat} {xs : List α} {X : Rsc} {hi : Option Operand} {h : Int} {kh : IntKind} (hu : UT P t (.slice e)) (hs : SZ P e E.sz)
    (hb : 0 ≤ h ∧ h ≤ (xs.length : Int)) (ho : Own E F wf e' A c xs X) :
    ∃ A', Own E F wf e' A' c (xs.take h.toNat) X ∧ ∀ {ac : Act} {w : World}, ac.eval x = .slice A xs.length c →
      ((hi.map ac.eval = some (.int kh h)) ∨ (hi = none ∧ h = (xs.length : Int))) →
      (execOp ac.eval ⟨dst, .slice t x none hi none, ty, pos, af, gd⟩).run P w = .ok (.value (.slice A' (xs.take h.toNat).length c)) w := by
  obtain ⟨b0, b2⟩ := hb
  have hc := ho.le
  have hl : (xs.take h.toNat).length = h.toNat := by rw [List.length_take]; omega
  have g1 : h ≤ (c : Int) := by omega
  refine ⟨A, ?_, fun {ac w} hx hhi => ?_⟩
  · rcases ho with ⟨rfl, rfl, rfl, rfl⟩ | ⟨g, cur, cs, rfl, rfl, h1, h2, hb, h3, h4, h5⟩
    · exact .inl ⟨rfl, rfl, by simp, rfl⟩
    · refine .inr ⟨g, cur, _, rfl, rfl, by omega, h2, by omega, h3, rfl, ?_⟩
      rw [hl]
      have : cur.toList.take (h.toNat * E.sz) = cs.take (h.toNat * E.sz) := by
        rw [← h4, List.take_take, Nat.min_eq_left (Nat.mul_le_mul_right _ (by omega))]
      rw [this]; exact h5.take _
  · rw [hl]
    have hz : (if c = (0 : Int).toNat then A else A.map (·.add ((0 : Int).toNat * E.sz))) = A := by
      by_cases hcz : c = 0
      · simp [hcz]
      · cases A <;> simp [hcz, Addr.add]
    simp only [execOp, hx, Option.map_none]
    rcases hhi with hhi | ⟨rfl, rfl⟩ <;>
      simp [Instr.sliceAt, Instr.slice, Instr.sliceBounds, Instr.sliceBound, Sem.run_bind, hu w, hs w, asIntOf, Addr.add, *] <;> (try omega)
end

section
variable {P : Program} {a : Act} {w : World} {dst : Option Tmp} {gd : Option (Nat × Bool)}
variable {d : Nat} {ty : TypeId} {pos : String} {af : Array Edge} {v v1 v2 v3 : Value} {x y z : Operand}

theorem e_move (hx : a.eval x = v) : (execOp a.eval ⟨dst, .move x, ty, pos, af, gd⟩).run P w = .ok (.value v) w := by
  simp only [execOp, hx]; rfl
theorem e_assign (hx : a.eval x = v) : (execOp a.eval ⟨dst, .assign x, ty, pos, af, gd⟩).run P w = .ok (.value v) w := by
  simp only [execOp, hx]; rfl
theorem e_pick {b : Bool} (hz : a.eval z = .bool b) (hx : b = true → a.eval x = v1) (hy : b = false → a.eval y = v2) (hv : (bif b then v1 else v2) = v) :
    (execOp a.eval ⟨dst, .pick z x y, ty, pos, af, gd⟩).run P w = .ok (.value v) w := by
  simp only [execOp, hz, asBool]
  subst hv
  cases b
  · rw [← hy rfl]; rfl
  · rw [← hx rfl]; rfl
theorem e_bin {op : BinOp} {xt yt : TypeId} (hx : a.eval x = v1) (hy : a.eval y = v2)
    (hr : (do eqGuard op xt x y v1 v2; binOp op xt v1 v2 : Sem Value).run P w = .ok v w) :
    (execOp a.eval ⟨dst, .binOp op xt x y yt, ty, pos, af, gd⟩).run P w = .ok (.value v) w := by
  simp only [execOp, hx, hy]
  rw [Sem.run_bind, hr]
  rfl
theorem e_un {op : UnOp} {xt : TypeId} (hx : a.eval x = v1) (hr : (Op.unary op v1).run P w = .ok v w) :
    (execOp a.eval ⟨dst, .unOp op xt x, ty, pos, af, gd⟩).run P w = .ok (.value v) w := by
  simp only [execOp, hx]
  rw [Sem.run_bind, hr]
  rfl
theorem e_conv {src dt : TypeId} {sd : TypeDesc} {k k' : IntKind} {c e : Int} (hx : a.eval x = .int k' c) (h1 : UT P src sd) (h2 : UT P dt (.int k)) (hc : k.wrap c = e) :
    (execOp a.eval ⟨dst, .convert src dt x, ty, pos, af, gd⟩).run P w = .ok (.value (.int k e)) w := by
  subst hc
  simp only [execOp, hx]
  rw [Sem.run_bind]
  simp [convert, Sem.run_bind, h1 w, h2 w, Conv.intToInt]
theorem e_load1 {t : TypeId} {p : Addr} (hx : a.eval x = .pointer (some p)) (hA : AG P t false) (hc : w.cell? p = some v) :
    (execOp a.eval ⟨dst, .load t x, ty, pos, af, gd⟩).run P w = .ok (.value v) w := by
  simp only [execOp, hx]
  simp [Instr.loadAt, Instr.sureAddr, Sem.run_bind, r_load1 hA hc]
theorem e_loadA {t : TypeId} {p : Addr} {vs : List Value} {sz : Nat} (hx : a.eval x = .pointer (some p)) (hA : AG P t true) (hs : SZ P t sz) (hl : vs.length = sz) (hc : CellsAt w p vs) :
    (execOp a.eval ⟨dst, .load t x, ty, pos, af, gd⟩).run P w = .ok (.value (.agg vs.toArray)) w := by
  simp only [execOp, hx]
  simp [Instr.loadAt, Instr.sureAddr, Sem.run_bind, r_loadA hA hs hl hc]
theorem e_fieldAddr {s : TypeId} {p p' : Addr} {f sz : Nat} {fs : Array Field} {fd : Field} (hx : a.eval x = .pointer (some p)) (hu : UT P s (.struct fs)) (hf : fs[f]? = some fd) (hs : SZ P fd.type sz) (hsz : Nat.beq sz 0 = false)
    (ha : p.add fd.offset = p') :
    (execOp a.eval ⟨dst, .fieldAddr s x f, ty, pos, af, gd⟩).run P w = .ok (.value (.pointer (some p'))) w := by
  subst ha
  have hz : ¬ sz = 0 := fun e => by rw [e] at hsz; cases hsz
  simp only [execOp, hx]
  simp [Instr.fieldAt, Instr.sureAddr, fieldPlace, Sem.run_bind, hu w, hf, hs w, hz]
theorem e_field1 {s : TypeId} {f : Nat} {fs : Array Field} {fd : Field} {cs : List Value} (hx : a.eval x = .agg cs.toArray) (hu : UT P s (.struct fs)) (hf : fs[f]? = some fd) (hA : AG P fd.type false) (hv : cs[fd.offset]? = some v) :
    (execOp a.eval ⟨dst, .field s x f, ty, pos, af, gd⟩).run P w = .ok (.value v) w := by
  simp only [execOp, hx]
  simp [Instr.field, asAgg, part, Sem.run_bind, hu w, hf, hA w, hv]
theorem e_fieldA {s : TypeId} {f sz : Nat} {fs : Array Field} {fd : Field} {cs vs : List Value} (hx : a.eval x = .agg cs.toArray) (hu : UT P s (.struct fs)) (hf : fs[f]? = some fd) (hA : AG P fd.type true) (hs : SZ P fd.type sz) (hv : (cs.drop fd.offset).take sz = vs) :
    (execOp a.eval ⟨dst, .field s x f, ty, pos, af, gd⟩).run P w = .ok (.value (.agg vs.toArray)) w := by
  subst hv
  simp only [execOp, hx]
  simp [Instr.field, asAgg, part, Sem.run_bind, hu w, hf, hA w, hs w, List.take_drop]
theorem e_extract {i : Nat} {vs : List Value} (hx : a.eval x = .tuple vs.toArray) (hv : vs[i]? = some v) :
    (execOp a.eval ⟨dst, .extract x i, ty, pos, af, gd⟩).run P w = .ok (.value v) w := by
  simp only [execOp, hx]
  simp [Instr.extract, Sem.run_bind, hv]
theorem e_build {t : TypeId} {ps : List (Nat × Operand)} {vs : List (Nat × Value)} {cs : List Value} (hx : EvP a.eval ps vs) (hb : (Instr.build t vs.toArray).run P w = .ok (.agg cs.toArray) w) :
    (execOp a.eval ⟨dst, .build t ps.toArray, ty, pos, af, gd⟩).run P w = .ok (.value (.agg cs.toArray)) w := by
  simp only [execOp, List.map_toArray, hx.map]
  simp [Sem.run_bind, hb]
theorem e_index {t e : TypeId} {m : Nat} {α : Type} [Inhabited α] {f : α → Value} {xs : List α} {i : Int} {k' : IntKind} (hx : a.eval x = .agg (xs.map f).toArray) (hy : a.eval y = .int k' i) (hu : UT P t (.array m e)) (hA : AG P e false) (hs : SZ P e 1)
    (hm : xs.length = m) (h : 0 ≤ i ∧ i < m) (hv : f (gi xs i) = v) :
    (execOp a.eval ⟨dst, .index t x y, ty, pos, af, gd⟩).run P w = .ok (.value v) w := by
  obtain ⟨h0, h1⟩ := h
  have hl : i.toNat < xs.length := by omega
  have hc : (xs.map f)[i.toNat]? = some v := by
    have hg : gi xs i = xs[i.toNat] := by simp [gi, hl]
    rw [hg] at hv
    simp [hl, hv]
  simp only [execOp, hx, hy]
  simp [Instr.index, asIntOf, part, Sem.run_bind, hu w, hA w, hs w, h0, h1]
  simp at hc
  obtain ⟨z, hz, rfl⟩ := hc
  simp [hz]
def sb (s : ByteArray) (i : Int) : Int := (s.data.getD i.toNat 0).toNat
theorem e_indexs {t : TypeId} {s : ByteArray} {i : Int} {k' : IntKind} (hx : a.eval x = .string s) (hy : a.eval y = .int k' i) (hu : UT P t .string)
    (h : 0 ≤ i ∧ i < s.size) :
    (execOp a.eval ⟨dst, .index t x y, ty, pos, af, gd⟩).run P w = .ok (.value (.int .u8 (sb s i))) w := by
  obtain ⟨h0, h1⟩ := h
  have h2 : i.toNat < s.size := by omega
  have h3 : ((s[i.toNat]'h2).toNat : Int) = sb s i := by
    have : i.toNat < s.data.size := h2
    simp only [sb, Array.getD, this, dif_pos]
    rfl
  simp only [execOp, hx, hy]
  simp [Instr.index, asIntOf, Sem.run_bind, hu w, h0, h2, h3]
theorem e_makeFunc {fn : Fn} {fi ca : List Operand} {v1 v2 : List Value} (h1 : Evs a.eval fi v1) (h2 : Evs a.eval ca v2) :
    (execOp a.eval ⟨dst, .makeFunc fn fi.toArray ca.toArray, ty, pos, af, gd⟩).run P w = .ok (.value (.func fn v1.toArray v2.toArray)) w := by
  simp only [execOp, List.map_toArray, h1.map, h2.map]
  simp [Instr.makeFunc, Sem.run_bind]
theorem e_nilCheckP {p : Addr} (hx : a.eval x = .pointer (some p)) :
    (execOp a.eval ⟨dst, .nilCheck x, ty, pos, af, gd⟩).run P w = .ok (.value (.pointer (some p))) w := by
  simp only [execOp, hx]
  rfl
theorem e_builtin {b : Builtin} {xs : List Operand} {vs : List Value} {ats : Array TypeId} (hx : Evs a.eval xs vs)
    (hr : (builtin b ats ty (xs.map fun | .const _ => true | _ => false).toArray vs.toArray).run P w = .ok (.value v) w) :
    (execOp a.eval ⟨dst, .call { callee := .builtin b, args := xs.toArray, argTypes := ats }, ty, pos, af, gd⟩).run P w = .ok (.value v) w := by
  simp only [execOp, resolve, List.map_toArray, hx.map]
  simp only [Sem.run_bind, Sem.run_pure, Result.andThen_ok, invoke]
  exact hr
theorem e_slices {t : TypeId} {s : ByteArray} {lo hi : Option Operand} {l h : Int} {kl kh : IntKind} {s' : ByteArray} (hx : a.eval x = .string s) (hu : UT P t .string)
    (hlo : (lo.map a.eval = some (.int kl l)) ∨ (lo = none ∧ l = 0)) (hhi : (hi.map a.eval = some (.int kh h)) ∨ (hi = none ∧ h = s.size)) (hb : 0 ≤ l ∧ l ≤ h ∧ h ≤ s.size) (hs : s.extract l.toNat h.toNat = s') :
    (execOp a.eval ⟨dst, .slice t x lo hi none, ty, pos, af, gd⟩).run P w = .ok (.value (.string s')) w := by
  subst hs
  obtain ⟨b0, b1, b2⟩ := hb
  have e0 : 0 ≤ h := by omega
  simp only [execOp, hx, Option.map_none]
  rcases hlo with hlo | ⟨rfl, rfl⟩ <;> rcases hhi with hhi | ⟨rfl, rfl⟩ <;>
    simp [Instr.sliceAt, Instr.slice, Instr.sliceBounds, Instr.sliceBound, Sem.run_bind, hu w, asIntOf, *] <;> omega
theorem run_eqb {b c : Bool} {xt : TypeId} (hu : UT P xt .bool) : (Op.equal xt (.bool b) (.bool c)).run P w = .ok (b == c) w := by
  unfold Op.equal Op.maxDepth
  rw [Op.equalIn]
  rw [Sem.run_bind, hu w, Result.andThen_ok]
  rfl
theorem r_eqb {b c e : Bool} {xt : TypeId} (hu : UT P xt .bool) (he : (b == c) = e) :
    (do eqGuard .eql xt x y (.bool b) (.bool c); binOp .eql xt (.bool b) (.bool c) : Sem Value).run P w = .ok (.bool e) w := by
  subst he
  have h1 : eqGuard .eql xt x y (.bool b) (.bool c) = pure () := rfl
  have h2 : binOp .eql xt (.bool b) (.bool c) = (do pure (.bool (← Op.equal xt (.bool b) (.bool c)))) := rfl
  rw [h1, h2, Sem.run_bind, Sem.run_pure, Result.andThen_ok, Sem.run_bind, run_eqb hu, Result.andThen_ok, Sem.run_pure]
theorem r_neb {b c e : Bool} {xt : TypeId} (hu : UT P xt .bool) (he : (!(b == c)) = e) :
    (do eqGuard .neq xt x y (.bool b) (.bool c); binOp .neq xt (.bool b) (.bool c) : Sem Value).run P w = .ok (.bool e) w := by
  subst he
  have h1 : eqGuard .neq xt x y (.bool b) (.bool c) = pure () := rfl
  have h2 : binOp .neq xt (.bool b) (.bool c) = (do pure (.bool (!(← Op.equal xt (.bool b) (.bool c))))) := rfl
  rw [h1, h2, Sem.run_bind, Sem.run_pure, Result.andThen_ok, Sem.run_bind, run_eqb hu, Result.andThen_ok, Sem.run_pure]

theorem s_gp {ol : List Oper} {Q : Exit → Act → World → Prop} {n : Nat} {L : Env} {σ : Nat → Value} {ds : List Deferred} {rest : List Oper} {op : Op} {j dj : Nat} {want b G : Bool}
    (hj : dstAt ol j = some dj) (hn : Nat.blt dj n = true) (hv : ov L σ dj = .bool b) (hG : (b == want) = G)
    (hx : G = true → (execOp (st n L σ ds).eval ⟨some d, op, ty, pos, af, none⟩).run P w = .ok (.value v) w) (hd : Nat.blt d n = true)
    (k : wpList P ol.toArray Q rest (st n ((d, bif G then v else undef) :: L) σ ds) w) :
    wpList P ol.toArray Q (⟨some d, op, ty, pos, af, some (j, want)⟩ :: rest) (st n L σ ds) w := by
  by_cases hb : b = want
  · subst hb
    have hGt : G = true := by rw [← hG]; simp
    subst hGt
    exact gon hj hn hv (sv rfl rfl hd (hx rfl) k)
  · have hbw : b = !want := by cases b <;> cases want <;> simp at hb ⊢
    have hGf : G = false := by rw [← hG]; cases b <;> cases want <;> simp at hb ⊢
    subst hbw; subst hGf
    exact goff hj hn hv hd k
theorem goffu {ol : List Oper} {Q : Exit → Act → World → Prop} {n : Nat} {L : Env} {σ : Nat → Value} {ds : List Deferred} {rest : List Oper} {op : Op} {j dj : Nat} {want : Bool}
    (hj : dstAt ol j = some dj) (hn : Nat.blt dj n = true) (hv : ov L σ dj = undef) (hd : Nat.blt d n = true)
    (k : wpList P ol.toArray Q rest (st n ((d, undef) :: L) σ ds) w) :
    wpList P ol.toArray Q (⟨some d, op, ty, pos, af, some (j, want)⟩ :: rest) (st n L σ ds) w := by
  have hj' : (ol[j]?).bind (·.dst) = some dj := by rw [dstAt_eq]; exact hj
  have hw : Region.wanted ⟨some d, op, ty, pos, af, some (j, want)⟩ (yielded ol.toArray (st n L σ ds).tmps) = false := by
    simp [Region.wanted, yielded, hj', fr_get (blt hn), hv, undef]
  unfold wpList
  rw [hw, put_st hd]
  exact k
theorem goffu0 {ol : List Oper} {Q : Exit → Act → World → Prop} {n : Nat} {L : Env} {σ : Nat → Value} {ds : List Deferred} {rest : List Oper} {op : Op} {j dj : Nat} {want : Bool}
    (hj : dstAt ol j = some dj) (hn : Nat.blt dj n = true) (hv : ov L σ dj = undef)
    (k : wpList P ol.toArray Q rest (st n L σ ds) w) :
    wpList P ol.toArray Q (⟨none, op, ty, pos, af, some (j, want)⟩ :: rest) (st n L σ ds) w := by
  have hj' : (ol[j]?).bind (·.dst) = some dj := by rw [dstAt_eq]; exact hj
  have hw : Region.wanted ⟨none, op, ty, pos, af, some (j, want)⟩ (yielded ol.toArray (st n L σ ds).tmps) = false := by
    simp [Region.wanted, yielded, hj', fr_get (blt hn), hv, undef]
  unfold wpList
  rw [hw]
  exact k
theorem s_gpg {ol : List Oper} {Q : Exit → Act → World → Prop} {n : Nat} {L : Env} {σ : Nat → Value} {ds : List Deferred} {rest : List Oper} {op : Op} {j dj : Nat} {want b G G0 : Bool}
    (hj : dstAt ol j = some dj) (hn : Nat.blt dj n = true) (hv : ov L σ dj = bif G0 then .bool b else undef) (hG : (b == want) = G)
    (hx : (G0 && G) = true → (execOp (st n L σ ds).eval ⟨some d, op, ty, pos, af, none⟩).run P w = .ok (.value v) w) (hd : Nat.blt d n = true)
    (k : wpList P ol.toArray Q rest (st n ((d, bif (G0 && G) then v else undef) :: L) σ ds) w) :
    wpList P ol.toArray Q (⟨some d, op, ty, pos, af, some (j, want)⟩ :: rest) (st n L σ ds) w := by
  cases G0 with
  | true => exact s_gp hj hn hv hG (fun h => hx h) hd k
  | false => exact goffu hj hn hv hd k
theorem s_gcall {ol : List Oper} {Q : Exit → Act → World → Prop} {n : Nat} {L : Env} {σ : Nat → Value} {ds : List Deferred} {rest : List Oper} {j dj : Nat} {want b G : Bool} {f : FuncId} {xs : List Operand} {vs : List Value} {ats : Array TypeId}
    {M I : Nat → Prop} {w0 wr : World} {R : List Rsc}
    (hj : dstAt ol j = some dj) (hn : Nat.blt dj n = true) (hv : ov L σ dj = .bool b) (hG : (b == want) = G) (h : Hp M I w0 wr w R)
    (hx : G = true → Evs (st n L σ ds).eval xs vs) (hcf : ∀ args w, (callFunc f args).run P w = .ok (.enter f args) w) (hc : Ret P f vs w fun v' w' => v' = v ∧ Aft w w' [] []) (hd : Nat.blt d n = true)
    (k : ∀ w', Hp M I w0 wr w' R → wpList P ol.toArray Q rest (st n ((d, bif G then v else undef) :: L) σ ds) w') :
    wpList P ol.toArray Q (⟨some d, .call { callee := .value (.func f), args := xs.toArray, argTypes := ats }, ty, pos, af, some (j, want)⟩ :: rest) (st n L σ ds) w := by
  by_cases hb : b = want
  · subst hb
    have hGt : G = true := by rw [← hG]; simp
    subst hGt
    exact gon hj hn hv (s_call (hx rfl) hcf hc hd fun v' w' ⟨hv', hb'⟩ => by subst hv'; exact k w' (h.grow hb'.below))
  · have hbw : b = !want := by cases b <;> cases want <;> simp at hb ⊢
    have hGf : G = false := by rw [← hG]; cases b <;> cases want <;> simp at hb ⊢
    subst hbw; subst hGf
    exact goff hj hn hv hd (k w h)
theorem s_gcallg {ol : List Oper} {Q : Exit → Act → World → Prop} {n : Nat} {L : Env} {σ : Nat → Value} {ds : List Deferred} {rest : List Oper} {j dj : Nat} {want b G G0 : Bool} {f : FuncId} {xs : List Operand} {vs : List Value} {ats : Array TypeId}
    {M I : Nat → Prop} {w0 wr : World} {R : List Rsc}
    (hj : dstAt ol j = some dj) (hn : Nat.blt dj n = true) (hv : ov L σ dj = bif G0 then .bool b else undef) (hG : (b == want) = G) (h : Hp M I w0 wr w R)
    (hx : (G0 && G) = true → Evs (st n L σ ds).eval xs vs) (hcf : ∀ args w, (callFunc f args).run P w = .ok (.enter f args) w) (hc : Ret P f vs w fun v' w' => v' = v ∧ Aft w w' [] []) (hd : Nat.blt d n = true)
    (k : ∀ w', Hp M I w0 wr w' R → wpList P ol.toArray Q rest (st n ((d, bif (G0 && G) then v else undef) :: L) σ ds) w') :
    wpList P ol.toArray Q (⟨some d, .call { callee := .value (.func f), args := xs.toArray, argTypes := ats }, ty, pos, af, some (j, want)⟩ :: rest) (st n L σ ds) w := by
  cases G0 with
  | true => exact s_gcall hj hn hv hG h (fun h => hx h) hcf hc hd k
  | false => exact goffu hj hn hv hd (k w h)
theorem gv {G : Bool} {v u : Value} (h : G = true) : (bif G then v else u) = v := by subst h; rfl
theorem gvv {u : Value} {v : Value} (G : Bool) (hv : u = bif G then v else undef) (g : G = true) : u = v := by rw [hv, g]; rfl
theorem gvu {u : Value} {v : Value} (G : Bool) (hv : u = bif G then v else undef) (g : G = false) : u = undef := by rw [hv, g]; rfl
theorem tmg {n : Nat} {L : Env} {σ : Nat → Value} {ds : List Deferred} {t : Nat} (G : Bool) (v : Value) (h : Nat.blt t n = true) (hv : ov L σ t = bif G then v else undef) (g : G = true) : (st n L σ ds).eval (.tmp t) = v := tm h (gvv G hv g)
theorem and_l {a b : Bool} (h : (a && b) = true) : a = true := by cases a <;> simp at h ⊢
theorem and_r {a b : Bool} (h : (a && b) = true) : b = true := by cases b <;> simp at h ⊢
theorem and_i {a b : Bool} (h : a = true) (k : b = true) : (a && b) = true := by subst h; subst k; rfl
theorem nt {a : Bool} (h : a = false) : (!a) = true := by subst h; rfl

theorem beq_t (b : Bool) : (b == true) = b := by cases b <;> rfl
theorem beq_f (b : Bool) : (b == false) = !b := by cases b <;> rfl
theorem pk_or (b : Bool) {c : Bool} : (bif b then Value.bool true else Value.bool c) = Value.bool (b || c) := by cases b <;> rfl
theorem pk_and (b : Bool) {c : Bool} : (bif b then Value.bool c else Value.bool false) = Value.bool (b && c) := by cases b <;> rfl
theorem pk_bif (b : Bool) {c e : Bool} : (bif b then Value.bool c else Value.bool e) = Value.bool (bif b then c else e) := by cases b <;> rfl
theorem wrap_u64 (n : Int) : IntKind.u64.wrap n = n % 18446744073709551616 := by
  have h : IntKind.u64.wrap n = n % 2 ^ 64 := by simp [IntKind.wrap, IntKind.bits, IntKind.signed]
  rw [h]
  rfl
theorem wrap_u32 (n : Int) : IntKind.u32.wrap n = n % 4294967296 := IntKind.wrap_u32 n
theorem wrap_u16 (n : Int) : IntKind.u16.wrap n = n % 65536 := by
  have h : IntKind.u16.wrap n = n % 2 ^ 16 := by simp [IntKind.wrap, IntKind.bits, IntKind.signed]
  rw [h]
  rfl
theorem wrap_u8 (n : Int) : IntKind.u8.wrap n = n % 256 := IntKind.wrap_u8 n
theorem wrap_i64 (n : Int) : IntKind.i64.wrap n = wrap64 n := IntKind.wrap_i64 n
theorem wrap_i32 (n : Int) : IntKind.i32.wrap n = wrap32 n := IntKind.wrap_i32 n
def wrap16 (n : Int) : Int := (n + 32768) % 65536 - 32768
theorem wrap_i16 (n : Int) : IntKind.i16.wrap n = wrap16 n := by
  have h : IntKind.i16.wrap n = if n % 65536 ≥ 32768 then n % 65536 - 65536 else n % 65536 := by simp [IntKind.wrap, IntKind.bits, IntKind.signed]
  rw [h]
  unfold wrap16
  omega
theorem fdv (a b : Int) {c : Int} (h : c = a / b) (hb : 0 ≤ b := by decide) : a.fdiv b = c := by rw [h]; exact Int.fdiv_eq_ediv_of_nonneg a hb
theorem fdp (a : Int) (n : Nat) {c : Int} (h : c = a / 2 ^ n) : a.fdiv (2 ^ n) = c := by rw [h]; exact Int.fdiv_eq_ediv_of_nonneg a (Int.pow_nonneg (by decide))
def mx (a b : Int) : Int := if b > a then b else a
def mn (a b : Int) : Int := if b < a then b else a
def lt {α β : Type} (x : α) (f : α → β) : β := f x
theorem ltE {α β : Type} {x : α} {f : α → β} {r : β} (h : lt x f = r) : ∃ o, x = o ∧ f o = r := ⟨x, rfl, h⟩
theorem bindSome {α β : Type} {x : Option α} {f : α → Option β} {r : β} (h : x.bind f = some r) : ∃ o, x = some o ∧ f o = some r := by
  cases x with
  | none => cases h
  | some o => exact ⟨o, rfl, h⟩
theorem ift {α : Type} {b : Bool} {A B r : α} (hb : b = true) (h : (if b = true then A else B) = r) : A = r := by rw [if_pos hb] at h; exact h
theorem iff_ {α : Type} {b : Bool} {A B r : α} (hb : b = false) (h : (if b = true then A else B) = r) : B = r := by rw [if_neg (by simp [hb])] at h; exact h
theorem grd {α : Type} {p : Prop} [Decidable p] {A : Option α} {r : α} (h : (if p then A else none) = some r) : p ∧ A = some r := by
  by_cases hp : p
  · rw [if_pos hp] at h; exact ⟨hp, h⟩
  · rw [if_neg hp] at h; cases h
theorem fuel {α : Type} {f : Nat → Option α} {m : Nat} {r : α} (h0 : f 0 = none) (h : f m = some r) : ∃ k, m = k + 1 := by
  cases m with
  | zero => rw [h0] at h; cases h
  | succ k => exact ⟨k, rfl⟩
theorem seenF {n : Nat} {L L' : Env} {σ : Nat → Value} {ds : List Deferred} (h : AllEq L' (ov L σ)) : st n L σ ds = st n L' (ov L σ) ds := by
  simp only [st, ov_absorb h]
end

structure DF where
  slot : Option Nat
  fact : Value → World → Prop
structure Grow (G : World → World → Prop) : Prop where
  refl : ∀ w, G w w
  trans : ∀ {w w' w''}, G w w' → G w' w'' → G w w''
def dval (σ : Nat → Value) : Option Nat → Value
  | some d => σ d
  | none => undef
def DF.at_ (G : World → World → Prop) (f : DF) (σ : Nat → Value) (w : World) : Prop := ∃ w', G w' w ∧ f.fact (dval σ f.slot) w'
def dnth : List DF → Nat → DF
  | [], _ => ⟨none, fun _ _ => True⟩
  | f :: _, 0 => f
  | _ :: r, i + 1 => dnth r i
def Fcs (G : World → World → Prop) (Φ : List DF) (σ : Nat → Value) (w : World) : List Nat → Prop
  | [] => True
  | j :: r => (dnth Φ j).at_ G σ w ∧ Fcs G Φ σ w r
def FcAll (G : World → World → Prop) (σ : Nat → Value) (w : World) : List DF → Prop
  | [] => True
  | f :: r => f.at_ G σ w ∧ FcAll G σ w r
def onDraw (o : Oper) (j : Nat) : Bool := o.after.any fun e => Region.binds .any e && Nat.beq e.on j
def predsOk (o : Oper) (pr : List Nat) : Bool := pr.all (onDraw o)
def opOn : List Oper → Nat → Nat → Bool
  | [], _, _ => false
  | o :: _, 0, i => onDraw o i
  | _ :: r, j + 1, i => opOn r j i
def succsOk (ol : List Oper) (i : Nat) (np : List Nat) : Bool := np.all fun j => opOn ol j i
def Fls (fl : Nat → Bool) (b : Bool) : List Nat → Prop
  | [] => True
  | j :: r => fl j = b ∧ Fls fl b r
def upd (fl : Nat → Bool) (i j : Nat) : Bool := bif Nat.beq i j then true else fl j
def pd (d : Option Nat) (v : Value) (L : Env) : Env := match d with | some d => (d, v) :: L | none => L
def dv (d : Option Nat) (v : Value) : Value := match d with | some _ => v | none => undef
def slotB (n : Nat) : Option Nat → Bool
  | some d => Nat.blt d n
  | none => true

inductive DSteps (P : Program) (ol : List Oper) (n : Nat) (L : Env) (ds : List Deferred) (J : (Nat → Bool) → World → Prop) (G : World → World → Prop) (Q : Exit → Act → World → Prop) (Φ : List DF) : Nat → List Oper → Prop
  | nil {i : Nat} : DSteps P ol n L ds J G Q Φ i []
  | cons {i : Nat} {o : Oper} {r : List Oper} (pr np : List Nat) (hs : (dnth Φ i).slot = o.dst) (hn : slotB n o.dst = true) (hp : predsOk o pr = true) (hq : succsOk ol i np = true)
      (h : ∀ σ fl w, J fl w → fl i = false → Fls fl true pr → Fls fl false np → Fcs G Φ σ w pr → wpList P ol.toArray (Exit.then (fun a w' => ∃ v, a = st n (pd o.dst v L) σ ds ∧ J (upd fl i) w' ∧ G w w' ∧ (dnth Φ i).fact (dv o.dst v) w') Q) [o] (st n L σ ds) w)
      (k : DSteps P ol n L ds J G Q Φ (i + 1) r) : DSteps P ol n L ds J G Q Φ i (o :: r)

section
variable {P : Program} {Q Q' : Exit → Act → World → Prop}
theorem wp_exits {o : Oper} {a : Act} {w : World} {K : Act → World → Prop} (hh : o.wp P a w K (Exit.then K Q)) : o.wp P a w K Q := by
  unfold Oper.wp at *
  generalize (execOp a.eval o).run P w = r at *
  cases r with
  | ok n w' =>
    cases n <;> simp only [Oper.upon] at hh ⊢ <;>
      first
        | exact hh
        | exact Calls.mono hh (fun e w'' he => by cases e <;> first | exact he | (obtain ⟨c, h1, h2⟩ := he; exact ⟨c, h1, h2⟩))
        | exact Rows.mono hh (fun _ _ he => he)
        | exact False.elim hh
  | halt x w' => cases x <;> simp only [Oper.upon] at hh ⊢ <;> first | exact hh | exact False.elim hh
theorem wpOp_of_list {ops : Array Oper} {o : Oper} {i : Nat} {a : Act} {w : World} {K : Act → World → Prop} (hi : ops[i]? = some o)
    (h : wpList P ops (Exit.then K Q) [o] a w) : wpOp P ops Q i K a w := by
  unfold wpOp
  simp only [hi]
  unfold wpList at h
  split
  · rename_i hw
    rw [if_pos hw] at h
    rcases h with h | ⟨h1, a', w', h⟩
    · exact .inl (wp_exits h)
    · exact .inr ⟨h1, a', w', h⟩
  · rename_i hw
    rw [if_neg hw] at h
    exact h
end

def keysNot (d : Nat) : Env → Bool
  | [] => true
  | p :: r => !(Nat.beq p.1 d) && keysNot d r
def keysNotO : Option Nat → Env → Bool
  | some d, L => keysNot d L
  | none, _ => true
def slotNot (d : Nat) : List DF → Bool
  | [] => true
  | f :: r => (match f.slot with | some d' => !(Nat.beq d' d) | none => true) && slotNot d r
def slotNotO : Option Nat → List DF → Bool
  | some d, r => slotNot d r
  | none, _ => true
def slotsOk (L : Env) : List DF → Bool
  | [] => true
  | f :: r => keysNotO f.slot L && slotNotO f.slot r && slotsOk L r
theorem keysNot_ov {d : Nat} {v : Value} {L : Env} (h : keysNot d L = true) (σ : Nat → Value) : ov ((d, v) :: L) σ = ov L (fun t => bif Nat.beq d t then v else σ t) := by
  funext t
  simp only [ov]
  cases hb : Nat.beq d t with
  | false =>
    simp only [cond_false]
    induction L with
    | nil => simp [ov, hb]
    | cons p r ih =>
      simp only [keysNot, Bool.and_eq_true] at h
      simp only [ov, ih h.2]
  | true =>
    have := Nat.eq_of_beq_eq_true hb; subst this
    simp only [cond_true]
    induction L with
    | nil => simp [ov]
    | cons p r ih =>
      simp only [keysNot, Bool.and_eq_true, Bool.not_eq_true'] at h
      simp only [ov, h.1, cond_false]
      exact ih h.2
theorem dnth_get {Φ : List DF} {i : Nat} {f : DF} (h : Φ[i]? = some f) : dnth Φ i = f := by
  induction Φ generalizing i with
  | nil => simp at h
  | cons g r ih => cases i with
    | zero => simpa [dnth] using h
    | succ i => simp at h; simpa [dnth] using ih h
theorem slotsOk_keys {L : Env} {Φ : List DF} (h : slotsOk L Φ = true) {i d : Nat} {f : DF} (hf : Φ[i]? = some f) (hd : f.slot = some d) : keysNot d L = true := by
  induction Φ generalizing i with
  | nil => simp at hf
  | cons g r ih =>
    simp only [slotsOk, Bool.and_eq_true] at h
    cases i with
    | zero => simp at hf; subst hf; rw [hd] at h; exact h.1.1
    | succ i => simp at hf; exact ih h.2 hf
theorem slotNot_ne {d d' : Nat} {Φ : List DF} (h : slotNot d Φ = true) {i : Nat} {f : DF} (hf : Φ[i]? = some f) (hd : f.slot = some d') : d' ≠ d := by
  induction Φ generalizing i with
  | nil => simp at hf
  | cons g r ih =>
    simp only [slotNot, Bool.and_eq_true] at h
    cases i with
    | zero => simp at hf; subst hf; intro e; rw [hd, e] at h; simp at h
    | succ i => simp at hf; exact ih h.2 hf
theorem slotsOk_ne {L : Env} {Φ : List DF} (h : slotsOk L Φ = true) {i j d d' : Nat} {f g : DF} (hf : Φ[i]? = some f) (hg : Φ[j]? = some g) (hd : f.slot = some d) (hd' : g.slot = some d') (hne : i ≠ j) : d ≠ d' := by
  induction Φ generalizing i j with
  | nil => simp at hf
  | cons q r ih =>
    simp only [slotsOk, Bool.and_eq_true] at h
    cases i with
    | zero => cases j with
      | zero => exact absurd rfl hne
      | succ j =>
        simp at hf hg; subst hf
        rw [hd] at h
        exact fun e => slotNot_ne h.1.2 hg hd' e.symm
    | succ i => cases j with
      | zero =>
        simp at hf hg; subst hg
        rw [hd'] at h
        exact slotNot_ne h.1.2 hf hd
      | succ j => simp at hf hg; exact ih h.2 hf hg (by omega)

def backOk (ol : List Oper) : Nat → List Oper → Bool
  | _, [] => true
  | i, o :: r => (o.after.all fun e => !Region.binds .any e || Nat.blt e.on i) && backOk ol (i + 1) r
def allOn (o : Oper) : Nat → Bool
  | 0 => true
  | j + 1 => onDraw o j && allOn o j
def tailOk (m : Nat) : Nat → List Oper → Bool
  | _, [] => true
  | i, o :: r => (Nat.blt i m || allOn o i) && tailOk m (i + 1) r
theorem backOk_get {ol l : List Oper} {k i : Nat} {o : Oper} (h : backOk ol k l = true) (hi : l[i]? = some o) : ∀ e ∈ o.after, Region.binds .any e = true → e.on < k + i := by
  induction l generalizing k i with
  | nil => simp at hi
  | cons p r ih =>
    simp only [backOk, Bool.and_eq_true] at h
    cases i with
    | zero =>
      simp at hi; subst hi
      intro e he hb
      have := Array.all_eq_true_iff_forall_mem.1 h.1 e he
      rw [hb] at this
      simpa [Nat.blt_eq] using this
    | succ i =>
      simp at hi
      intro e he hb
      have := ih h.2 hi e he hb
      omega
theorem allOn_get {o : Oper} {k j : Nat} (h : allOn o k = true) (hj : j < k) : onDraw o j = true := by
  induction k with
  | zero => omega
  | succ k ih =>
    simp only [allOn, Bool.and_eq_true] at h
    rcases Nat.lt_succ_iff_lt_or_eq.1 hj with h' | h'
    · exact ih h.2 h'
    · subst h'; exact h.1
theorem tailOk_get {m : Nat} {l : List Oper} {k i : Nat} {o : Oper} (h : tailOk m k l = true) (hi : l[i]? = some o) (hm : m ≤ k + i) : ∀ j, j < k + i → onDraw o j = true := by
  induction l generalizing k i with
  | nil => simp at hi
  | cons p r ih =>
    simp only [tailOk, Bool.and_eq_true, Bool.or_eq_true] at h
    cases i with
    | zero =>
      simp at hi; subst hi
      intro j hj
      rcases h.1 with h1 | h1
      · rw [Nat.blt_eq] at h1; omega
      · exact allOn_get h1 (by simpa using hj)
    | succ i =>
      simp at hi
      intro j hj
      exact ih h.2 hi (by omega) j (by omega)
theorem onDraw_listed {o : Oper} {j : Nat} {listed : Array Bool} (h : onDraw o j = true) (hl : ∀ e ∈ o.after, Region.binds .any e = true → listed.getD e.on false = true) : listed.getD j false = true := by
  obtain ⟨e, he, hb⟩ := Array.any_eq_true'.1 h
  simp only [Bool.and_eq_true] at hb
  rw [← Nat.eq_of_beq_eq_true hb.2]
  exact hl e he hb.1

theorem opOn_get {ol : List Oper} {j i : Nat} {o : Oper} (h : opOn ol j i = true) (ho : ol[j]? = some o) : onDraw o i = true := by
  induction ol generalizing j with
  | nil => simp at ho
  | cons p r ih => cases j with
    | zero => simp at ho; subst ho; exact h
    | succ j => simp at ho; exact ih h ho
theorem opOn_lt {ol : List Oper} {j i : Nat} (h : opOn ol j i = true) : ∃ o, ol[j]? = some o := by
  induction ol generalizing j with
  | nil => simp [opOn] at h
  | cons p r ih => cases j with
    | zero => exact ⟨p, rfl⟩
    | succ j => obtain ⟨o, ho⟩ := ih h; exact ⟨o, by simpa using ho⟩

section
variable {P : Program} {ol : List Oper} {n : Nat} {L : Env} {ds : List Deferred} {J : (Nat → Bool) → World → Prop} {G : World → World → Prop} {Φ : List DF} {m : Nat} {N : Act → World → Prop} {Q : Exit → Act → World → Prop}

theorem DSteps.get : ∀ {l : List Oper} {k i : Nat} {o : Oper}, DSteps P ol n L ds J G Q Φ k l → l[i]? = some o → ∃ pr np, (dnth Φ (k + i)).slot = o.dst ∧ slotB n o.dst = true ∧ predsOk o pr = true ∧ succsOk ol (k + i) np = true ∧
      ∀ σ fl w, J fl w → fl (k + i) = false → Fls fl true pr → Fls fl false np → Fcs G Φ σ w pr → wpList P ol.toArray (Exit.then (fun a w' => ∃ v, a = st n (pd o.dst v L) σ ds ∧ J (upd fl (k + i)) w' ∧ G w w' ∧ (dnth Φ (k + i)).fact (dv o.dst v) w') Q) [o] (st n L σ ds) w := by
  intro l
  induction l with
  | nil => intro k i o _ hi; simp at hi
  | cons p r ih =>
    intro k i o h hi
    cases h with
    | cons pr np hs hn hp hq h hk =>
      cases i with
      | zero => simp at hi; subst hi; exact ⟨pr, np, hs, hn, hp, hq, h⟩
      | succ i =>
        simp at hi
        have := ih hk hi
        rw [show k + 1 + i = k + (i + 1) by omega] at this
        exact this

structure DJ (ol : List Oper) (n : Nat) (L : Env) (ds : List Deferred) (J : (Nat → Bool) → World → Prop) (G : World → World → Prop) (Φ : List DF) (listed : Array Bool) (a : Act) (w : World) : Prop where
  ex : ∃ σ, a = st n L σ ds ∧ J (fun j => listed.getD j false) w ∧ ∀ i, i < Φ.length → listed.getD i false = true → (dnth Φ i).at_ G σ w
  closed : ∀ i o, ol[i]? = some o → listed.getD i false = true → ∀ e ∈ o.after, Region.binds .any e = true → listed.getD e.on false = true

theorem Fcs_of {σ : Nat → Value} {w : World} : ∀ (pr : List Nat), (∀ j ∈ pr, (dnth Φ j).at_ G σ w) → Fcs G Φ σ w pr
  | [], _ => trivial
  | j :: r, h => ⟨h j (by simp), Fcs_of r fun j hj => h j (by simp [hj])⟩
theorem Fls_of {fl : Nat → Bool} {b : Bool} : ∀ (pr : List Nat), (∀ j ∈ pr, fl j = b) → Fls fl b pr
  | [], _ => trivial
  | j :: r, h => ⟨h j (by simp), Fls_of r fun j hj => h j (by simp [hj])⟩
theorem FcAll_of {σ : Nat → Value} {w : World} : ∀ (Φ : List DF), (∀ i, i < Φ.length → (dnth Φ i).at_ G σ w) → FcAll G σ w Φ
  | [], _ => trivial
  | f :: r, h => ⟨h 0 (by simp), FcAll_of r fun i hi => h (i + 1) (by simp; omega)⟩

theorem draw_step (hG : Grow G) (hlen : Φ.length = m) (hsl : slotsOk L Φ = true) (steps : DSteps P ol n L ds J G Q Φ 0 (ol.take m)) {i : Nat} (him : i < m) {listed : Array Bool} (hsz : listed.size = ol.length) (hml : m ≤ ol.length)
    {a : Act} {w : World} (hJ : DJ ol n L ds J G Φ listed a w) (hr : i ∈ Region.ready .any ol.toArray listed) (hback : backOk ol 0 ol = true) :
    wpOp P ol.toArray Q i (DJ ol n L ds J G Φ (listed.setIfInBounds i true)) a w := by
  obtain ⟨⟨σ, rfl, hj, hf⟩, hcl⟩ := hJ
  obtain ⟨hun, o, ho, hall⟩ := mem_ready.1 hr
  have hol : ol[i]? = some o := by simpa using ho
  have hiu : listed.getD i false = false := by
    have : listed.getD i true = listed.getD i false := by
      have h1 : i < listed.size := by omega
      simp [h1]
    rw [← this]; exact hun
  have ho' : (ol.take m)[i]? = some o := by
    rw [List.getElem?_take, if_pos him]
    exact hol
  obtain ⟨pr, np, hs, hn, hp, hq, h⟩ := steps.get ho'
  rw [Nat.zero_add] at hs h hq
  obtain ⟨f, hfi⟩ : ∃ f, Φ[i]? = some f := ⟨_, List.getElem?_eq_getElem (by omega)⟩
  have hfe := dnth_get hfi
  have hprl : ∀ j ∈ pr, listed.getD j false = true := fun j hj => onDraw_listed (List.all_eq_true.1 hp j hj) hall
  have h1 := h σ (fun j => listed.getD j false) w hj hiu (Fls_of pr hprl)
    (Fls_of np fun j hj => by
      have h2 := List.all_eq_true.1 hq j hj
      obtain ⟨oj, hoj⟩ := opOn_lt h2
      have h3 := opOn_get h2 hoj
      cases hl : listed.getD j false with
      | false => rfl
      | true =>
        have := onDraw_listed h3 (hcl j oj hoj hl)
        rw [hiu] at this; cases this)
    (Fcs_of pr fun j hj => by
      have hon := List.all_eq_true.1 hp j hj
      refine hf j ?_ (hprl j hj)
      obtain ⟨e, he, hb2⟩ := Array.any_eq_true'.1 hon
      simp only [Bool.and_eq_true] at hb2
      have := backOk_get hback hol e he hb2.1
      rw [Nat.eq_of_beq_eq_true hb2.2] at this
      omega)
  refine wpOp_mono (fun a' w' hq => ?_) (wpOp_of_list ho h1)
  obtain ⟨v, rfl, hJ', hg, hfact⟩ := hq
  have hupd : (fun j => (listed.setIfInBounds i true).getD j false) = upd (fun j => listed.getD j false) i := by
    funext j
    unfold upd
    cases hb : Nat.beq i j with
    | false =>
      have : i ≠ j := fun e => by rw [e, Nat.beq_refl] at hb; cases hb
      simp only [cond_false]
      exact getD_set_ne false this
    | true =>
      have := Nat.eq_of_beq_eq_true hb; subst this
      simp [hsz, show i < ol.length by omega]
  refine ⟨⟨fun t => match o.dst with | some d => bif Nat.beq d t then v else σ t | none => σ t, ?_, by rw [hupd]; exact hJ', fun j hj hlj => ?_⟩, fun j oj hoj hlj e he hb => ?_⟩
  · cases hd : o.dst with
    | none => rfl
    | some d =>
      have hkeys := slotsOk_keys hsl hfi (d := d) (by rw [← hfe, hs, hd])
      simp only [pd, st, keysNot_ov hkeys]
  · by_cases hji : j = i
    · subst hji
      refine ⟨w', hG.refl w', ?_⟩
      rw [hs]
      cases hd : o.dst with
      | none => rw [hd] at hfact; exact hfact
      | some d => rw [hd] at hfact; simpa [dval, dv] using hfact
    · have hlj' : listed.getD j false = true := by
        rw [getD_set_ne false (Ne.symm hji)] at hlj; exact hlj
      obtain ⟨w2, h2, h4⟩ := hf j hj hlj'
      refine ⟨w2, hG.trans h2 hg, ?_⟩
      obtain ⟨g, hgj⟩ : ∃ g, Φ[j]? = some g := ⟨_, List.getElem?_eq_getElem hj⟩
      rw [dnth_get hgj] at h4 ⊢
      cases hd : o.dst with
      | none => exact h4
      | some d =>
        cases hd' : g.slot with
        | none => rw [hd'] at h4; exact h4
        | some d' =>
          have hne := slotsOk_ne hsl hfi hgj (d := d) (d' := d') (by rw [← hfe, hs, hd]) hd' (Ne.symm hji)
          have : Nat.beq d d' = false := by
            cases hbb : Nat.beq d d'
            · rfl
            · exact absurd (Nat.eq_of_beq_eq_true hbb) hne
          rw [hd'] at h4
          simpa [dval, this] using h4
  · by_cases hji : j = i
    · subst hji
      rw [hol] at hoj
      obtain rfl := Option.some.inj hoj
      have hlt := backOk_get hback hol e he hb
      rw [getD_set_ne false (by omega)]
      exact hall e he hb
    · rw [getD_set_ne false (Ne.symm hji)] at hlj
      have := hcl j oj hoj hlj e he hb
      by_cases hei : e.on = i
      · rw [hei]; simp [hsz, show i < ol.length by omega]
      · rw [getD_set_ne false (Ne.symm hei)]; exact this

theorem ready_below {listed : Array Bool} {i : Nat} (hback : backOk ol 0 ol = true) (hi : i < ol.length) (hun : listed.getD i true = false) (hall : ∀ j, j < i → listed.getD j false = true) : i ∈ Region.ready .any ol.toArray listed := by
  rw [mem_ready]
  refine ⟨hun, ol[i], by simp [hi], fun e he hb => hall _ ?_⟩
  have := backOk_get hback (List.getElem?_eq_getElem hi) e he hb
  omega

theorem draw_tail (hback : backOk ol 0 ol = true) (htail : tailOk m 0 ol = true) : ∀ (r t fuel : Nat) (listed : Array Bool) (a : Act) (w : World), t + r = ol.length → m ≤ t → listed.size = ol.length →
    (∀ i, i < ol.length → listed.getD i false = decide (i < t)) → r ≤ fuel → wpList P ol.toArray Q (ol.drop t) a w → wpAny P .any ol.toArray Q fuel listed a w := by
  intro r
  induction r with
  | zero =>
    intro t fuel listed a w hr hm hsz hl hf h
    rw [List.drop_eq_nil_of_le (by omega)] at h
    refine wpAny_done ?_ h fuel
    apply List.eq_nil_iff_forall_not_mem.2
    intro i hi
    obtain ⟨h1, o, ho, _⟩ := mem_ready.1 hi
    have hlt : i < ol.length := by
      have := (Array.getElem?_eq_some_iff.1 ho).1
      simpa using this
    have h2 := hl i hlt
    have : listed.getD i true = listed.getD i false := by simp [hsz, hlt]
    rw [this, h2] at h1
    simp at h1
    omega
  | succ r ih =>
    intro t fuel listed a w hr hm hsz hl hf h
    have hlt : t < ol.length := by omega
    have hun : listed.getD t true = false := by
      have : listed.getD t true = listed.getD t false := by simp [hsz, hlt]
      rw [this, hl t hlt]; simp
    have hready : t ∈ Region.ready .any ol.toArray listed := ready_below hback hlt hun fun j hj => by rw [hl j (by omega)]; simp [hj]
    obtain ⟨f, rfl⟩ : ∃ f, fuel = f + 1 := ⟨fuel - 1, by omega⟩
    refine ⟨fun h0 => (by rw [h0] at hready; cases hready), fun i hi => ?_⟩
    have hit : i = t := by
      obtain ⟨h1, o, ho, hall⟩ := mem_ready.1 hi
      have hilt : i < ol.length := by
        have := (Array.getElem?_eq_some_iff.1 ho).1
        simpa using this
      have h2 := hl i hilt
      have h3 : listed.getD i true = listed.getD i false := by simp [hsz, hilt]
      rw [h3, h2] at h1
      have hge : t ≤ i := by simpa using h1
      rcases Nat.lt_or_ge t i with h' | h'
      · have h4 := onDraw_listed (tailOk_get htail (i := i) (by simpa using ho) (by omega) t (by omega)) hall
        rw [hl t hlt] at h4
        simp at h4
      · omega
    subst hit
    have hoi : ol.toArray[i]? = some ol[i] := by simp [hlt]
    rw [List.drop_eq_getElem_cons hlt] at h
    have h5 : wpOp P ol.toArray Q i (wpList P ol.toArray Q (ol.drop (i + 1))) a w := by
      unfold wpOp
      simp only [hoi]
      unfold wpList at h
      exact h
    refine wpOp_mono (fun a' w' hq => ?_) h5
    refine ih (i + 1) f _ a' w' (by omega) (by omega) (by simpa using hsz) ?_ (by omega) hq
    intro j hj
    by_cases hji : j = i
    · subst hji
      simp [hsz, hlt]
    · rw [getD_set_ne false (Ne.symm hji), hl j hj]
      simp only [decide_eq_decide]
      omega

theorem draw_head (hG : Grow G) (hlen : Φ.length = m) (hml : m ≤ ol.length) (hsl : slotsOk L Φ = true) (hback : backOk ol 0 ol = true) (htail : tailOk m 0 ol = true) (steps : DSteps P ol n L ds J G Q Φ 0 (ol.take m))
    (k : ∀ σ w', J (fun j => Nat.blt j m) w' → FcAll G σ w' Φ → wpList P ol.toArray Q (ol.drop m) (st n L σ ds) w') :
    ∀ (c fuel : Nat) (listed : Array Bool) (a : Act) (w : World), listed.size = ol.length → (∀ i, m ≤ i → listed.getD i false = false) → ((List.range m).filter fun i => !listed.getD i false).length = c →
      c + (ol.length - m) ≤ fuel → DJ ol n L ds J G Φ listed a w → wpAny P .any ol.toArray Q fuel listed a w := by
  intro c
  induction c with
  | zero =>
    intro fuel listed a w hsz htl hc hfu hJ
    have hall : ∀ i, i < m → listed.getD i false = true := by
      intro i hi
      have h0 := List.length_eq_zero_iff.1 hc
      have := (List.filter_eq_nil_iff.1 h0) i (List.mem_range.2 hi)
      simpa using this
    obtain ⟨⟨σ, rfl, hj, hf⟩, _⟩ := hJ
    have hfl : (fun j => listed.getD j false) = fun j => Nat.blt j m := by
      funext j
      by_cases h : j < m
      · rw [hall j h]; symm; rw [Nat.blt_eq]; exact h
      · rw [htl j (by omega)]; symm
        cases hb : Nat.blt j m
        · rfl
        · rw [Nat.blt_eq] at hb; exact absurd hb h
    rw [hfl] at hj
    refine draw_tail hback htail (ol.length - m) m fuel listed _ w (by omega) (Nat.le_refl _) hsz (fun i hi => ?_) (by omega) (k σ w hj (FcAll_of Φ fun i hi => hf i hi (hall i (by omega))))
    rcases Nat.lt_or_ge i m with h | h
    · rw [hall i h]; simp [h]
    · rw [htl i h]; simp; omega
  | succ c ih =>
    intro fuel listed a w hsz htl hc hfu hJ
    obtain ⟨f, rfl⟩ : ∃ f, fuel = f + 1 := ⟨fuel - 1, by omega⟩
    have hsame : ∀ i, i < ol.length → listed.getD i true = listed.getD i false := fun i hi => by simp [hsz, hi]
    -- one that is not listed yet, the least
    have hex : ∃ i, i < m ∧ listed.getD i false = false := by
      have hne : ((List.range m).filter fun i => !listed.getD i false) ≠ [] := by intro e; rw [e] at hc; simp at hc
      obtain ⟨i, hi⟩ := List.exists_mem_of_ne_nil _ hne
      rw [List.mem_filter, List.mem_range] at hi
      exact ⟨i, hi.1, by simpa using hi.2⟩
    have hleast : ∃ i, i < m ∧ listed.getD i false = false ∧ ∀ j, j < i → listed.getD j false = true := by
      obtain ⟨i, hi, hu⟩ := hex
      induction i using Nat.strongRecOn with
      | ind i ihi =>
        by_cases hj : ∃ j, j < i ∧ listed.getD j false = false
        · obtain ⟨j, hj, hju⟩ := hj
          exact ihi j hj (by omega) hju
        · refine ⟨i, hi, hu, fun j hji => ?_⟩
          cases hjj : listed.getD j false
          · exact absurd ⟨j, hji, hjj⟩ hj
          · rfl
    obtain ⟨i0, hi0, hu0, hall0⟩ := hleast
    have hr0 : i0 ∈ Region.ready .any ol.toArray listed := ready_below hback (by omega) (by rw [hsame i0 (by omega)]; exact hu0) hall0
    refine ⟨fun h0 => (by rw [h0] at hr0; cases hr0), fun i hi => ?_⟩
    have him : i < m := by
      rcases Nat.lt_or_ge i m with h | h
      · exact h
      · obtain ⟨h1, o, ho, hall⟩ := mem_ready.1 hi
        have h4 := onDraw_listed (tailOk_get htail (i := i) (by simpa using ho) (by omega) i0 (by omega)) hall
        rw [hu0] at h4; cases h4
    have hiu : listed.getD i false = false := by
      obtain ⟨h1, _⟩ := mem_ready.1 hi
      rw [hsame i (by omega)] at h1; exact h1
    refine wpOp_mono (fun a' w' hq => ?_) (draw_step hG hlen hsl steps him hsz hml hJ hi hback)
    refine ih f _ a' w' (by simpa using hsz) (fun j hj => by rw [getD_set_ne false (by omega)]; exact htl j hj) ?_ (by omega) hq
    have hcount : ∀ (l : List Nat), l.Nodup → i ∈ l → (l.filter fun j => !listed.getD j false).length = ((l.filter fun j => !(listed.setIfInBounds i true).getD j false).length) + 1 := by
      intro l
      induction l with
      | nil => intro _ h; cases h
      | cons x l ihl =>
        intro hn hmem
        simp only [List.nodup_cons] at hn
        by_cases hx : x = i
        · subst hx
          have h1 : (listed.setIfInBounds x true).getD x false = true := by
            have : x < listed.size := by omega
            simp [this]
          have h2 : (l.filter fun j => !listed.getD j false) = (l.filter fun j => !(listed.setIfInBounds x true).getD j false) := by
            apply List.filter_congr
            intro j hj
            rw [getD_set_ne false (fun e : x = j => hn.1 (by rw [e]; exact hj))]
          rw [List.filter_cons, List.filter_cons, h1, hiu, h2]
          simp
        · have hmem' : i ∈ l := by
            rcases List.mem_cons.1 hmem with h | h
            · exact absurd h.symm hx
            · exact h
          have := ihl hn.2 hmem'
          rw [List.filter_cons, List.filter_cons, getD_set_ne false (Ne.symm hx)]
          split
          · simp only [List.length_cons]; omega
          · exact this
    have := hcount (List.range m) List.nodup_range (List.mem_range.2 him)
    omega

theorem k_drawn {id : Nat} {L0 : Env} {σ0 : Nat → Value} {w : World} (L : Env) (m : Nat) (J : (Nat → Bool) → World → Prop) (G : World → World → Prop) (Φ : List DF) (hL : AllEq L (ov L0 σ0)) (hG : Grow G)
    (hm : P.follows .mixedOrders = true) (hlen : Φ.length = m) (hml : Nat.ble m ol.length = true) (hsl : slotsOk L Φ = true)
    (hback : backOk ol 0 ol = true) (htail : tailOk m 0 ol = true) (h0 : ∀ m, J (fun _ => false) { w with drawn := m }) (steps : DSteps P ol n L ds J G (Exit.then N Q) Φ 0 (ol.take m))
    (k : ∀ σ w', J (fun j => Nat.blt j m) w' → FcAll G σ w' Φ → wpList P ol.toArray (Exit.then N Q) (ol.drop m) (st n L σ ds) w') :
    wk P (.region id ol.toArray true) N Q (st n L0 σ0 ds) w := by
  rw [seenF hL]
  refine wp_region_any hm ?_
  have hml' : m ≤ ol.length := Nat.le_of_ble_eq_true hml
  have hfalse : ∀ i, (Array.replicate ol.length false).getD i false = false := by
    intro i
    by_cases h : i < ol.length
    · simp [h]
    · simp [h]
  have hsz : ol.toArray.size = ol.length := by simp
  rw [hsz]
  have hfl : (fun j => (Array.replicate ol.length false).getD j false) = fun _ => false := by funext j; exact hfalse j
  refine draw_head hG hlen hml' hsl hback htail steps k m ol.length _ _ _ (by simp) (fun i _ => hfalse i) ?_ (by omega) ⟨⟨_, rfl, by rw [hfl]; exact h0 _, fun i _ h => by rw [hfalse] at h; cases h⟩, fun i o _ h => by rw [hfalse] at h; cases h⟩
  rw [List.filter_eq_self.2 (fun i _ => by rw [hfalse]; rfl)]
  simp
end
theorem seenR {P : Program} {ops : Array Oper} {Q : Exit → Act → World → Prop} {l : List Oper} {n : Nat} {L : Env} {σ : Nat → Value} {ds : List Deferred} {w : World} (L' : Env) (h : AllEq L' (ov L σ))
    (k : wpList P ops Q l (st n L' (ov L σ) ds) w) : wpList P ops Q l (st n L σ ds) w := by
  rw [seenF h]; exact k
def Qf (P : Program) (xs ys : Array Value) (fs : List Field) (r : Bool) : Prop := ∀ d w, (Op.eqFields (d + 1) xs ys fs).run P w = .ok r w
section
variable {P : Program} {xs ys : Array Value} {f : Field} {fs : List Field} {a b : Value} {r s : Bool} {w : World}
theorem q_nil : Qf P xs ys [] true := fun d w => by simp [Op.eqFields]
theorem part_one {t : TypeId} {u : TypeDesc} {i : Nat} {cs : Array Value} {v : Value} (hu : P.underlying t = some u) (h : cs[i]? = some v) (hs : (∀ fs, u ≠ .struct fs) ∧ (∀ n e, u ≠ .array n e)) :
    (part t cs i).run P w = .ok v w := by
  have ha : (isAgg t).run P w = .ok false w := by
    cases u <;> first | (simp [isAgg, run_underlying hu]; done) | exact absurd rfl (hs.1 _) | exact absurd rfl (hs.2 _ _)
  unfold part
  rw [Sem.run_bind, ha, Result.andThen_ok]
  simp [h]
def QE (P : Program) (t : TypeId) (a b : Value) (r : Bool) : Prop := (∃ u, P.underlying t = some u ∧ (∀ fs, u ≠ .struct fs) ∧ (∀ n e, u ≠ .array n e)) ∧ ∀ d w, (Op.equalIn (d + 1) t a b).run P w = .ok r w
theorem q_int {t : TypeId} {k k' : IntKind} {a b : Int} (h : P.underlying t = some (.int k')) : QE P t (.int k a) (.int k b) (a == b) := ⟨⟨_, h, (by intro _ h; cases h), (by intro _ _ h; cases h)⟩, fun d w => run_equalIn_int w d t k k' a b h⟩
theorem q_bool {t : TypeId} {a b : Bool} (h : P.underlying t = some .bool) : QE P t (.bool a) (.bool b) (a == b) := ⟨⟨_, h, (by intro _ h; cases h), (by intro _ _ h; cases h)⟩, fun d w => run_equalIn_bool' w d t a b h⟩
theorem q_str {t : TypeId} {a b : ByteArray} (h : P.underlying t = some .string) : QE P t (.string a) (.string b) (a.toList == b.toList) := ⟨⟨_, h, (by intro _ h; cases h), (by intro _ _ h; cases h)⟩, fun d w => run_equalIn_string w d t a b h⟩
theorem q_cons (hn : (f.name == "_") = false) (ha : xs[f.offset]? = some a) (hb : ys[f.offset]? = some b) (he : QE P f.type a b r) (hr : Qf P xs ys fs s) : Qf P xs ys (f :: fs) (r && s) := fun d w => by
  obtain ⟨⟨u, hu, hs⟩, hq⟩ := he
  have hn' : f.name ≠ "_" := by simpa using hn
  rw [Op.eqFields]
  simp only [if_pos hn', Sem.run_bind, part_one hu ha hs, part_one hu hb hs, hq, Result.andThen_ok]
  cases r
  · simp
  · simpa using hr d w
theorem r_eqs {xt : TypeId} {fs : List Field} {x y : Operand} (hu : P.underlying xt = some (.struct fs.toArray)) (hp : P.stoodInHeld xt = false) (hm : P.eqGuardType P.depth xt = false) (h : Qf P xs ys fs r) :
    (do eqGuard .eql xt x y (.agg xs) (.agg ys); binOp .eql xt (.agg xs) (.agg ys) : Sem Value).run P w = .ok (.bool r) w := by
  rw [Sem.run_bind, run_eqGuard_agg w _ _ _ _ _ _ hm, Result.andThen_ok, run_eql_struct]
  have hf : P.fieldsOf xt = fs.toArray := by simp [Program.fieldsOf, hu]
  rw [run_equalIn_struct (P := P) w 9999 xt xs ys (by rw [hf]; exact hu) hp, hf]
  rw [show fs.toArray.toList = fs by simp, h 9998 w, Result.andThen_ok]
theorem r_nes {xt : TypeId} {fs : List Field} {x y : Operand} (hu : P.underlying xt = some (.struct fs.toArray)) (hp : P.stoodInHeld xt = false) (hm : P.eqGuardType P.depth xt = false) (h : Qf P xs ys fs r) :
    (do eqGuard .neq xt x y (.agg xs) (.agg ys); binOp .neq xt (.agg xs) (.agg ys) : Sem Value).run P w = .ok (.bool (!r)) w := by
  rw [Sem.run_bind, run_eqGuard_agg w _ _ _ _ _ _ hm, Result.andThen_ok, run_neq_struct]
  have hf : P.fieldsOf xt = fs.toArray := by simp [Program.fieldsOf, hu]
  rw [run_equalIn_struct (P := P) w 9999 xt xs ys (by rw [hf]; exact hu) hp, hf]
  rw [show fs.toArray.toList = fs by simp, h 9998 w, Result.andThen_ok]
end
theorem pk_same (b : Bool) (v : Value) : (bif b then v else v) = v := by cases b <;> rfl
theorem pk_no {b : Bool} {p : Prop} (h : b = false) (h' : b = true) : p := by rw [h] at h'; cases h'
theorem nf {a : Bool} (h : a = true) : (!a) = false := by subst h; rfl
end Go.Proofs.Ytbdbmklkgjbehaa.B
namespace Go.Proofs.Ytbdbmklkgjbehaa.B
open Go Go.RowKit Go.MapKept

def aidx {β : Type} : List (Int × β) → Int → Option (Nat × β)
  | [], _ => none
  | p :: r, k => if k = p.1 then some (0, p.2) else (aidx r k).map fun q => (q.1 + 1, q.2)
def aget {β : Type} (m : List (Int × β)) (k : Int) : Option β := (aidx m k).map (·.2)
def aset {β : Type} (m : List (Int × β)) (k : Int) (v : β) : List (Int × β) := match aidx m k with
  | some (i, _) => m.set i (k, v)
  | none => m ++ [(k, v)]
def Ent {β : Type} (kk : IntKind) (ev : β → Value) (es : List MapEntry) (m : List (Int × β)) : Prop :=
  es.map (fun e => (e.key, e.val)) = m.map fun p => (Value.int kk p.1, ev p.2)
section
variable {β : Type} {kk : IntKind} {ev : β → Value}
theorem find_ent {es : List MapEntry} {m : List (Int × β)} {k' : IntKind} (h : Ent kk ev es m) (key : Int) : ∀ i, Instr.findNow (.int k') (.int kk key) es i = some ((aidx m key).map fun q => (i + q.1, ev q.2)) := by
  induction es generalizing m with
  | nil =>
    intro i
    cases m with
    | nil => rfl
    | cons p r => simp [Ent] at h
  | cons e es ih =>
    intro i
    cases m with
    | nil => simp [Ent] at h
    | cons p r =>
      simp only [Ent, List.map_cons, List.cons.injEq, Prod.mk.injEq] at h
      obtain ⟨⟨h1, h2⟩, h3⟩ := h
      have hs : Instr.sameNow (.int k') (.int kk key) e.key = some (key == p.1) := by rw [h1]; simp [Instr.sameNow]
      rw [Instr.findNow, hs]
      by_cases hk : key = p.1
      · subst hk
        simp [aidx, h2]
      · have : (key == p.1) = false := by simpa using hk
        rw [this]
        simp only []
        rw [ih h3 (i + 1)]
        simp only [aidx, if_neg hk, Option.map_map]
        congr 1
        cases aidx r key with
        | none => rfl
        | some q => simp; omega
theorem aidx_lt {m : List (Int × β)} {k : Int} {i : Nat} {b : β} (h : aidx m k = some (i, b)) : m[i]? = some (k, b) := by
  induction m generalizing i with
  | nil => simp [aidx] at h
  | cons p r ih =>
    simp only [aidx] at h
    split at h
    · rename_i hk
      simp at h
      obtain ⟨rfl, rfl⟩ := h
      simp [hk]
    · cases hr : aidx r k with
      | none => simp [hr] at h
      | some q =>
        simp [hr] at h
        obtain ⟨rfl, rfl⟩ := h
        simpa using ih hr
def RdM (kk : IntKind) (ev : β → Value) (F : Nat → Prop) (w : World) (A : Option Nat) (m : List (Int × β)) : Prop :=
  (A = none ∧ m = []) ∨ ∃ r es c, A = some r ∧ F r ∧ w.heap[r]? = some (.map es c) ∧ Ent kk ev es.toList m
def OwnM (kk : IntKind) (ev : β → Value) (A : Option Nat) (m : List (Int × β)) (X : Rsc) : Prop :=
  ∃ r es c, A = some r ∧ X = [(r, .map es c)] ∧ Ent kk ev es.toList m
variable {P : Program} {M I F : Nat → Prop} {w0 wr w w' : World} {R : List Rsc} {A : Option Nat} {m : List (Int × β)} {X : Rsc}
theorem RdM.up {G : Nat → Prop} (h : RdM kk ev F w A m) (u : Up F w G w') : RdM kk ev G w' A m := by
  rcases h with h | ⟨r, es, c, h1, h2, h3, h4⟩
  · exact .inl h
  · exact .inr ⟨r, es, c, h1, (u _ h2).1, (u _ h2).2.trans h3, h4⟩
theorem RdM.now (r : RdM kk ev I wr A m) (h : Hp M I w0 wr w R) : RdM kk ev I w A m := r.up h.up
theorem RdM.pass {Rest : List Rsc} (r : RdM kk ev I wr A m) (h : Hp M I w0 wr w R) : RdM kk ev (Cov I Rest) w A m := r.up fun k hk => ⟨.inl hk, h.imm k hk⟩
theorem OwnM.pass {i : Nat} {Rest : List Rsc} (o : OwnM kk ev A m X) (h : Hp M I w0 wr w R) (hs : ∀ p ∈ Rest.flatten, p ∈ R.flatten) (hi : Rest[i]? = some X) : RdM kk ev (Cov I Rest) w A m := by
  obtain ⟨r, es, c, h1, h2, h3⟩ := o
  subst h2
  have hm : (r, Obj.map es c) ∈ Rest.flatten := List.mem_flatten.2 ⟨_, List.mem_of_getElem? hi, List.mem_singleton.2 rfl⟩
  exact .inr ⟨r, es, c, h1, .inr ⟨_, hm, rfl⟩, h.own _ (hs _ hm), h3⟩
theorem OwnM.rd {i : Nat} (o : OwnM kk ev A m X) (h : Hp M I w0 wr w R) (hi : R[i]? = some X) : RdM kk ev (Cov I R) w A m := o.pass h (fun _ h => h) hi
theorem OwnM.froze (o : OwnM kk ev A m X) (h : Hp M I w0 wr w (X :: R)) : RdM kk ev (fun k => I k ∨ On [X] k) w A m := by
  obtain ⟨r, es, c, h1, h2, h3⟩ := o
  subst h2
  exact .inr ⟨r, es, c, h1, .inr ⟨(r, Obj.map es c), by simp, rfl⟩, h.own (r, Obj.map es c) (by simp), h3⟩
variable {a : Act} {dst : Option Nat} {ty : TypeId} {pos : String} {af : Array Edge} {gd : Option (Nat × Bool)} {x y : Operand} {t kt et : TypeId} {k' : IntKind} {key : Int} {z : Value}
theorem run_lookup (hu : UT P t (.map kt et)) (hk : P.underlying kt = some (.int k')) (hz : ZR P et z) (hr : RdM kk ev F w A m) (ok : Bool) :
    (Instr.lookup t (.map A) (.int kk key) ok).run P w = .ok (if ok then .tuple #[(aget m key).elim z ev, .bool (aget m key).isSome] else (aget m key).elim z ev) w := by
  have hck : ∀ e, (Instr.checkKey e 10000 kt (.int kk key)).run P w = .ok () w := by
    intro e
    unfold Instr.checkKey
    rw [Sem.run_bind, run_underlying hk, Result.andThen_ok]
    rfl
  rcases hr with ⟨rfl, rfl⟩ | ⟨r, es, c, rfl, _, hh, he⟩
  · unfold Instr.lookup
    simp only [Sem.run_bind, hu w, Result.andThen_ok, Sem.run_pure, hck]
    rw [run_findKey hk (show Instr.findNow (.int k') (.int kk key) (#[] : Array MapEntry).toList 0 = some none from rfl)]
    simp only [Result.andThen_ok, Sem.run_bind, hz w, Sem.run_pure]
    cases ok <;> simp [aget, aidx]
  · unfold Instr.lookup
    have hg : (getObj r).run P w = .ok (.map es c) w := by simp [getObj, Sem.run, hh]
    simp only [Sem.run_bind, hu w, Result.andThen_ok, Sem.run_pure, hck, hg]
    rw [run_findKey hk (find_ent he key 0)]
    cases hi : aidx m key with
    | none => simp only [Option.map_none, Result.andThen_ok, Sem.run_bind, hz w, Sem.run_pure]; cases ok <;> simp [aget, hi]
    | some q => simp only [Option.map_some, Result.andThen_ok, Sem.run_bind, Sem.run_pure]; cases ok <;> simp [aget, hi]
theorem e_lookup {v : Value} (hx : a.eval x = .map A) (hy : a.eval y = .int kk key) (hu : UT P t (.map kt et)) (hk : P.underlying kt = some (.int k')) (hz : ZR P et z) (hr : RdM kk ev F w A m)
    (hv : (aget m key).elim z ev = v) :
    (execOp a.eval ⟨dst, .lookup t x y false, ty, pos, af, gd⟩).run P w = .ok (.value v) w := by
  subst hv
  simp only [execOp, hx, hy, Sem.run_bind, run_lookup hu hk hz hr, Result.andThen_ok]
  rfl
theorem e_lookupOk {v : Value} (hx : a.eval x = .map A) (hy : a.eval y = .int kk key) (hu : UT P t (.map kt et)) (hk : P.underlying kt = some (.int k')) (hz : ZR P et z) (hr : RdM kk ev F w A m)
    (hv : (aget m key).elim z ev = v) :
    (execOp a.eval ⟨dst, .lookup t x y true, ty, pos, af, gd⟩).run P w = .ok (.value (.tuple #[v, .bool (aget m key).isSome])) w := by
  subst hv
  simp only [execOp, hx, hy, Sem.run_bind, run_lookup hu hk hz hr, Result.andThen_ok]
  rfl
variable {ops : Array Oper} {Q : Exit → Act → World → Prop} {n d : Nat} {L : Env} {σ : Nat → Value} {ds : List Deferred} {rest : List Oper}
theorem s_makeMap (kk : IntKind) (ev : β → Value) (h : Hp M I w0 wr w R) (hn : Nat.blt d n = true)
    (k : ∀ r w' X, Hp M I w0 wr w' (R ++ [X]) → OwnM kk ev (some r) [] X → wpList P ops Q rest (st n ((d, .map (some r)) :: L) σ ds) w') :
    wpList P ops Q (⟨some d, .makeMap t none, ty, pos, af, none⟩ :: rest) (st n L σ ds) w := by
  refine sv (v := .map (some w.heap.size)) (w' := { w with heap := w.heap.push (.map #[] 0) }) rfl rfl hn ?_ (k _ _ _ (h.alloc _) ⟨w.heap.size, #[], 0, rfl, rfl, rfl⟩)
  simp [execOp, Instr.makeMap, Sem.run_bind, newObj, Sem.run]
theorem s_mapUpdate {i : Nat} {b : β} (h : Hp M I w0 wr w R) (o : OwnM kk ev A m X) (hi : R[i]? = some X) {vx : Operand} (hx : (st n L σ ds).eval x = .map A) (hy : (st n L σ ds).eval y = .int kk key) (hv : (st n L σ ds).eval vx = ev b)
    (hu : UT P t (.map kt et)) (hk : P.underlying kt = some (.int k'))
    (k : ∀ w' X', Hp M I w0 wr w' (R.set i X') → OwnM kk ev A (aset m key b) X' → wpList P ops Q rest (st n L σ ds) w') :
    wpList P ops Q (⟨none, .mapUpdate t x y vx, ty, pos, af, none⟩ :: rest) (st n L σ ds) w := by
  obtain ⟨r, es, c, rfl, rfl, he⟩ := o
  have hh : w.heap[r]? = some (.map es c) := h.get (j := 0) hi rfl
  have hg : (getObj r).run P w = .ok (.map es c) w := by simp [getObj, Sem.run, hh]
  have hck : (Instr.checkKey false 10000 kt (.int kk key)).run P w = .ok () w := by
    unfold Instr.checkKey
    rw [Sem.run_bind, run_underlying hk, Result.andThen_ok]
    rfl
  have hs : ∀ o', (setObj r o').run P w = .ok () { w with heap := w.heap.setIfInBounds r o' } := by
    intro o'; simp [setObj, Sem.run, hh]
  have fin : ∀ es' c', Ent kk ev es'.toList (aset m key b) → (execOp (st n L σ ds).eval ⟨none, .mapUpdate t x y vx, ty, pos, af, none⟩).run P w = .ok .skip { w with heap := w.heap.setIfInBounds r (.map es' c') } →
      wpList P ops Q (⟨none, .mapUpdate t x y vx, ty, pos, af, none⟩ :: rest) (st n L σ ds) w := by
    intro es' c' he' hrun
    refine su rfl rfl hrun (k _ [(r, .map es' c')] ?_ ⟨r, es', c', rfl, rfl, he'⟩)
    have := h.upd (w' := { w with heap := w.heap.setIfInBounds r (.map es' c') }) (o' := .map es' c') hi (j := 0) (b := r) rfl rfl rfl rfl (by simp) (heap_set hh).2 (heap_set hh).1
    simpa using this
  cases hq : aidx m key with
  | none =>
    refine fin (es.push { key := .int kk key, val := ev b, born := c }) (c + 1) ?_ ?_
    · simp only [Ent, aset, hq] at he ⊢
      simp [he]
    · have hf := run_findKey (P := P) (w := w) hk (find_ent (k' := k') he key 0)
      rw [hq] at hf
      simp only [execOp, Instr.mapUpdate, hx, hy, hv, Sem.run_bind, hu w, Result.andThen_ok, hg, hck, hf, Option.map_none, hs]
      rfl
  | some q =>
    obtain ⟨j, b0⟩ := q
    have hj := aidx_lt hq
    have hjs : j < es.size := by
      have h1 : j < m.length := (List.getElem?_eq_some_iff.1 hj).1
      have h2 := congrArg List.length he
      simp at h2; omega
    have hkey : es[j].key = .int kk key := by
      have h1 := congrArg (fun l => l[j]?) he
      simp only [List.getElem?_map, hj, Option.map_some] at h1
      simp [hjs] at h1
      exact h1.1
    refine fin (es.modify j fun e => { e with key := .int kk key, val := ev b }) c ?_ ?_
    · simp only [Ent, aset, hq] at he ⊢
      apply List.ext_getElem?
      intro i'
      have h1 := congrArg (fun l => l[i']?) he
      simp only [List.getElem?_map] at h1 ⊢
      by_cases hij : j = i'
      · subst hij
        simp [Array.getElem?_modify, hj, hjs, (List.getElem?_eq_some_iff.1 hj).1]
      · simpa [Array.getElem?_modify, hij, List.getElem?_set_ne hij] using h1
    · have hf := run_findKey (P := P) (w := w) hk (find_ent (k' := k') he key 0)
      rw [hq] at hf
      have hst : (Instr.keyThatStays (((es[0 + j]?).map (·.key)).getD (.int kk key)) (.int kk key)).run P w = .ok (.int kk key) w := by
        have : ((es[0 + j]?).map (·.key)).getD (.int kk key) = .int kk key := by simp [hjs, hkey]
        rw [this]
        unfold Instr.keyThatStays
        rw [if_pos (by simp [Instr.sameBits])]
        rfl
      simp only [execOp, Instr.mapUpdate, hx, hy, hv, Sem.run_bind, hu w, Result.andThen_ok, hg, hck, hf, Option.map_some, hst, hs]
      simp
end
def mI (k : IntKind) (x : Int) : Value := .int k x
theorem mval (k : IntKind) (o : Option Int) : o.elim (.int k 0) (mI k) = .int k (o.getD 0) := by cases o <;> rfl
theorem ltN {i : Int} {n : Nat} (h0 : 0 ≤ i) (h1 : i < n) : i.toNat < n := by omega
theorem seen1 {P : Program} {ops : Array Oper} {Q : Exit → Act → World → Prop} {l : List Oper} {n d : Nat} {v : Value} {L : Env} {σ : Nat → Value} {ds : List Deferred} {w : World} (h : ov L σ d = v)
    (k : wpList P ops Q l (st n ((d, v) :: L) σ ds) w) : wpList P ops Q l (st n L σ ds) w := by
  have : ov ((d, v) :: L) σ = ov L σ := by
    funext t
    simp only [ov]
    cases hb : Nat.beq d t
    · rfl
    · rw [← Nat.eq_of_beq_eq_true hb]; exact h.symm
  simpa only [st, this] using k
theorem sl_eq {A : Option Addr} {c m m' : Nat} {u : Value} (h : m = m') (hu : u = .slice A m c) : u = .slice A m' c := by rw [hu, h]
end Go.Proofs.Ytbdbmklkgjbehaa.B
namespace Go.Proofs.Ytbdbmklkgjbehaa.B
open Go Go.RowKit

section
variable {P : Program} {ops : Array Oper} {Q : Exit → Act → World → Prop} {n : Nat} {L : Env} {σ : Nat → Value} {ds : List Deferred} {w : World} {rest : List Oper}
variable {d : Nat} {ty : TypeId} {pos : String} {af : Array Edge} {v v1 v2 v3 : Value} {x y z : Operand} {gd : Option (Nat × Bool)} {dst : Option Tmp} {a : Act}
variable {M I F : Nat → Prop} {w0 wr wf : World} {R : List Rsc} {α : Type} {E : Enc α}

def vg [Inhabited α] {m : Nat} (u : Vector α m) (i : Int) : α := gi u.toList i
def vp {m : Nat} (u : Vector α m) (i : Int) (x : α) : Vector α m := u.setIfInBounds i.toNat x
theorem vp_toList {m : Nat} (u : Vector α m) (i : Int) (x : α) : (vp u i x).toList = u.toList.set i.toNat x := by
  simp [vp]
theorem seg {pre l : List Value} {u : Value} (m k : Nat) (hp : pre.length = m) (h : l[k]? = some u) : (pre ++ l)[m + k]? = some u := by
  rw [List.getElem?_append_right (by omega), hp, Nat.add_sub_cancel_left]; exact h
theorem segs {pre l vs : List Value} (m k sz : Nat) (hp : pre.length = m) (h : (l.drop k).take sz = vs) : ((pre ++ l).drop (m + k)).take sz = vs := by
  rw [List.drop_append, hp, Nat.add_sub_cancel_left, List.drop_of_length_le (by omega), List.nil_append]; exact h
theorem segu {pre l vs l' : List Value} (m k : Nat) (hp : pre.length = m) (h : l.take k ++ vs ++ l.drop (k + vs.length) = l') : (pre ++ l).take (m + k) ++ vs ++ (pre ++ l).drop (m + k + vs.length) = pre ++ l' := by
  have h1 : (pre ++ l).take (m + k) = pre ++ l.take k := by
    rw [List.take_append, hp, Nat.add_sub_cancel_left, List.take_of_length_le (by omega)]
  have h2 : (pre ++ l).drop (m + k + vs.length) = l.drop (k + vs.length) := by
    rw [Nat.add_assoc, List.drop_append, hp, Nat.add_sub_cancel_left, List.drop_of_length_le (by omega), List.nil_append]
  rw [h1, h2, ← h]; simp only [List.append_assoc]
theorem lenA {p q : List Value} {a b : Nat} (h : p.length = a) (k : q.length = b) : (p ++ q).length = a + b := by rw [List.length_append, h, k]
theorem arr_len {m : Nat} {u : Vector α m} {acs : List Value} (h : Reps E F wf u.toList acs) {k : Nat} (hk : m * E.sz = k) : acs.length = k := by
  rw [h.len, Vector.length_toList, hk]
theorem arr_at {b : Nat} {t : TypeId} {fz : Nat × Nat} {l pre acs post c : List Value} {off k sz : Nat} (h : w.heap[b]? = some (.cells l.toArray t fz)) (hl : l = pre ++ (acs ++ post)) (hp : pre.length = off) (hc : (acs.drop k).take sz = c) :
    CellsAt w ⟨b, off + k, none⟩ c := by
  subst hl
  intro j u hu
  rw [add_none]
  refine cell_at h ?_
  rw [← hc, List.getElem?_take] at hu
  split at hu
  · rw [List.getElem?_drop] at hu
    have hlt := (List.getElem?_eq_some_iff.1 hu).1
    simp only [List.getElem?_toArray]
    rw [List.getElem?_append_right (by omega), List.getElem?_append_left (by omega), ← hu]
    congr 1; omega
  · cases hu
theorem arr_elem [Inhabited α] {m : Nat} {u : Vector α m} {acs : List Value} {i : Int} (h : Reps E F wf u.toList acs) (hi : 0 ≤ i ∧ i < (m : Int)) : ∃ c, E.rep F wf (vg u i) c ∧ (acs.drop (i.toNat * E.sz)).take E.sz = c := by
  have hl : i.toNat < u.toList.length := by rw [Vector.length_toList]; omega
  obtain ⟨c, hc, he⟩ := h.get (List.getElem?_eq_getElem hl)
  refine ⟨c, ?_, he⟩
  have : vg u i = u.toList[i.toNat] := by simp only [vg, gi, List.getD_eq_getElem?_getD, List.getElem?_eq_getElem hl, Option.getD_some]
  rw [this]; exact hc
theorem e_aidx {t e : TypeId} {b off m sz : Nat} {i : Int} {k' : IntKind} (hx : a.eval x = .pointer (some ⟨b, off, none⟩)) (hy : a.eval y = .int k' i) (hu : UT P t (.array m e)) (hs : SZ P e sz) (hi : 0 ≤ i ∧ i < (m : Int)) :
    (execOp a.eval ⟨dst, .indexAddr t x y, ty, pos, af, gd⟩).run P w = .ok (.value (.pointer (some ⟨b, off + i.toNat * sz, none⟩))) w := by
  simp only [execOp, hx, hy]
  simp [Instr.indexAt, Instr.sureAddr, asIntOf, Sem.run_bind, hu w, hi, hs w, add_none]
theorem s_storeA {t e : TypeId} [Inhabited α] {m b r off inn sz : Nat} {u : Vector α m} {l pre acs post c : List Value} {i : Int} {el : α} {vs : List Value} (can : List Value → List Value) (h : Hp M I w0 wr w R)
    (hx : (st n L σ ds).eval x = .pointer (some ⟨b, off + i.toNat * E.sz + inn, none⟩)) (hy : (st n L σ ds).eval y = v)
    (hv : v.cells = vs.toArray) (hs : SZ P t sz) (hvl : vs.length = sz) (h1 : vs.all one = true)
    (hi : R[r]? = some [(b, .cells l.toArray e (0, 0))]) (hl : l = pre ++ (acs ++ post)) (hcan : ∀ q, pre ++ (q ++ post) = can q) (hp : pre.length = off) (ho : Reps E F wf u.toList acs) (hlt : 0 ≤ i ∧ i < (m : Int)) (hoff : Nat.ble (inn + vs.length) E.sz = true)
    (hcs : (acs.drop (i.toNat * E.sz)).take E.sz = c) (hrep : E.rep F wf el (c.take inn ++ vs ++ c.drop (inn + vs.length)))
    (k : ∀ w' acs', Hp M I w0 wr w' (R.set r [(b, .cells (can acs').toArray e (0, 0))]) → Reps E F wf (vp u i el).toList acs' → wpList P ops Q rest (st n L σ ds) w') :
    wpList P ops Q (⟨none, .store t x y, ty, pos, af, none⟩ :: rest) (st n L σ ds) w := by
  have hoff := Nat.le_of_ble_eq_true hoff
  have hil : i.toNat < m := by omega
  have hal : acs.length = m * E.sz := by rw [ho.len, Vector.length_toList]
  have hfit : i.toNat * E.sz + E.sz ≤ m * E.sz := by rw [← Nat.succ_mul]; exact Nat.mul_le_mul_right _ hil
  have hcl : c.length = E.sz := by rw [← hcs, List.length_take, List.length_drop]; omega
  have hset := ho.set (i := i.toNat) (by rw [Vector.length_toList]; omega) hrep
  rw [← vp_toList] at hset
  generalize i.toNat = i' at *
  have hown := h.get hi (j := 0) (b := b) (o := .cells l.toArray e (0, 0)) rfl
  have hll : l.length = off + (m * E.sz + post.length) := by rw [hl]; simp only [List.length_append, hp, hal]
  obtain ⟨w', hr, a1, a2, a3, a4, a5, a6⟩ := run_storeCells (P := P) (b := b) (e := e) vs 0 (off + i' * E.sz + inn) l w hown (fun u hu => List.all_eq_true.1 h1 u hu) (by omega)
  rw [Nat.add_zero] at a6
  have hnew : l.take (off + i' * E.sz + inn) ++ vs ++ l.drop (off + i' * E.sz + inn + vs.length) = pre ++ ((acs.take (i' * E.sz) ++ (c.take inn ++ vs ++ c.drop (inn + vs.length)) ++ acs.drop (i' * E.sz + E.sz)) ++ post) := by
    have hacs : acs = acs.take (i' * E.sz) ++ (c ++ acs.drop (i' * E.sz + E.sz)) := by
      rw [← hcs, ← List.drop_drop, List.take_append_drop, List.take_append_drop]
    have h3 : (acs.take (i' * E.sz)).length = i' * E.sz := by rw [List.length_take]; omega
    have h4 := segu (pre := pre) (l := acs ++ post) (vs := vs) off (i' * E.sz + inn) hp (l' := (acs.take (i' * E.sz) ++ (c.take inn ++ vs ++ c.drop (inn + vs.length)) ++ acs.drop (i' * E.sz + E.sz)) ++ post) (by
      have h5 := segu (pre := acs.take (i' * E.sz)) (l := c ++ (acs.drop (i' * E.sz + E.sz) ++ post)) (vs := vs) (i' * E.sz) inn h3 (l' := (c.take inn ++ vs ++ c.drop (inn + vs.length)) ++ (acs.drop (i' * E.sz + E.sz) ++ post)) (by
        have e1 : (c ++ (acs.drop (i' * E.sz + E.sz) ++ post)).take inn = c.take inn := by rw [List.take_append, show inn - c.length = 0 by omega, List.take_zero, List.append_nil]
        have e2 : (c ++ (acs.drop (i' * E.sz + E.sz) ++ post)).drop (inn + vs.length) = c.drop (inn + vs.length) ++ (acs.drop (i' * E.sz + E.sz) ++ post) := by rw [List.drop_append, show inn + vs.length - c.length = 0 by omega, List.drop_zero]
        rw [e1, e2]; simp only [List.append_assoc])
      have e3 : acs ++ post = acs.take (i' * E.sz) ++ (c ++ (acs.drop (i' * E.sz + E.sz) ++ post)) := by
        conv => lhs; rw [hacs]
        simp only [List.append_assoc]
      rw [e3, h5]; simp only [List.append_assoc])
    rw [hl, show off + i' * E.sz + inn = off + (i' * E.sz + inn) by omega]
    exact h4
  have h2 := h.upd hi (j := 0) rfl a1 a2 a3 a4 a5 a6
  rw [hnew, hcan] at h2
  refine su rfl rfl ?_ (k w' _ h2 hset)
  simp only [execOp, hx, hy]
  simp [Instr.storeAt, Instr.sureAddr, storeVar, Sem.run_bind, hs w, hv, hvl, hr]
end

def loop {S O : Type} (f : S → Option (S ⊕ O)) (s : S) : Option O := (f s) >>= fun z => match z with
  | .inl s' => loop f s'
  | .inr o => some o partial_fixpoint
theorem loop_eq {S O : Type} (f : S → Option (S ⊕ O)) (s : S) : loop f s = (f s).bind fun z => match z with
  | .inl s' => loop f s'
  | .inr o => some o := by
  rw [loop]; rfl
theorem loop_in {S O : Type} {f : S → Option (S ⊕ O)} {s s' : S} (h : f s = some (.inl s')) : loop f s = loop f s' := by rw [loop_eq, h]; rfl
theorem loop_out {S O : Type} {f : S → Option (S ⊕ O)} {s : S} {o : O} (h : f s = some (.inr o)) : loop f s = some o := by rw [loop_eq, h]; rfl
theorem loop_ind {S O : Type} {f : S → Option (S ⊕ O)} (motive : S → O → Prop) (h1 : ∀ s o, f s = some (.inr o) → motive s o) (h2 : ∀ s s' o, f s = some (.inl s') → loop f s' = some o → motive s' o → motive s o)
    (s : S) (o : O) (h : loop f s = some o) : motive s o := by
  have := loop.partial_correctness f (fun s o => loop f s = some o ∧ motive s o) (fun lp ih s o hs => by
    cases hf : f s with
    | none => rw [hf] at hs; cases hs
    | some z =>
      rw [hf] at hs
      cases z with
      | inl s' =>
        have h3 := ih s' o hs
        exact ⟨(loop_in hf).trans h3.1, h2 s s' o hf h3.1 h3.2⟩
      | inr o' =>
        have : o' = o := Option.some.inj hs
        subst this
        exact ⟨loop_out hf, h1 s o' hf⟩) s o h
  exact this.2

section
variable {P : Program} {Q : Exit → Act → World → Prop} {N : Act → World → Prop} {a : Act} {w : World}
theorem k_lp {X O : Type} {f : X → Option (X ⊕ O)} {x0 : X} {o : O} {c : Code} (I : X → Act → World → Prop) (H : loop f x0 = some o) (h0 : I x0 a w)
    (step : ∀ x a w z, I x a w → f x = some z → (∀ o', z = .inr o' → o' = o) → wk P c (fun a' w' => ∃ x', z = .inl x' ∧ I x' a' w') Q a w) : wk P (.loop c) N Q a w := by
  have key := loop_ind (f := f) (fun x r => r = o → ∀ a w, I x a w → ∀ (b : Frame) (k : List Item) (cs : List Frame),
      ∃ e a' w', (Exit.then N Q) e a' w' ∧ Arrives P (lone (b.at a (.code c :: .inLoop c :: k)) cs w) b k cs e a' w') ?_ ?_ x0 o H rfl a w h0
  · intro b k cs
    obtain ⟨e, a', w', hq, harr⟩ := key b k cs
    exact ⟨e, a', w', hq, .of_steps (.one step_loop) harr⟩
  · intro x r hx hr a w hI b k cs
    obtain ⟨e, a₁, w₁, hq, harr⟩ := step x a w _ hI hx (fun o' ho => by cases ho; exact hr) b (.inLoop c :: k) cs
    cases e with
    | normal => obtain ⟨x', h1, _⟩ := hq; cases h1
    | exit id => exact ⟨.exit id, a₁, w₁, hq, .pass (x := .inLoop c) rfl (fun _ _ => .inl (by simp)) harr⟩
    | goto l => exact ⟨.goto l, a₁, w₁, hq, .pass (x := .inLoop c) rfl (fun _ _ => .inl (by simp)) harr⟩
    | ret => exact ⟨.ret, a₁, w₁, hq, .pass (x := .inLoop c) rfl (fun _ _ => .inl (by simp)) harr⟩
    | panic ch => exact ⟨.panic ch, a₁, w₁, hq, .pass (x := .inLoop c) rfl (fun _ _ => .inl (by simp)) harr⟩
    | outgrown => exact ⟨.outgrown, a₁, w₁, hq, .pass (x := .inLoop c) rfl (fun _ _ => .inl (by simp)) harr⟩
  · intro x x' r hx hl ih hr a w hI b k cs
    obtain ⟨e, a₁, w₁, hq, harr⟩ := step x a w _ hI hx (fun o' ho => by cases ho) b (.inLoop c :: k) cs
    cases e with
    | normal =>
      obtain ⟨x'', h1, hI'⟩ := hq
      cases h1
      obtain ⟨e₂, a₂, w₂, hq₂, harr₂⟩ := ih hr a₁ w₁ hI' b k cs
      exact ⟨e₂, a₂, w₂, hq₂, .of_steps (Steps.trans harr (.one step_inLoop)) harr₂⟩
    | exit id => exact ⟨.exit id, a₁, w₁, hq, .pass (x := .inLoop c) rfl (fun _ _ => .inl (by simp)) harr⟩
    | goto l => exact ⟨.goto l, a₁, w₁, hq, .pass (x := .inLoop c) rfl (fun _ _ => .inl (by simp)) harr⟩
    | ret => exact ⟨.ret, a₁, w₁, hq, .pass (x := .inLoop c) rfl (fun _ _ => .inl (by simp)) harr⟩
    | panic ch => exact ⟨.panic ch, a₁, w₁, hq, .pass (x := .inLoop c) rfl (fun _ _ => .inl (by simp)) harr⟩
    | outgrown => exact ⟨.outgrown, a₁, w₁, hq, .pass (x := .inLoop c) rfl (fun _ _ => .inl (by simp)) harr⟩
end
structure Ep (F : Nat → Prop) (R0 : List Rsc) (w : World) (I : Nat → Prop) (wr : World) : Prop where
  up : Up F w I wr
  new : ∀ k, I k → F k ∨ On R0 k ∨ w.heap.size ≤ k
theorem Ep.refl (F : Nat → Prop) (R0 : List Rsc) (w : World) : Ep F R0 w F w := ⟨Up.refl _ _, fun _ h => .inl h⟩
section
variable {F I : Nat → Prop} {R0 R : List Rsc} {w wr w1 w2 : World} {α : Type} {E : Enc α}
theorem Ep.freeze {X : Rsc} (ep : Ep F R0 w I wr) (h : Hp (On R0) I w wr w1 (X :: R)) : Ep F R0 w (fun k => I k ∨ On [X] k) w1 :=
  ⟨ep.up.trans h.frozenUp, fun k hk => by
    rcases hk with hk | ⟨p, hp, e⟩
    · exact ep.new k hk
    · rw [← e]; exact .inr (h.fresh p (by simp only [List.flatten_cons, List.mem_append]; exact .inl (by simpa using hp))).1⟩
structure Frz (F : Nat → Prop) (Rin : List Rsc) (w : World) (I' : Nat → Prop) (w' : World) (Rout : List Rsc) : Prop where
  up : Up F w I' w'
  new : ∀ k, I' k → F k ∨ On Rin k ∨ w.heap.size ≤ k
  off : ∀ k, I' k → Off w' Rout k
theorem Ep.frz (ep : Ep F R0 w I wr) (h : Hp (On R0) I w wr w1 R) : Frz F R0 w I w1 R :=
  ⟨ep.up.trans h.up, ep.new, fun k hk => ⟨h.ilt k hk, fun ⟨p, hp, e⟩ => (h.fresh p hp).2 (e ▸ hk)⟩⟩
theorem Frz.drop {I' : Nat → Prop} {R' R'' : List Rsc} (z : Frz F R0 w I' w1 R') (hs : ∀ k, On R'' k → On R' k) : Frz F R0 w I' w1 R'' := ⟨z.up, z.new, fun k hk => ⟨(z.off k hk).1, fun h => (z.off k hk).2 (hs k h)⟩⟩
theorem Ep.call {I' : Nat → Prop} {Rin Rest Rout : List Rsc} (ep : Ep F R0 w I wr) (h : Hp (On R0) I w wr w1 (Rin ++ Rest)) (z : Frz I Rin w1 I' w2 Rout) : Ep F R0 w I' w2 :=
  ⟨ep.up.trans (h.up.trans z.up), fun k hk => by
    rcases z.new k hk with hk | ⟨p, hp, e⟩ | hk
    · exact ep.new k hk
    · rw [← e]; exact .inr (h.fresh p (by simp only [List.flatten_append, List.mem_append]; exact .inl hp)).1
    · exact .inr (.inr (Nat.le_trans h.le hk))⟩
theorem Hp.callZ {M I' : Nat → Prop} {w0 : World} {Rin Rest Rout : List Rsc} (h : Hp M I w0 wr w1 (Rin ++ Rest)) (a : Aft w1 w2 Rin Rout) (z : Frz I Rin w1 I' w2 Rout) : Hp M I' w0 w2 w2 (Rout ++ Rest) := h.callF a z.up z.new z.off
theorem Hp.callA {M : Nat → Prop} {w0 : World} {Rin Rest Rout : List Rsc} (a : Aft w1 w2 Rin Rout) (h : Hp M I w0 wr w1 (Rin ++ Rest)) : Hp M I w0 wr w2 (Rout ++ Rest) := h.call a
theorem Hp.callZA {M I' : Nat → Prop} {w0 : World} {Rin Rest Rout : List Rsc} (a : Aft w1 w2 Rin Rout) (z : Frz I Rin w1 I' w2 Rout) (h : Hp M I w0 wr w1 (Rin ++ Rest)) : Hp M I' w0 w2 w2 (Rout ++ Rest) := h.callZ a z
theorem Ep.callA {I' : Nat → Prop} {Rin Rest Rout : List Rsc} (z : Frz I Rin w1 I' w2 Rout) (ep : Ep F R0 w I wr) (h : Hp (On R0) I w wr w1 (Rin ++ Rest)) : Ep F R0 w I' w2 := ep.call h z
theorem Hp.upZ {M I' : Nat → Prop} {w0 : World} {Rin Rout : List Rsc} (h : Hp M I w0 wr w1 R) (z : Frz I Rin w1 I' w2 Rout) : Up I wr I' w2 := h.up.trans z.up
theorem Hp.down {M : Nat → Prop} {w0 : World} (h : Hp M I w0 wr w1 R) : Up I w1 I wr := fun k hk => ⟨hk, (h.imm k hk).symm⟩
end
section
variable {P : Program} {ops : Array Oper} {Q : Exit → Act → World → Prop} {n : Nat} {L : Env} {σ : Nat → Value} {ds : List Deferred} {w : World} {rest : List Oper}
variable {d : Nat} {ty : TypeId} {pos : String} {af : Array Edge} {v : Value} {x y : Operand} {gd : Option (Nat × Bool)} {dst : Option Tmp} {a : Act} {α : Type}
def Pl (A : Option Addr) (sz : Nat) (i : Int) (p : Addr) : Prop := ∃ a0, A = some a0 ∧ p = a0.add (i.toNat * sz)
theorem e_idx {t e : TypeId} {A : Option Addr} {m c sz : Nat} {i : Int} {k' : IntKind} {p : Addr} (hx : a.eval x = .slice A m c) (hy : a.eval y = .int k' i) (hu : UT P t (.slice e)) (hs : SZ P e sz) (hp : Pl A sz i p) (hi : 0 ≤ i ∧ i < (m : Int)) :
    (execOp a.eval ⟨dst, .indexAddr t x y, ty, pos, af, gd⟩).run P w = .ok (.value (.pointer (some p))) w := by
  obtain ⟨a0, rfl, rfl⟩ := hp
  simp only [execOp, hx, hy]
  rw [Sem.run_bind, run_indexAddr hu hs hi.1 hi.2]
  rfl
variable {I F : Nat → Prop} {wr wf : World} {E : Enc α}
theorem rd_idx [Inhabited α] {A : Option Addr} {c : Nat} {xs : List α} {i : Int} (hr : RdS E I wr A c xs) (hi : 0 ≤ i ∧ i < (xs.length : Int)) : ∃ p cs, Pl A E.sz i p ∧ EP I wr p cs ∧ E.rep I wr (gi xs i) cs := by
  obtain ⟨a, cs, rfl, hf, hc, hd⟩ := hr.elem (i := i.toNat) (by omega)
  exact ⟨a.add (i.toNat * E.sz), cs, ⟨a, rfl, rfl⟩, ⟨by unfold Addr.add; split <;> exact hf, hc⟩, hd⟩
theorem ow_idx [Inhabited α] {e' : TypeId} {A : Option Addr} {c : Nat} {xs : List α} {X : Rsc} {i : Int} (ho : Own E F wf e' A c xs X) (hi : 0 ≤ i ∧ i < (xs.length : Int)) :
    ∃ g cs, A = some ⟨g, 0, none⟩ ∧ OA X ⟨g, i.toNat * E.sz, none⟩ cs ∧ E.rep F wf (gi xs i) cs := by
  rcases ho with ⟨rfl, rfl, rfl, rfl⟩ | ⟨g, cur, cs, rfl, rfl, h1, h2, hb, h3, h4, h5⟩
  · simp at hi; omega
  · have hil : i.toNat < xs.length := by omega
    obtain ⟨dd, hd, he⟩ := h5.get (List.getElem?_eq_getElem hil)
    have hg : gi xs i = xs[i.toNat] := by simp [gi, hil]
    refine ⟨g, dd, rfl, fun w hX => ?_, hg ▸ hd⟩
    have hh := hX _ (List.mem_singleton.2 rfl)
    intro j u hu
    rw [add_none]
    refine cell_at hh ?_
    rw [← he, ← h4, List.getElem?_take] at hu
    split at hu
    · rw [List.getElem?_drop, List.getElem?_take] at hu
      split at hu
      · rw [← Array.getElem?_toList]; exact hu
      · cases hu
    · cases hu
theorem ow_pl {A : Option Addr} {g sz : Nat} {i : Int} (h : A = some ⟨g, 0, none⟩) : Pl A sz i ⟨g, i.toNat * sz, none⟩ := ⟨_, h, by rw [add_none, Nat.zero_add]⟩
theorem run_eqnil {t e : TypeId} {A : Option Addr} {m c : Nat} (hu : UT P t (.slice e)) : True := trivial
end

section
variable {α : Type} {E : Enc α} {F I : Nat → Prop} {w w' wr wf w0 : World} {M : Nat → Prop} {R : List Rsc}
theorem rep_vec {x : α} {c : List Value} {n : Nat} (h : E.rep F w x c) : Reps E F w (Vector.replicate n x).toList (List.replicate n c).flatten := by
  rw [Vector.toList_replicate]; exact Reps.replicate h n
theorem mapSome {α β : Type} {x : Option α} {f : α → β} {r : β} (h : x.map f = some r) : ∃ v, x = some v ∧ r = f v := by
  cases x with
  | none => cases h
  | some v => exact ⟨v, rfl, (Option.some.inj h).symm⟩
theorem inrE {α β : Type} {x : β} {r : α ⊕ β} (h : Sum.inr x = r) : ∃ v, x = v ∧ r = Sum.inr v := ⟨x, rfl, h.symm⟩
theorem add_none2 (b o j k : Nat) : (⟨b, o + j, none⟩ : Addr).add k = ⟨b, o + (j + k), none⟩ := by rw [add_none, Nat.add_assoc]
theorem cells_subN {b o off sz : Nat} {l vs : List Value} (h : CellsAt w ⟨b, o, none⟩ l) (hv : (l.drop off).take sz = vs) : CellsAt w ⟨b, o + off, none⟩ vs := by
  have := cells_sub h hv
  rwa [add_none] at this
theorem cells_oneN {b o off : Nat} {l : List Value} {v : Value} (h : CellsAt w ⟨b, o, none⟩ l) (hv : l[off]? = some v) : w.cell? ⟨b, o + off, none⟩ = some v := by
  have := cells_one h hv
  rwa [add_none] at this
theorem ble_len {m n : Nat} {l : List Value} (h : l.length = n) (hb : Nat.ble m n = true) : Nat.ble m l.length = true := by rw [h]; exact hb
theorem cell_atL {b : Nat} {l : List Value} {e : TypeId} {fz : Nat × Nat} {off : Nat} {v : Value} (h : w.heap[b]? = some (.cells l.toArray e fz)) (hc : l[off]? = some v) : w.cell? ⟨b, off, none⟩ = some v := cell_at h (by simpa using hc)
structure Dj (M I : Nat → Prop) (w0 wr s0 : World) (R : List Rsc) (w : World) : Prop where
  hp : Hp M I w0 wr w R
  le : s0.heap.size ≤ w.heap.size
def DG (s0 w w' : World) : Prop := w.heap.size ≤ w'.heap.size ∧ ∀ k, s0.heap.size ≤ k → k < w.heap.size → w'.heap[k]? = w.heap[k]?
theorem DG.refl (s0 w : World) : DG s0 w w := ⟨Nat.le_refl _, fun _ _ _ => rfl⟩
theorem DG.grow (s0 : World) : Grow (DG s0) := ⟨DG.refl s0, fun h k => ⟨Nat.le_trans h.1 k.1, fun i h0 hi => (k.2 i h0 (Nat.lt_of_lt_of_le hi h.1)).trans (h.2 i h0 hi)⟩⟩
theorem DG.below {s0 : World} (h : Below w.heap.size w w') : DG s0 w w' := ⟨h.size, fun k _ hk => h.block k hk⟩
theorem Dj.start (h : Hp M I w0 wr w R) : ∀ m, Dj M I w0 wr w R { w with drawn := m } := fun m => ⟨h.drawn m, Nat.le_refl _⟩
theorem Dj.grow {s0 : World} (h : Dj M I w0 wr s0 R w) (b : Below w.heap.size w w') : Dj M I w0 wr s0 R w' := ⟨h.hp.grow b, Nat.le_trans h.le b.size⟩
theorem Dj.to {s0 : World} {R' : List Rsc} (h : Dj M I w0 wr s0 R w) (h' : Hp M I w0 wr w' R') (hs : w.heap.size ≤ w'.heap.size) : Dj M I w0 wr s0 R' w' := ⟨h', Nat.le_trans h.le hs⟩
structure Fr (s0 w : World) (X : Rsc) : Prop where
  at_ : ∀ p ∈ X, s0.heap.size ≤ p.1 ∧ w.heap[p.1]? = some p.2
  nodup : (X.map (·.1)).Nodup
theorem Fr.of {s0 : World} {X : Rsc} (a : Aft w w' [] [X]) (h : s0.heap.size ≤ w.heap.size) : Fr s0 w' X :=
  ⟨fun p hp => ⟨Nat.le_trans h ((a.fresh p (by simpa using hp)).resolve_left fun h => On.nil h), a.own p (by simpa using hp)⟩, by simpa using a.nodup⟩
theorem Fr.up {s0 : World} {X : Rsc} (f : Fr s0 w X) (g : DG s0 w w') : Fr s0 w' X := ⟨fun p hp => ⟨(f.at_ p hp).1, (g.2 _ (f.at_ p hp).1 (hlt (f.at_ p hp).2)).trans (f.at_ p hp).2⟩, f.nodup⟩
theorem Hp.adoptD {s0 : World} {R0 : List Rsc} {X : Rsc} (h : Hp M I w0 wr w R) (h0 : Hp M I w0 wr s0 R0) (hk : ∀ p ∈ R.flatten, ∃ q ∈ R0.flatten, q.1 = p.1) (hI : ∀ k, I k → k < s0.heap.size) (f : Fr s0 w X) : Hp M I w0 wr w (R ++ [X]) := by
  have hb : ∀ p ∈ R.flatten, p.1 < s0.heap.size := fun p hp => by obtain ⟨q, hq, e⟩ := hk p hp; rw [← e]; exact h0.lt hq
  refine ⟨h.os, h.tape, h.output, h.le, h.old, h.imm, h.ilt, ?_, ?_, ?_⟩
  · intro p hp
    simp only [List.flatten_append, List.mem_append, List.flatten_cons, List.flatten_nil, List.append_nil] at hp
    exact hp.elim (h.own p) fun hp => (f.at_ p hp).2
  · intro p hp
    simp only [List.flatten_append, List.mem_append, List.flatten_cons, List.flatten_nil, List.append_nil] at hp
    refine hp.elim (h.fresh p) fun hp => ⟨.inr (Nat.le_trans h0.le (f.at_ p hp).1), fun hi => ?_⟩
    have := hI _ hi
    have := (f.at_ p hp).1
    omega
  · simp only [List.flatten_append, List.flatten_cons, List.flatten_nil, List.append_nil, List.map_append, List.nodup_append]
    refine ⟨h.nodup, f.nodup, ?_⟩
    intro x hx y hy
    obtain ⟨p, hp, rfl⟩ := List.mem_map.1 hx
    obtain ⟨q, hq, rfl⟩ := List.mem_map.1 hy
    have := hb p hp
    have := (f.at_ q hq).1
    omega
theorem flT {b : Bool} {x y : Value} (h : b = true) : some (bif b then x else y) = some x := by subst h; rfl
theorem flF {b : Bool} {x y : Value} (h : b = false) : some (bif b then x else y) = some y := by subst h; rfl
end
section
variable {P : Program} {ops : Array Oper} {N : Act → World → Prop} {Q : Exit → Act → World → Prop} {n : Nat} {L : Env} {σ : Nat → Value} {ds : List Deferred} {w : World} {rest : List Oper}
variable {d : Nat} {ty : TypeId} {pos : String} {af : Array Edge} {v : Value} {x y : Operand} {gd : Option (Nat × Bool)} {dst : Option Tmp} {a : Act}
def Pan (P : Program) (f : FuncId) (args : List Value) (w : World) (Ψ : List PanicEntry → World → Prop) : Prop := Calls P f args.toArray w fun e w' => ∃ c, e = .panicked c ∧ Ψ c w'
theorem RetP.ret {f : FuncId} {args : List Value} {Φ Φ' : Value → World → Prop} {Ψ : List PanicEntry → World → Prop} (h : RetP P f args w Φ Ψ) (k : ∀ v w', Φ v w' → Φ' v w') (kp : ∀ c w', Ψ c w' → False) : Ret P f args w Φ' :=
  Calls.mono h fun e w' he => by
    rcases he with ⟨v, he, hv⟩ | ⟨c, he, hv⟩
    · exact ⟨v, he, k v w' hv⟩
    · exact (kp c w' hv).elim
theorem RetP.pan {f : FuncId} {args : List Value} {Φ : Value → World → Prop} {Ψ Ψ' : List PanicEntry → World → Prop} (h : RetP P f args w Φ Ψ) (k : ∀ v w', Φ v w' → False) (kp : ∀ c w', Ψ c w' → Ψ' c w') : Pan P f args w Ψ' :=
  Calls.mono h fun e w' he => by
    rcases he with ⟨v, he, hv⟩ | ⟨c, he, hv⟩
    · exact (k v w' hv).elim
    · exact ⟨c, he, kp c w' hv⟩
theorem s_panic {t : TypeId} {u : Value} (hx : (st n L σ ds).eval x = .iface t u) (k : Q (.panic [⟨.iface t u, false, false⟩]) (st n L σ ds) w) :
    wpList P ops (Exit.then N Q) (⟨none, .panic x, ty, pos, af, none⟩ :: rest) (st n L σ ds) w := by
  refine wpList_plain rfl fun K hK => ?_
  unfold Oper.wp
  have : (execOp (st n L σ ds).eval ⟨none, .panic x, ty, pos, af, none⟩).run P w = .halt (.panic (.iface t u)) w := by
    simp only [execOp, hx]
    simp [Instr.panic]
  rw [this, Oper.upon_panic]
  exact k
theorem s_pan {f : FuncId} {xs : List Operand} {vs : List Value} {ats : Array TypeId} {Ψ : List PanicEntry → World → Prop} (hx : Evs (st n L σ ds).eval xs vs) (hcf : ∀ args w, (callFunc f args).run P w = .ok (.enter f args) w)
    (hc : Pan P f vs w Ψ) (k : ∀ c w', Ψ c w' → Q (.panic c) (st n L σ ds) w') :
    wpList P ops (Exit.then N Q) (⟨dst, .call { callee := .value (.func f), args := xs.toArray, argTypes := ats }, ty, pos, af, none⟩ :: rest) (st n L σ ds) w := by
  refine wpList_plain rfl fun K hK => ?_
  unfold Oper.wp
  rw [x_call hx hcf, Oper.upon_enter]
  refine Calls.mono hc fun e w' he => ?_
  obtain ⟨c, rfl, hv⟩ := he
  exact k c w' hv
theorem k_endP {P : Program} {fn : Func} {Φ : Value → World → Prop} {Ψ : List PanicEntry → World → Prop} {n : Nat} {L : Env} {σ : Nat → Value} {w : World} {rs : List ResultVar} {vs : List Value} {v : Value}
    (hr : fn.results = rs.toArray) (h : Res P w (ov L σ) n rs vs) (hv : pack vs = v) (k : Φ v w) :
    bodyPost P fn (fun e w' => (∃ v, e = .returned v ∧ Φ v w') ∨ (∃ c, e = .panicked c ∧ Ψ c w')) .ret (st n L σ []) w :=
  ⟨rfl, v, by rw [← hv]; exact res_run h hr, .inl ⟨v, rfl, k⟩⟩
theorem k_endPn {P : Program} {fn : Func} {Φ : Value → World → Prop} {Ψ : List PanicEntry → World → Prop} {n : Nat} {L : Env} {σ : Nat → Value} {w : World} {rs : List ResultVar} {vs : List Value} {v : Value}
    (hr : fn.results = rs.toArray) (h : Res P w (ov L σ) n rs vs) (hv : pack vs = v) (k : Φ v w) :
    bodyPost P fn (fun e w' => (∃ v, e = .returned v ∧ Φ v w') ∨ (∃ c, e = .panicked c ∧ Ψ c w')) .normal (st n L σ []) w :=
  ⟨rfl, v, by rw [← hv]; exact res_run h hr, .inl ⟨v, rfl, k⟩⟩
theorem e_makeIface {t : TypeId} {td : TypeDesc} (hx : a.eval x = v) (hu : UT P t td) (h : (match td with | .interface _ => false | _ => true) = true) : (execOp a.eval ⟨dst, .makeInterface t x, ty, pos, af, gd⟩).run P w = .ok (.value (.iface t v)) w := by
  simp only [execOp, hx]
  cases td <;> first | (simp at h; done) | simp [Instr.makeInterface, Sem.run_bind, hu w]
end
section
variable {P : Program} {w : World} {ty : TypeId} {pos : String} {af : Array Edge} {x : Operand} {gd : Option (Nat × Bool)} {dst : Option Tmp} {a : Act} {α : Type} {E : Enc α} {I F : Nat → Prop} {wr wf : World}
def Ct (P : Program) (t : TypeId) (A : Option Addr) (m c : Nat) (kl kh : IntKind) (l h : Int) (A' : Option Addr) (m' c' : Nat) : Prop :=
  ∀ {a : Act} {w : World} {dst : Option Tmp} {x : Operand} {lo hi : Option Operand} {ty : TypeId} {pos : String} {af : Array Edge} {gd : Option (Nat × Bool)}, a.eval x = .slice A m c →
    ((lo.map a.eval = some (.int kl l)) ∨ (lo = none ∧ l = 0)) → ((hi.map a.eval = some (.int kh h)) ∨ (hi = none ∧ h = (m : Int))) →
    (execOp a.eval ⟨dst, .slice t x lo hi none, ty, pos, af, gd⟩).run P w = .ok (.value (.slice A' m' c')) w
theorem ct_S {t e : TypeId} {A : Option Addr} {c : Nat} {xs : List α} {l h : Int} {kl kh : IntKind} (hu : UT P t (.slice e)) (hs : SZ P e E.sz) (hb : 0 ≤ l ∧ l ≤ h ∧ h ≤ (xs.length : Int)) (hr : RdS E I wr A c xs) :
    ∃ A', RdS E I wr A' (c - l.toNat) ((xs.drop l.toNat).take (h.toNat - l.toNat)) ∧ Ct P t A xs.length c kl kh l h A' ((xs.drop l.toNat).take (h.toNat - l.toNat)).length (c - l.toNat) := by
  obtain ⟨b0, b1, b2⟩ := hb
  have hc := hr.len
  refine ⟨if c = l.toNat then A else A.map (·.add (l.toNat * E.sz)), (hr.drop (k := l.toNat) (by omega) _ rfl).take (by rw [List.length_drop]; omega), ?_⟩
  intro a w dst x lo hi ty pos af gd hx hlo hhi
  have e0 : 0 ≤ h := by omega
  have hl : ((xs.drop l.toNat).take (h.toNat - l.toNat)).length = h.toNat - l.toNat := by
    rw [List.length_take, List.length_drop]; omega
  rw [hl]
  have g1 : h ≤ (c : Int) := by omega
  simp only [execOp, hx, Option.map_none]
  rcases hlo with hlo | ⟨rfl, rfl⟩ <;> rcases hhi with hhi | ⟨rfl, rfl⟩ <;>
    simp [Instr.sliceAt, Instr.slice, Instr.sliceBounds, Instr.sliceBound, Sem.run_bind, hu w, hs w, asIntOf, *] <;> (try omega)
theorem ct_D {t e : TypeId} {A : Option Addr} {c : Nat} {xs : List α} {l h : Int} {kl kh : IntKind} (hu : UT P t (.slice e)) (hs : SZ P e E.sz) (hb : 0 ≤ l ∧ l ≤ (xs.length : Int) ∧ (xs.length : Int) ≤ (xs.length : Int)) (hr : RdS E I wr A c xs) (hh : h = (xs.length : Int) := by rfl) :
    ∃ A', RdS E I wr A' (c - l.toNat) (xs.drop l.toNat) ∧ Ct P t A xs.length c kl kh l h A' (xs.drop l.toNat).length (c - l.toNat) := by
  subst hh
  have h1 := ct_S (h := (xs.length : Int)) (kl := kl) (kh := kh) (P := P) hu hs hb hr
  have : (xs.drop l.toNat).take ((xs.length : Int).toNat - l.toNat) = xs.drop l.toNat := List.take_of_length_le (by rw [List.length_drop]; omega)
  rwa [this] at h1
def CtO (P : Program) (t : TypeId) (A : Option Addr) (m c : Nat) (kh : IntKind) (h : Int) (A' : Option Addr) (m' c' : Nat) : Prop :=
  ∀ {a : Act} {w : World} {dst : Option Tmp} {x : Operand} {hi : Option Operand} {ty : TypeId} {pos : String} {af : Array Edge} {gd : Option (Nat × Bool)}, a.eval x = .slice A m c →
    ((hi.map a.eval = some (.int kh h)) ∨ (hi = none ∧ h = (m : Int))) → (execOp a.eval ⟨dst, .slice t x none hi none, ty, pos, af, gd⟩).run P w = .ok (.value (.slice A' m' c')) w
theorem ct_O {t e e' : TypeId} {A : Option Addr} {c : Nat} {xs : List α} {X : Rsc} {h : Int} {kh : IntKind} (hu : UT P t (.slice e)) (hs : SZ P e E.sz) (hb : 0 ≤ h ∧ h ≤ (xs.length : Int)) (ho : Own E F wf e' A c xs X) :
    ∃ A', Own E F wf e' A' c (xs.take h.toNat) X ∧ CtO P t A xs.length c kh h A' (xs.take h.toNat).length c := by
  obtain ⟨b0, b2⟩ := hb
  have hc := ho.le
  have hl : (xs.take h.toNat).length = h.toNat := by rw [List.length_take]; omega
  have g1 : h ≤ (c : Int) := by omega
  refine ⟨A, ?_, ?_⟩
  · rcases ho with ⟨rfl, rfl, rfl, rfl⟩ | ⟨g, cur, cs, rfl, rfl, h1, h2, hb, h3, h4, h5⟩
    · exact .inl ⟨rfl, rfl, by simp, rfl⟩
    · refine .inr ⟨g, cur, _, rfl, rfl, by omega, h2, by omega, h3, rfl, ?_⟩
      rw [hl]
      have : cur.toList.take (h.toNat * E.sz) = cs.take (h.toNat * E.sz) := by
        rw [← h4, List.take_take, Nat.min_eq_left (Nat.mul_le_mul_right _ (by omega))]
      rw [this]; exact h5.take _
  · intro a w dst x hi ty pos af gd hx hhi
    rw [hl]
    simp only [execOp, hx, Option.map_none]
    rcases hhi with hhi | ⟨rfl, rfl⟩ <;>
      simp [Instr.sliceAt, Instr.slice, Instr.sliceBounds, Instr.sliceBound, Sem.run_bind, hu w, hs w, asIntOf, Addr.add, *] <;> (try omega)
end
end Go.Proofs.Ytbdbmklkgjbehaa.B
