/- Calls that stand to be done at the end; what gets hold of a panic. -/
import Derived.Test.YtcnchjlomcafeaaPar
set_option linter.unusedVariables false
set_option linter.unusedSimpArgs false
set_option linter.unusedSectionVars false
namespace Go.Proofs.Ytcnchjlomcafeaa.B
open Go Go.RowKit

section
variable {P : Program} {ops : Array Oper} {N : Act → World → Prop} {Q : Exit → Act → World → Prop} {n : Nat} {L : Env} {σ : Nat → Value} {ds : List Deferred} {w : World} {rest : List Oper}
variable {ty : TypeId} {pos : String} {af : Array Edge} {x : Operand} {fn : Func} {R : Ending → World → Prop} {f : FuncId} {caps : List Value}
theorem enterD {c : Code} {l : List Value} (hf : P.funcs[f]? = some fn) (hb : fn.body = some c) (hn : fn.ntmps = n) (hl : Nat.ble l.length n = true) (hL : argEnv 0 l = L)
    (h : wk P c (bodyPostD P fn R .normal) (bodyPostD P fn R) (st n L (fun _ => undef) []) w) : Calls P f l.toArray w R := by
  subst hL
  refine calls_of_wp_defers hf hb ?_
  rw [hn, enter_fr l n (Nat.le_of_ble_eq_true hl)]
  exact wp_mono h fun e a w he => by cases e <;> exact he
theorem s_defer {ats : Array TypeId} (hx : (st n L σ ds).eval x = .func (.func f) #[] caps.toArray) (k : wpList P ops Q rest (st n L σ (⟨.fn (.func f) caps.toArray, #[]⟩ :: ds)) w) :
    wpList P ops Q (⟨none, .defer { callee := .value x, args := #[], argTypes := ats }, ty, pos, af, none⟩ :: rest) (st n L σ ds) w := by
  refine wpList_plain rfl fun K hK => ?_
  unfold Oper.wp
  have : (execOp (st n L σ ds).eval ⟨none, .defer { callee := .value x, args := #[], argTypes := ats }, ty, pos, af, none⟩).run P w = .ok (.defer ⟨.fn (.func f) caps.toArray, #[]⟩) w := by
    simp only [execOp, resolve, hx]
    simp [Deferred.ofValue, Sem.run_bind]
  rw [this, Oper.upon_defer]
  exact hK _ _ k
/-- A deferred call that leaves the frame below in the mode u'. -/
def RetD (P : Program) (f : FuncId) (args : List Value) (u u' : FrameMode) (w : World) (Φ : Value → World → Prop) : Prop := CallsD P f args.toArray u w fun e u2 w' => ∃ v, e = .returned v ∧ u2 = u' ∧ Φ v w'
theorem lv_ret {Φ : Value → World → Prop} (hcf : ∀ args w, (callFunc f args).run P w = .ok (.enter f args) w) (hc : RetD P f caps .returning .returning w Φ)
    (k : ∀ v w', Φ v w' → ∃ v', (results fn (fr n (ov L σ))).run P w' = .ok v' w' ∧ R (.returned v') w') : bodyPostD P fn R .ret (st n L σ [⟨.fn (.func f) caps.toArray, #[]⟩]) w := by
  refine ⟨by simp, .func f, caps.toArray, f, caps.toArray, rfl, ?_, CallsD.mono hc fun e u2 w' h => ?_⟩
  · simp [invoke, hcf]
  · obtain ⟨v, rfl, rfl, hv⟩ := h
    exact k v w' hv
theorem lv_pan {Φ : Value → World → Prop} {u : Value} (hcf : ∀ args w, (callFunc f args).run P w = .ok (.enter f args) w) (hc : RetD P f caps (.panicking [⟨u, false, false⟩]) (.panicking [⟨u, true, false⟩]) w Φ)
    (k : ∀ v w', Φ v w' → ∃ v', (results fn (fr n (ov L σ))).run P w' = .ok v' w' ∧ R (.returned v') w') : bodyPostD P fn R (.panic [⟨u, false, false⟩]) (st n L σ [⟨.fn (.func f) caps.toArray, #[]⟩]) w := by
  refine ⟨by simp, .func f, caps.toArray, f, caps.toArray, rfl, ?_, CallsD.mono hc fun e u2 w' h => ?_⟩
  · simp [invoke, hcf]
  · obtain ⟨v, rfl, rfl, hv⟩ := h
    exact k v w' hv
/-- A panic ahead of the deferral. -/
theorem lv_nod {Φ : Value → World → Prop} {rs : List ResultVar} {vs : List Value} {v : Value} (hr : fn.results = rs.toArray) (h : Res P w (ov L σ) n rs vs) (hv : pack vs = v) (k : Φ v w) :
    bodyPostD P fn (fun e w' => ∃ v, e = .returned v ∧ Φ v w') .ret (st n L σ []) w := ⟨v, by rw [← hv]; exact res_run h hr, v, rfl, k⟩
theorem lv_run {rs : List ResultVar} {vs : List Value} {v : Value} (hr : fn.results = rs.toArray) (h : Res P w (ov L σ) n rs vs) (hv : pack vs = v) :
    (results fn (fr n (ov L σ))).run P w = .ok v w := by rw [← hv]; exact res_run h hr
/-! ### within the deferred call -/
variable {u : FrameMode} {c : Code} {c₀ : Frame} {cs : List Frame}
theorem enterS {l : List Value} {R : Ending → FrameMode → World → Prop} (hf : P.funcs[f]? = some fn) (hb : fn.body = some c) (hn : fn.ntmps = n) (hl : Nat.ble l.length n = true) (hL : argEnv 0 l = L)
    (h : ∀ (c₀ : Frame) (cs : List Frame), c₀.mode = u → c.wpS P (bodyPostS P fn c₀ cs R) (st n L (fun _ => undef) []) (c₀ :: cs) w) : CallsD P f l.toArray u w R := by
  subst hL
  refine callsD_of_wpS hf hb fun c₀ cs hm => ?_
  rw [hn, enter_fr l n (Nat.le_of_ble_eq_true hl)]
  exact h c₀ cs hm
theorem kS_of {x : Code} {a : Act} {K : Act → List Frame → World → Prop} {Q : Exit → Act → List Frame → World → Prop} (h : wk P x (fun a w => K a cs w) (fun e a w => Q e a cs w) a w) : x.wpS P (Exit.thenS K Q) a cs w :=
  wpS_of_wp (wp_mono h fun e a w he => by cases e <;> exact he)
theorem kS_last {x : Code} {a : Act} {Q : Exit → Act → List Frame → World → Prop} (h : wk P x (fun a w => Q .normal a cs w) (fun e a w => Q e a cs w) a w) : x.wpS P Q a cs w :=
  wpS_of_wp (wp_mono h fun e a w he => by cases e <;> exact he)
variable {d d2 : Nat} {ty2 : TypeId} {pos2 : String} {af2 : Array Edge} {id : Nat} {K : Act → List Frame → World → Prop} {QS : Exit → Act → List Frame → World → Prop}
theorem exec_recover {ρ : Operand → Value} : (execOp ρ ⟨some d, .call { callee := .builtin .recover, args := #[], argTypes := #[] }, ty, pos, af, none⟩).run P w = .ok .recover w := by
  simp [execOp, resolve, invoke, builtin, Sem.run_bind]
theorem kS_recR (hm : c₀.mode = .returning) (h1 : Nat.blt d n = true) (h2 : Nat.blt d2 n = true) (h : K (st n ((d2, .nilIface) :: (d, .nilIface) :: L) σ []) (c₀ :: cs) w) :
    (Code.region id [⟨some d, .call { callee := .builtin .recover, args := #[], argTypes := #[] }, ty, pos, af, none⟩, ⟨some d2, .assign (.tmp d), ty2, pos2, af2, none⟩].toArray false).wpS P (Exit.thenS K QS) (st n L σ []) (c₀ :: cs) w := by
  refine wpS_region ?_
  have hr : recoverD (c₀ :: cs) = none := by simp [recoverD, hm]
  have hw : ∀ (o : Oper) ops (a : Act), o.guard = none → Region.wanted o (yielded ops a.tmps) = true := fun o ops a h => by simp [Region.wanted, h]
  have hl : List.range (#[(⟨some d, .call { callee := .builtin .recover, args := #[], argTypes := #[] }, ty, pos, af, none⟩ : Oper), ⟨some d2, .assign (.tmp d), ty2, pos2, af2, none⟩]).size = [0, 1] := rfl
  rw [hl]
  simp only [wpOpsS]
  simp only [List.getElem?_toArray, List.getElem?_cons_zero, List.getElem?_cons_succ]
  rw [if_pos (hw _ _ _ rfl), exec_recover]
  simp only [hr]
  rw [put_st h1, if_pos (hw _ _ _ rfl), e_assign (tm h1 (v := .nilIface) (by simp [ov, Nat.beq_refl]))]
  simp only [Oper.upon_value]
  rw [put_st h2]
  exact h
theorem kS_recP {u : Value} (hm : c₀.mode = .panicking [⟨u, false, false⟩]) (h1 : Nat.blt d n = true) (h2 : Nat.blt d2 n = true)
    (h : K (st n ((d2, u) :: (d, u) :: L) σ []) ({ c₀ with mode := .panicking [⟨u, true, false⟩] } :: cs) w) :
    (Code.region id [⟨some d, .call { callee := .builtin .recover, args := #[], argTypes := #[] }, ty, pos, af, none⟩, ⟨some d2, .assign (.tmp d), ty2, pos2, af2, none⟩].toArray false).wpS P (Exit.thenS K QS) (st n L σ []) (c₀ :: cs) w := by
  refine wpS_region ?_
  have hr : recoverD (c₀ :: cs) = some (u, { c₀ with mode := .panicking [⟨u, true, false⟩] } :: cs) := by simp [recoverD, hm]
  have hw : ∀ (o : Oper) ops (a : Act), o.guard = none → Region.wanted o (yielded ops a.tmps) = true := fun o ops a h => by simp [Region.wanted, h]
  have hl : List.range (#[(⟨some d, .call { callee := .builtin .recover, args := #[], argTypes := #[] }, ty, pos, af, none⟩ : Oper), ⟨some d2, .assign (.tmp d), ty2, pos2, af2, none⟩]).size = [0, 1] := rfl
  rw [hl]
  simp only [wpOpsS]
  simp only [List.getElem?_toArray, List.getElem?_cons_zero, List.getElem?_cons_succ]
  rw [if_pos (hw _ _ _ rfl), exec_recover]
  simp only [hr]
  rw [put_st h1, if_pos (hw _ _ _ rfl), e_assign (tm h1 (v := u) (by simp [ov, Nat.beq_refl]))]
  simp only [Oper.upon_value]
  rw [put_st h2]
  exact h
theorem frame_mode {c₀ : Frame} {u : FrameMode} (h : c₀.mode = u) : c₀ :: cs = { c₀ with mode := u } :: cs := by subst h; rfl
theorem k_endSn {Φ : Value → World → Prop} {cs' : List Frame} {u' : FrameMode} {rs : List ResultVar} {vs : List Value} {v : Value} (hc : cs' = { c₀ with mode := u' } :: cs)
    (hr : fn.results = rs.toArray) (h : Res P w (ov L σ) n rs vs) (hv : pack vs = v) (k : Φ v w) :
    bodyPostS P fn c₀ cs (fun e u2 w' => ∃ v, e = .returned v ∧ u2 = u' ∧ Φ v w') .normal (st n L σ []) cs' w := ⟨rfl, u', hc, v, by rw [← hv]; exact res_run h hr, v, rfl, rfl, k⟩
variable {dst : Option Tmp} {a : Act} {gd : Option (Nat × Bool)}
theorem run_inil {xt : TypeId} {ms : Array (String × TypeId)} {t : TypeId} {v : Value} (hu : UT P xt (.interface ms)) : (Op.equal xt (.iface t v) .nilIface).run P w = .ok false w := by
  unfold Op.equal Op.maxDepth
  rw [Op.equalIn]
  rw [Sem.run_bind, hu w, Result.andThen_ok]
  rfl
theorem run_nilnil {xt : TypeId} {ms : Array (String × TypeId)} (hu : UT P xt (.interface ms)) : (Op.equal xt .nilIface .nilIface).run P w = .ok true w := by
  unfold Op.equal Op.maxDepth
  rw [Op.equalIn]
  rw [Sem.run_bind, hu w, Result.andThen_ok]
  rfl
theorem r_inen {xt : TypeId} {ms : Array (String × TypeId)} {t : TypeId} {v : Value} {x y : Operand} (hu : UT P xt (.interface ms)) :
    (do eqGuard .neq xt x y (.iface t v) .nilIface; binOp .neq xt (.iface t v) .nilIface : Sem Value).run P w = .ok (.bool true) w := by
  have h1 : eqGuard .neq xt x y (.iface t v) .nilIface = pure () := rfl
  have h2 : binOp .neq xt (.iface t v) .nilIface = (do pure (.bool (!(← Op.equal xt (.iface t v) .nilIface)))) := rfl
  rw [h1, h2, Sem.run_bind, Sem.run_pure, Result.andThen_ok, Sem.run_bind, run_inil hu, Result.andThen_ok, Sem.run_pure]
  rfl
theorem r_inn {xt : TypeId} {ms : Array (String × TypeId)} {x : Operand} (hu : UT P xt (.interface ms)) :
    (do eqGuard .neq xt x (.const .nilIface) .nilIface .nilIface; binOp .neq xt .nilIface .nilIface : Sem Value).run P w = .ok (.bool false) w := by
  have h1 : (eqGuard .neq xt x (.const .nilIface) .nilIface .nilIface).run P w = .ok () w := by
    unfold eqGuard
    simp
  have h2 : binOp .neq xt .nilIface .nilIface = (do pure (.bool (!(← Op.equal xt .nilIface .nilIface)))) := rfl
  rw [Sem.run_bind, h1, h2, Result.andThen_ok, Sem.run_bind, run_nilnil hu, Result.andThen_ok, Sem.run_pure]
  rfl
theorem e_assert {t xt : TypeId} {td : TypeDesc} {v : Value} (hx : a.eval x = .iface t v) (hu : UT P t td) (h : (match td with | .interface _ => false | _ => true) = true) :
    (execOp a.eval ⟨dst, .typeAssert x xt t false, ty, pos, af, gd⟩).run P w = .ok (.value v) w := by
  simp only [execOp, hx]
  cases td <;> first | (simp at h; done) | simp [Instr.typeAssert, Sem.run_bind, hu w]
end
end Go.Proofs.Ytcnchjlomcafeaa.B
