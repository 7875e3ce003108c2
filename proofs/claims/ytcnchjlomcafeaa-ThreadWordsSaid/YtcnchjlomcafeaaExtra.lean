/- What the walk needs besides. -/
import Derived.Test.YtcnchjlomcafeaaLoop
set_option linter.unusedVariables false
set_option linter.unusedSimpArgs false
set_option linter.unusedSectionVars false
namespace Go.Proofs.Ytcnchjlomcafeaa.B
open Go Go.RowKit

section
variable {α : Type} {E : Enc α} {F I : Nat → Prop} {w w' wr wf w0 : World} {M : Nat → Prop} {R : List Rsc}
theorem rep_vec {x : α} {c : List Value} {n : Nat} (h : E.rep F w x c) : Reps E F w (Vector.replicate n x).toList (List.replicate n c).flatten := by
  rw [Vector.toList_replicate]; exact Reps.replicate h n
theorem mapSome {α β : Type} {x : Option α} {f : α → β} {r : β} (h : x.map f = some r) : ∃ v, x = some v ∧ r = f v := by
  cases x with
  | none => cases h
  | some v => exact ⟨v, rfl, (Option.some.inj h).symm⟩
theorem ble_len {m n : Nat} {l : List Value} (h : l.length = n) (hb : Nat.ble m n = true) : Nat.ble m l.length = true := by rw [h]; exact hb
theorem cell_atL {b : Nat} {l : List Value} {e : TypeId} {fz : Nat × Nat} {off : Nat} {v : Value} (h : w.heap[b]? = some (.cells l.toArray e fz)) (hc : l[off]? = some v) : w.cell? ⟨b, off, none⟩ = some v := cell_at h (by simpa using hc)
/-- Within a region that draws its order. -/
structure Dj (M I : Nat → Prop) (w0 wr s0 : World) (R : List Rsc) (w : World) : Prop where
  hp : Hp M I w0 wr w R
  le : s0.heap.size ≤ w.heap.size
def DG (s0 w w' : World) : Prop := w.heap.size ≤ w'.heap.size ∧ ∀ k, s0.heap.size ≤ k → k < w.heap.size → w'.heap[k]? = w.heap[k]?
theorem DG.refl (s0 w : World) : DG s0 w w := ⟨Nat.le_refl _, fun _ _ _ => rfl⟩
theorem DG.below {s0 : World} (h : Below w.heap.size w w') : DG s0 w w' := ⟨h.size, fun k _ hk => h.block k hk⟩
theorem Dj.to {s0 : World} {R' : List Rsc} (h : Dj M I w0 wr s0 R w) (h' : Hp M I w0 wr w' R') (hs : w.heap.size ≤ w'.heap.size) : Dj M I w0 wr s0 R' w' := ⟨h', Nat.le_trans h.le hs⟩
structure Fr (s0 w : World) (X : Rsc) : Prop where
  at_ : ∀ p ∈ X, s0.heap.size ≤ p.1 ∧ w.heap[p.1]? = some p.2
  nodup : (X.map (·.1)).Nodup
theorem Fr.of {s0 : World} {X : Rsc} (a : Aft w w' [] [X]) (h : s0.heap.size ≤ w.heap.size) : Fr s0 w' X :=
  ⟨fun p hp => ⟨Nat.le_trans h ((a.fresh p (by simpa using hp)).resolve_left fun h => On.nil h), a.own p (by simpa using hp)⟩, by simpa using a.nodup⟩
theorem Fr.up {s0 : World} {X : Rsc} (f : Fr s0 w X) (g : DG s0 w w') : Fr s0 w' X := ⟨fun p hp => ⟨(f.at_ p hp).1, (g.2 _ (f.at_ p hp).1 (hlt (f.at_ p hp).2)).trans (f.at_ p hp).2⟩, f.nodup⟩
end
/-! ### panics -/
section
variable {P : Program} {ops : Array Oper} {N : Act → World → Prop} {Q : Exit → Act → World → Prop} {n : Nat} {L : Env} {σ : Nat → Value} {ds : List Deferred} {w : World} {rest : List Oper}
variable {d : Nat} {ty : TypeId} {pos : String} {af : Array Edge} {v : Value} {x y : Operand} {gd : Option (Nat × Bool)} {dst : Option Tmp} {a : Act}
def Pan (P : Program) (f : FuncId) (args : List Value) (w : World) (Ψ : List PanicEntry → World → Prop) : Prop := Calls P f args.toArray w fun e w' => ∃ c, e = .panicked c ∧ Ψ c w'
theorem RetP.ret {f : FuncId} {args : List Value} {Φ Φ' : Value → World → Prop} {Ψ : List PanicEntry → World → Prop} (h : RetP P f args w Φ Ψ) (k : ∀ v w', Φ v w' → Φ' v w') (kp : ∀ c w', Ψ c w' → False) : Ret P f args w Φ' :=
  Calls.mono h fun e w' he => by
    rcases he with ⟨v, he, hv⟩ | ⟨c, he, hv⟩
    · exact ⟨v, he, k v w' hv⟩
    · exact (kp c w' hv).elim
theorem RetP.pan {f : FuncId} {args : List Value} {Φ : Value → World → Prop} {Ψ Ψ' : List PanicEntry → World → Prop} (h : RetP P f args w Φ Ψ) (k : ∀ v w', Φ v w' → False) (kp : ∀ c w', Ψ c w' → Ψ' c w') : Pan P f args w Ψ' :=
  Calls.mono h fun e w' he => by
    rcases he with ⟨v, he, hv⟩ | ⟨c, he, hv⟩
    · exact (k v w' hv).elim
    · exact ⟨c, he, kp c w' hv⟩
theorem s_panic {t : TypeId} {u : Value} (hx : (st n L σ ds).eval x = .iface t u) (k : Q (.panic [⟨.iface t u, false, false⟩]) (st n L σ ds) w) :
    wpList P ops (Exit.then N Q) (⟨none, .panic x, ty, pos, af, none⟩ :: rest) (st n L σ ds) w := by
  refine wpList_plain rfl fun K hK => ?_
  unfold Oper.wp
  have : (execOp (st n L σ ds).eval ⟨none, .panic x, ty, pos, af, none⟩).run P w = .halt (.panic (.iface t u)) w := by
    simp only [execOp, hx]
    simp [Instr.panic]
  rw [this, Oper.upon_panic]
  exact k
theorem s_pan {f : FuncId} {xs : List Operand} {vs : List Value} {ats : Array TypeId} {Ψ : List PanicEntry → World → Prop} (hx : Evs (st n L σ ds).eval xs vs) (hcf : ∀ args w, (callFunc f args).run P w = .ok (.enter f args) w)
    (hc : Pan P f vs w Ψ) (k : ∀ c w', Ψ c w' → Q (.panic c) (st n L σ ds) w') :
    wpList P ops (Exit.then N Q) (⟨dst, .call { callee := .value (.func f), args := xs.toArray, argTypes := ats }, ty, pos, af, none⟩ :: rest) (st n L σ ds) w := by
  refine wpList_plain rfl fun K hK => ?_
  unfold Oper.wp
  rw [x_call hx hcf, Oper.upon_enter]
  refine Calls.mono hc fun e w' he => ?_
  obtain ⟨c, rfl, hv⟩ := he
  exact k c w' hv
theorem k_endP {P : Program} {fn : Func} {Φ : Value → World → Prop} {Ψ : List PanicEntry → World → Prop} {n : Nat} {L : Env} {σ : Nat → Value} {w : World} {rs : List ResultVar} {vs : List Value} {v : Value}
    (hr : fn.results = rs.toArray) (h : Res P w (ov L σ) n rs vs) (hv : pack vs = v) (k : Φ v w) :
    bodyPost P fn (fun e w' => (∃ v, e = .returned v ∧ Φ v w') ∨ (∃ c, e = .panicked c ∧ Ψ c w')) .ret (st n L σ []) w :=
  ⟨rfl, v, by rw [← hv]; exact res_run h hr, .inl ⟨v, rfl, k⟩⟩
theorem k_endPn {P : Program} {fn : Func} {Φ : Value → World → Prop} {Ψ : List PanicEntry → World → Prop} {n : Nat} {L : Env} {σ : Nat → Value} {w : World} {rs : List ResultVar} {vs : List Value} {v : Value}
    (hr : fn.results = rs.toArray) (h : Res P w (ov L σ) n rs vs) (hv : pack vs = v) (k : Φ v w) :
    bodyPost P fn (fun e w' => (∃ v, e = .returned v ∧ Φ v w') ∨ (∃ c, e = .panicked c ∧ Ψ c w')) .normal (st n L σ []) w :=
  ⟨rfl, v, by rw [← hv]; exact res_run h hr, .inl ⟨v, rfl, k⟩⟩
theorem e_makeIface {t : TypeId} {td : TypeDesc} (hx : a.eval x = v) (hu : UT P t td) (h : (match td with | .interface _ => false | _ => true) = true) : (execOp a.eval ⟨dst, .makeInterface t x, ty, pos, af, gd⟩).run P w = .ok (.value (.iface t v)) w := by
  simp only [execOp, hx]
  cases td <;> first | (simp at h; done) | simp [Instr.makeInterface, Sem.run_bind, hu w]
end
/-! ### cuts -/
section
variable {P : Program} {w : World} {ty : TypeId} {pos : String} {af : Array Edge} {x : Operand} {gd : Option (Nat × Bool)} {dst : Option Tmp} {a : Act} {α : Type} {E : Enc α} {I F : Nat → Prop} {wr wf : World}
/-- A cut, as it is carried out. -/
def Ct (P : Program) (t : TypeId) (A : Option Addr) (m c : Nat) (kl kh : IntKind) (l h : Int) (A' : Option Addr) (m' c' : Nat) : Prop :=
  ∀ {a : Act} {w : World} {dst : Option Tmp} {x : Operand} {lo hi : Option Operand} {ty : TypeId} {pos : String} {af : Array Edge} {gd : Option (Nat × Bool)}, a.eval x = .slice A m c →
    ((lo.map a.eval = some (.int kl l)) ∨ (lo = none ∧ l = 0)) → ((hi.map a.eval = some (.int kh h)) ∨ (hi = none ∧ h = (m : Int))) →
    (execOp a.eval ⟨dst, .slice t x lo hi none, ty, pos, af, gd⟩).run P w = .ok (.value (.slice A' m' c')) w
theorem ct_S {t e : TypeId} {A : Option Addr} {c : Nat} {xs : List α} {l h : Int} {kl kh : IntKind} (hu : UT P t (.slice e)) (hs : SZ P e E.sz) (hb : 0 ≤ l ∧ l ≤ h ∧ h ≤ (xs.length : Int)) (hr : RdS E I wr A c xs) :
    ∃ A', RdS E I wr A' (c - l.toNat) ((xs.drop l.toNat).take (h.toNat - l.toNat)) ∧ Ct P t A xs.length c kl kh l h A' ((xs.drop l.toNat).take (h.toNat - l.toNat)).length (c - l.toNat) := by
  obtain ⟨b0, b1, b2⟩ := hb
  have hc := hr.len
  refine ⟨if c = l.toNat then A else A.map (·.add (l.toNat * E.sz)), (hr.drop (k := l.toNat) (by omega) _ rfl).take (by rw [List.length_drop]; omega), ?_⟩
  intro a w dst x lo hi ty pos af gd hx hlo hhi
  have e0 : 0 ≤ h := by omega
  have hl : ((xs.drop l.toNat).take (h.toNat - l.toNat)).length = h.toNat - l.toNat := by
    rw [List.length_take, List.length_drop]; omega
  rw [hl]
  have g1 : h ≤ (c : Int) := by omega
  simp only [execOp, hx, Option.map_none]
  rcases hlo with hlo | ⟨rfl, rfl⟩ <;> rcases hhi with hhi | ⟨rfl, rfl⟩ <;>
    simp [Instr.sliceAt, Instr.slice, Instr.sliceBounds, Instr.sliceBound, Sem.run_bind, hu w, hs w, asIntOf, *] <;> (try omega)
theorem ct_D {t e : TypeId} {A : Option Addr} {c : Nat} {xs : List α} {l h : Int} {kl kh : IntKind} (hu : UT P t (.slice e)) (hs : SZ P e E.sz) (hb : 0 ≤ l ∧ l ≤ (xs.length : Int) ∧ (xs.length : Int) ≤ (xs.length : Int)) (hr : RdS E I wr A c xs) (hh : h = (xs.length : Int) := by rfl) :
    ∃ A', RdS E I wr A' (c - l.toNat) (xs.drop l.toNat) ∧ Ct P t A xs.length c kl kh l h A' (xs.drop l.toNat).length (c - l.toNat) := by
  subst hh
  have h1 := ct_S (h := (xs.length : Int)) (kl := kl) (kh := kh) (P := P) hu hs hb hr
  have : (xs.drop l.toNat).take ((xs.length : Int).toNat - l.toNat) = xs.drop l.toNat := List.take_of_length_le (by rw [List.length_drop]; omega)
  rwa [this] at h1
end
end Go.Proofs.Ytcnchjlomcafeaa.B
