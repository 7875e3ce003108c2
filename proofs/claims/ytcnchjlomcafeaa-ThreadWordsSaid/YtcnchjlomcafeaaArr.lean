/- Arrays that lie in boxes. -/
import Derived.Test.YtcnchjlomcafeaaDraw
import Derived.Test.YtcnchjlomcafeaaMaps
set_option linter.unusedVariables false
set_option linter.unusedSimpArgs false
set_option linter.unusedSectionVars false
namespace Go.Proofs.Ytcnchjlomcafeaa.B
open Go Go.RowKit

section
variable {P : Program} {ops : Array Oper} {Q : Exit → Act → World → Prop} {n : Nat} {L : Env} {σ : Nat → Value} {ds : List Deferred} {w : World} {rest : List Oper}
variable {d : Nat} {ty : TypeId} {pos : String} {af : Array Edge} {v v1 v2 v3 : Value} {x y z : Operand} {gd : Option (Nat × Bool)} {dst : Option Tmp} {a : Act}
variable {M I F : Nat → Prop} {w0 wr wf : World} {R : List Rsc} {α : Type} {E : Enc α}

def vg [Inhabited α] {m : Nat} (u : Vector α m) (i : Int) : α := gi u.toList i
def vp {m : Nat} (u : Vector α m) (i : Int) (x : α) : Vector α m := u.setIfInBounds i.toNat x
theorem vp_toList {m : Nat} (u : Vector α m) (i : Int) (x : α) : (vp u i x).toList = u.toList.set i.toNat x := by
  simp [vp]
theorem segs {pre l vs : List Value} (m k sz : Nat) (hp : pre.length = m) (h : (l.drop k).take sz = vs) : ((pre ++ l).drop (m + k)).take sz = vs := by
  rw [List.drop_append, hp, Nat.add_sub_cancel_left, List.drop_of_length_le (by omega), List.nil_append]; exact h
theorem segu {pre l vs l' : List Value} (m k : Nat) (hp : pre.length = m) (h : l.take k ++ vs ++ l.drop (k + vs.length) = l') : (pre ++ l).take (m + k) ++ vs ++ (pre ++ l).drop (m + k + vs.length) = pre ++ l' := by
  have h1 : (pre ++ l).take (m + k) = pre ++ l.take k := by
    rw [List.take_append, hp, Nat.add_sub_cancel_left, List.take_of_length_le (by omega)]
  have h2 : (pre ++ l).drop (m + k + vs.length) = l.drop (k + vs.length) := by
    rw [Nat.add_assoc, List.drop_append, hp, Nat.add_sub_cancel_left, List.drop_of_length_le (by omega), List.nil_append]
  rw [h1, h2, ← h]; simp only [List.append_assoc]
theorem lenA {p q : List Value} {a b : Nat} (h : p.length = a) (k : q.length = b) : (p ++ q).length = a + b := by rw [List.length_append, h, k]
theorem arr_len {m : Nat} {u : Vector α m} {acs : List Value} (h : Reps E F wf u.toList acs) {k : Nat} (hk : m * E.sz = k) : acs.length = k := by
  rw [h.len, Vector.length_toList, hk]
theorem arr_at {b : Nat} {t : TypeId} {fz : Nat × Nat} {l pre acs post c : List Value} {off k sz : Nat} (h : w.heap[b]? = some (.cells l.toArray t fz)) (hl : l = pre ++ (acs ++ post)) (hp : pre.length = off) (hc : (acs.drop k).take sz = c) :
    CellsAt w ⟨b, off + k, none⟩ c := by
  subst hl
  intro j u hu
  rw [add_none]
  refine cell_at h ?_
  rw [← hc, List.getElem?_take] at hu
  split at hu
  · rw [List.getElem?_drop] at hu
    have hlt := (List.getElem?_eq_some_iff.1 hu).1
    simp only [List.getElem?_toArray]
    rw [List.getElem?_append_right (by omega), List.getElem?_append_left (by omega), ← hu]
    congr 1; omega
  · cases hu
theorem arr_elem [Inhabited α] {m : Nat} {u : Vector α m} {acs : List Value} {i : Int} (h : Reps E F wf u.toList acs) (hi : 0 ≤ i ∧ i < (m : Int)) : ∃ c, E.rep F wf (vg u i) c ∧ (acs.drop (i.toNat * E.sz)).take E.sz = c := by
  have hl : i.toNat < u.toList.length := by rw [Vector.length_toList]; omega
  obtain ⟨c, hc, he⟩ := h.get (List.getElem?_eq_getElem hl)
  refine ⟨c, ?_, he⟩
  have : vg u i = u.toList[i.toNat] := by simp only [vg, gi, List.getD_eq_getElem?_getD, List.getElem?_eq_getElem hl, Option.getD_some]
  rw [this]; exact hc
theorem e_aidx {t e : TypeId} {b off m sz : Nat} {i : Int} {k' : IntKind} (hx : a.eval x = .pointer (some ⟨b, off, none⟩)) (hy : a.eval y = .int k' i) (hu : UT P t (.array m e)) (hs : SZ P e sz) (hi : 0 ≤ i ∧ i < (m : Int)) :
    (execOp a.eval ⟨dst, .indexAddr t x y, ty, pos, af, gd⟩).run P w = .ok (.value (.pointer (some ⟨b, off + i.toNat * sz, none⟩))) w := by
  simp only [execOp, hx, hy]
  simp [Instr.indexAt, Instr.sureAddr, asIntOf, Sem.run_bind, hu w, hi, hs w, add_none]
/-- A store into an element of an array. -/
theorem s_storeA {t e : TypeId} [Inhabited α] {m b r off inn sz : Nat} {u : Vector α m} {l pre acs post c : List Value} {i : Int} {el : α} {vs : List Value} (can : List Value → List Value) (h : Hp M I w0 wr w R)
    (hx : (st n L σ ds).eval x = .pointer (some ⟨b, off + i.toNat * E.sz + inn, none⟩)) (hy : (st n L σ ds).eval y = v)
    (hv : v.cells = vs.toArray) (hs : SZ P t sz) (hvl : vs.length = sz) (h1 : vs.all one = true)
    (hi : R[r]? = some [(b, .cells l.toArray e (0, 0))]) (hl : l = pre ++ (acs ++ post)) (hcan : ∀ q, pre ++ (q ++ post) = can q) (hp : pre.length = off) (ho : Reps E F wf u.toList acs) (hlt : 0 ≤ i ∧ i < (m : Int)) (hoff : Nat.ble (inn + vs.length) E.sz = true)
    (hcs : (acs.drop (i.toNat * E.sz)).take E.sz = c) (hrep : E.rep F wf el (c.take inn ++ vs ++ c.drop (inn + vs.length)))
    (k : ∀ w' acs', Hp M I w0 wr w' (R.set r [(b, .cells (can acs').toArray e (0, 0))]) → Reps E F wf (vp u i el).toList acs' → wpList P ops Q rest (st n L σ ds) w') :
    wpList P ops Q (⟨none, .store t x y, ty, pos, af, none⟩ :: rest) (st n L σ ds) w := by
  have hoff := Nat.le_of_ble_eq_true hoff
  have hil : i.toNat < m := by omega
  have hal : acs.length = m * E.sz := by rw [ho.len, Vector.length_toList]
  have hfit : i.toNat * E.sz + E.sz ≤ m * E.sz := by rw [← Nat.succ_mul]; exact Nat.mul_le_mul_right _ hil
  have hcl : c.length = E.sz := by rw [← hcs, List.length_take, List.length_drop]; omega
  have hset := ho.set (i := i.toNat) (by rw [Vector.length_toList]; omega) hrep
  rw [← vp_toList] at hset
  generalize i.toNat = i' at *
  have hown := h.get hi (j := 0) (b := b) (o := .cells l.toArray e (0, 0)) rfl
  have hll : l.length = off + (m * E.sz + post.length) := by rw [hl]; simp only [List.length_append, hp, hal]
  obtain ⟨w', hr, a1, a2, a3, a4, a5, a6⟩ := run_storeCells (P := P) (b := b) (e := e) vs 0 (off + i' * E.sz + inn) l w hown (fun u hu => List.all_eq_true.1 h1 u hu) (by omega)
  rw [Nat.add_zero] at a6
  have hnew : l.take (off + i' * E.sz + inn) ++ vs ++ l.drop (off + i' * E.sz + inn + vs.length) = pre ++ ((acs.take (i' * E.sz) ++ (c.take inn ++ vs ++ c.drop (inn + vs.length)) ++ acs.drop (i' * E.sz + E.sz)) ++ post) := by
    have hacs : acs = acs.take (i' * E.sz) ++ (c ++ acs.drop (i' * E.sz + E.sz)) := by
      rw [← hcs, ← List.drop_drop, List.take_append_drop, List.take_append_drop]
    have h3 : (acs.take (i' * E.sz)).length = i' * E.sz := by rw [List.length_take]; omega
    have h4 := segu (pre := pre) (l := acs ++ post) (vs := vs) off (i' * E.sz + inn) hp (l' := (acs.take (i' * E.sz) ++ (c.take inn ++ vs ++ c.drop (inn + vs.length)) ++ acs.drop (i' * E.sz + E.sz)) ++ post) (by
      have h5 := segu (pre := acs.take (i' * E.sz)) (l := c ++ (acs.drop (i' * E.sz + E.sz) ++ post)) (vs := vs) (i' * E.sz) inn h3 (l' := (c.take inn ++ vs ++ c.drop (inn + vs.length)) ++ (acs.drop (i' * E.sz + E.sz) ++ post)) (by
        have e1 : (c ++ (acs.drop (i' * E.sz + E.sz) ++ post)).take inn = c.take inn := by rw [List.take_append, show inn - c.length = 0 by omega, List.take_zero, List.append_nil]
        have e2 : (c ++ (acs.drop (i' * E.sz + E.sz) ++ post)).drop (inn + vs.length) = c.drop (inn + vs.length) ++ (acs.drop (i' * E.sz + E.sz) ++ post) := by rw [List.drop_append, show inn + vs.length - c.length = 0 by omega, List.drop_zero]
        rw [e1, e2]; simp only [List.append_assoc])
      have e3 : acs ++ post = acs.take (i' * E.sz) ++ (c ++ (acs.drop (i' * E.sz + E.sz) ++ post)) := by
        conv => lhs; rw [hacs]
        simp only [List.append_assoc]
      rw [e3, h5]; simp only [List.append_assoc])
    rw [hl, show off + i' * E.sz + inn = off + (i' * E.sz + inn) by omega]
    exact h4
  have h2 := h.upd hi (j := 0) rfl a1 a2 a3 a4 a5 a6
  rw [hnew, hcan] at h2
  refine su rfl rfl ?_ (k w' _ h2 hset)
  simp only [execOp, hx, hy]
  simp [Instr.storeAt, Instr.sureAddr, storeVar, Sem.run_bind, hs w, hv, hvl, hr]
end
end Go.Proofs.Ytcnchjlomcafeaa.B
