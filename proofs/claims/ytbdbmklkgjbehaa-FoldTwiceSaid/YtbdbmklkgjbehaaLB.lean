/- LB: several texts in one. -/
import Derived.Test.YtbdbmklkgjbehaaLA
import Derived.ArgAppend
import Derived.Laws.FloatArith
import Derived.Laws.LoneSync
import Derived.Laws.BitsAllLaws
set_option linter.unusedVariables false
set_option linter.unusedSimpArgs false
set_option linter.unusedSectionVars false
namespace Go.Proofs.Ytbdbmklkgjbehaa.B
open Go Go.RowKit

structure Wp (I : Nat → Prop) (wr : World) (S : List Rsc) (mk : List Nat) (w : World) : Prop where
  imm : ∀ k, I k → w.heap[k]? = wr.heap[k]?
  own : ∀ r ∈ mk, ∀ p ∈ S.getD r [], w.heap[p.1]? = some p.2
section
variable {M I : Nat → Prop} {w0 wr w : World} {R S : List Rsc} {mk : List Nat} {α : Type} {E : Enc α}
theorem Wp.of (h : Hp M I w0 wr w R) (idx : List Nat) (hS : idx.map (fun i => R.getD i []) = mk.map (fun i => S.getD i [])) : Wp I wr S mk w := by
  refine ⟨h.imm, fun r hr p hp => ?_⟩
  have : S.getD r [] ∈ mk.map (fun i => S.getD i []) := List.mem_map.2 ⟨r, hr, rfl⟩
  rw [← hS] at this
  obtain ⟨i, _, he⟩ := List.mem_map.1 this
  rw [← he] at hp
  by_cases hi : i < R.length
  · rw [List.getD_eq_getElem?_getD, List.getElem?_eq_getElem hi] at hp
    exact h.own p (List.mem_flatten.2 ⟨R[i], List.getElem_mem hi, hp⟩)
  · rw [List.getD_eq_getElem?_getD, List.getElem?_eq_none (by omega)] at hp; simp at hp
theorem Wp.down {I' : Nat → Prop} {wr' : World} (u : Up I wr I' wr') (h : Wp I' wr' S mk w) : Wp I wr S mk w := ⟨fun k hk => (h.imm k (u k hk).1).trans (u k hk).2, h.own⟩
theorem Wp.sub {mk' : List Nat} (h : Wp I wr S mk w) (hs : mk'.all mk.contains = true) : Wp I wr S mk' w :=
  ⟨h.imm, fun r hr => h.own r (List.contains_iff_mem.1 (List.all_eq_true.1 hs r hr))⟩
theorem Wp.get (h : Wp I wr S mk w) {i j b : Nat} {r : Rsc} {o : Obj} (hi : S[i]? = some r) (hj : r[j]? = some (b, o)) (hb : mk.contains i = true := by decide) : w.heap[b]? = some o :=
  h.own i (List.contains_iff_mem.1 hb) (b, o) (by rw [List.getD_eq_getElem?_getD, hi]; exact List.mem_of_getElem? hj)
theorem Wp.ep {a : Addr} {cs : List Value} (h : Wp I wr S mk w) (e : EP I wr a cs) : CellsAt w a cs := e.cells.block (h.imm _ e.at_)
theorem Hp.ep {a : Addr} {cs : List Value} (h : Hp M I w0 wr w R) (e : EP I wr a cs) : CellsAt w a cs := e.now h
theorem Wp.oa {X : Rsc} {a : Addr} {cs : List Value} {i : Nat} (h : Wp I wr S mk w) (o : OA X a cs) (hi : S[i]? = some X) (hb : mk.contains i = true := by decide) : CellsAt w a cs := o w fun p hq => h.own i (List.contains_iff_mem.1 hb) p (by rw [List.getD_eq_getElem?_getD, hi]; exact hq)
theorem Hp.oa {X : Rsc} {a : Addr} {cs : List Value} {i : Nat} (h : Hp M I w0 wr w R) (o : OA X a cs) (hi : R[i]? = some X) : CellsAt w a cs := o.now h hi
section
variable {β : Type} {kk : IntKind} {ev : β → Value} {A : Option Nat} {m : List (Int × β)} {X : Rsc}
theorem Wp.rdm (h : Wp I wr S mk w) (r : RdM kk ev I wr A m) : RdM kk ev I w A m := r.up fun k hk => ⟨hk, h.imm k hk⟩
theorem Hp.rdm (h : Hp M I w0 wr w R) (r : RdM kk ev I wr A m) : RdM kk ev I w A m := r.now h
theorem Wp.ownm {i : Nat} (h : Wp I wr S mk w) (o : OwnM kk ev A m X) (hi : S[i]? = some X) (hb : mk.contains i = true := by decide) : RdM kk ev (Cov I S) w A m := by
  obtain ⟨r, es, c, h1, h2, h3⟩ := o
  subst h2
  have hm : (r, Obj.map es c) ∈ S.flatten := List.mem_flatten.2 ⟨_, List.mem_of_getElem? hi, List.mem_singleton.2 rfl⟩
  exact .inr ⟨r, es, c, h1, .inr ⟨_, hm, rfl⟩, h.own i (List.contains_iff_mem.1 hb) (r, Obj.map es c) (by rw [List.getD_eq_getElem?_getD, hi]; exact List.mem_singleton.2 rfl), h3⟩
theorem Hp.ownm {i : Nat} (h : Hp M I w0 wr w R) (o : OwnM kk ev A m X) (hi : R[i]? = some X) : RdM kk ev (Cov I R) w A m := o.rd h hi
end
end

section
variable {P : Program} {ops : Array Oper} {Q : Exit → Act → World → Prop} {W : Nat → World → Prop} {V : World → Prop}
def wpW (W : Nat → World → Prop) (P : Program) (ops : Array Oper) (Q : Exit → Act → World → Prop) : Nat → Array Bool → Act → World → Prop
  | 0, listed, a, w => Region.ready .any ops listed = [] ∧ Q .normal a w
  | fuel + 1, listed, a, w => (Region.ready .any ops listed = [] → Q .normal a w) ∧
    ∀ i ∈ Region.ready .any ops listed, wpOp P ops Q i (fun a' w' => W i w' ∧ wpW W P ops Q fuel (listed.setIfInBounds i true) a' w') a w
theorem wpW_any : ∀ (fuel : Nat) (listed : Array Bool) (a : Act) (w : World), wpW W P ops Q fuel listed a w → wpAny P .any ops Q fuel listed a w
  | 0, _, _, _, h => h
  | fuel + 1, listed, a, w, h => ⟨h.1, fun i hi => wpOp_mono (fun a' w' h' => wpW_any fuel _ a' w' h'.2) (h.2 i hi)⟩
def YW (V : World → Prop) (P : Program) (ops : Array Oper) (o : Oper) (v : Value) (a : Act) : Prop :=
  (Region.wanted o (yielded ops a.tmps) = true ∧ ∀ w, V w → (execOp a.eval o).run P w = .ok (.value v) w) ∨
  (Region.wanted o (yielded ops a.tmps) = false ∧ v = undef)
theorem YW.op {i : Nat} {o : Oper} {v : Value} {a : Act} {w : World} (hW : V w) (hi : ops[i]? = some o) (hy : YW V P ops o v a) {K : Act → World → Prop} (h : K (a.put o.dst v) w) : wpOp P ops Q i K a w := by
  unfold wpOp
  simp only [hi]
  rcases hy with ⟨hw, hv⟩ | ⟨hw, rfl⟩
  · simp only [hw, if_true, Oper.wp, hv w hW, Oper.upon]; exact .inl h
  · simp only [hw, Bool.false_eq_true, if_false]; exact h
def Lk (ops : Array Oper) (o : Oper) (a a' : Act) : Prop := execOp a'.eval o = execOp a.eval o ∧ Region.wanted o (yielded ops a'.tmps) = Region.wanted o (yielded ops a.tmps)
theorem YW.lk {o : Oper} {v : Value} {a a' : Act} (hy : YW V P ops o v a) (h : Lk ops o a a') : YW V P ops o v a' := by
  unfold YW at *
  rw [h.1, h.2]; exact hy
theorem wpOp_late {j : Nat} {oi oj : Oper} {v : Value} (hj : ops[j]? = some oj) (hap : oi.apart ops oj = true) (hsi : ∀ cs b, oi.op ≠ .select cs b) (hsj : ∀ cs b, oj.op ≠ .select cs b)
    (hQ : ∀ c a w, Q (.panic c) (a.put oi.dst v) w → Q (.panic c) a w) {K : Act → World → Prop} {a : Act} {w : World} (h : wpOp P ops Q j K (a.put oi.dst v) w) :
    wpOp P ops Q j (fun a' w' => Lk ops oi a a' ∧ K (a'.put oi.dst v) w') a w := by
  obtain ⟨h1, h2, h3⟩ := Oper.apart_spec hap
  have keep : ∀ u, Lk ops oi a (a.put oj.dst u) := fun u => ⟨execOp_put oi hsi a oj.dst u h3, wanted_put oi a oj.dst u h3⟩
  have keepD : ∀ d u, Lk ops oi a ({ a with defers := d :: a.defers }.put oj.dst u) := fun d u =>
    ⟨(execOp_put oi hsi { a with defers := d :: a.defers } oj.dst u h3).trans rfl, (wanted_put oi { a with defers := d :: a.defers } oj.dst u h3).trans rfl⟩
  unfold wpOp at *
  simp only [hj] at *
  rw [wanted_put oj a oi.dst v h1] at h
  split
  · rename_i hw
    simp only [hw, if_true] at h
    rcases h with h | ⟨hasks, hlets⟩
    case inr => exact .inr ⟨by unfold Oper.asks at *; rw [execOp_put oj hsj a oi.dst v h1] at hasks; exact hasks, hlets⟩
    refine .inl ?_
    unfold Oper.wp at *
    rw [execOp_put oj hsj a oi.dst v h1] at h
    generalize (execOp a.eval oj).run P w = r at *
    cases r with
    | ok n w' =>
      cases n <;> simp only [Oper.upon] at h ⊢
      case value u => exact ⟨keep u, by rw [← Act.put_comm a v u h2]; exact h⟩
      case skip => exact ⟨keep _, by rw [← Act.put_comm a v undef h2]; exact h⟩
      case defer d =>
        refine ⟨keepD d _, ?_⟩
        rw [← Act.put_comm _ v undef h2, ← Act.put_defers]
        exact h
      case enter f args =>
        refine Calls.mono h fun e w'' he => ?_
        cases e with
        | returned u => exact ⟨keep u, by rw [← Act.put_comm a v u h2]; exact he⟩
        | panicked c => exact hQ _ _ _ he
        | outgrown => exact he
      case row row args => exact Rows.mono h fun u w'' he => ⟨keep u, by rw [← Act.put_comm a v u h2]; exact he⟩
    | halt x w' =>
      cases x <;> simp only [Oper.upon] at h ⊢
      case panic u => exact hQ _ _ _ h
  · rename_i hw
    simp only [hw] at h
    exact ⟨keep _, by rw [← Act.put_comm a v undef h2]; exact h⟩
inductive TR (ops : Array Oper) : Nat → Nat → Prop
  | one {j : Nat} {o : Oper} {e : Edge} (h : ops[j]? = some o) (he : e ∈ o.after) (hb : Region.binds .any e = true) : TR ops j e.on
  | step {j i : Nat} {o : Oper} {e : Edge} (h : ops[j]? = some o) (he : e ∈ o.after) (hb : Region.binds .any e = true) (k : TR ops e.on i) : TR ops j i
def Cl (ops : Array Oper) (listed : Array Bool) : Prop := ∀ k o, ops[k]? = some o → listed.getD k false = true → ∀ e ∈ o.after, Region.binds .any e = true → listed.getD e.on false = true
theorem TR.listed {listed : Array Bool} (hc : Cl ops listed) {k i : Nat} (h : TR ops k i) : listed.getD k false = true → listed.getD i false = true := by
  induction h with
  | one h he hb => intro hl; exact hc _ _ h hl _ he hb
  | step h he hb _ ih => intro hl; exact ih (hc _ _ h hl _ he hb)
theorem TR.ready {listed : Array Bool} (hc : Cl ops listed) {j i : Nat} (h : TR ops j i) (hr : j ∈ Region.ready .any ops listed) : listed.getD i false = true := by
  obtain ⟨_, o, ho, hall⟩ := mem_ready.1 hr
  cases h with
  | one h he hb => rw [ho] at h; cases h; exact hall _ he hb
  | step h he hb k => rw [ho] at h; cases h; exact k.listed hc (hall _ he hb)
theorem Cl.set {listed : Array Bool} (hc : Cl ops listed) {j : Nat} (hr : j ∈ Region.ready .any ops listed) : Cl ops (listed.setIfInBounds j true) := by
  intro k o ho hl e he hb
  obtain ⟨_, oj, hoj, hall⟩ := mem_ready.1 hr
  by_cases hkj : k = j
  · subst hkj
    rw [hoj] at ho; cases ho
    exact getD_set_true (hall e he hb)
  · rw [getD_set_ne false (Ne.symm hkj)] at hl
    exact getD_set_true (hc k o ho hl e he hb)
theorem wpW_first {i : Nat} {oi : Oper} {v : Value} (hi : ops[i]? = some oi) (hsel : ∀ (j : Nat) (o : Oper) cs b, ops[j]? = some o → o.op ≠ .select cs b)
    (hQ : ∀ c a w, Q (.panic c) (a.put oi.dst v) w → Q (.panic c) a w) :
    ∀ (fuel : Nat) (listed : Array Bool) (a : Act) (w : World), V w → Cl ops listed →
      (∀ j oj, ops[j]? = some oj → j ≠ i → listed.getD j true = false → ¬ TR ops j i → oi.apart ops oj = true ∧ ∀ w', W j w' → V w') →
      i ∈ Region.ready .any ops listed → YW V P ops oi v a → W i w →
      wpW W P ops Q fuel (listed.setIfInBounds i true) (a.put oi.dst v) w → (∀ w', V w' → W i w') → wpW W P ops Q (fuel + 1) listed a w := by
  intro fuel
  induction fuel with
  | zero =>
    intro listed a w hV hcl hfree hr hy hWi H hVW
    refine ⟨fun h => (by rw [h] at hr; cases hr), fun j hj => ?_⟩
    by_cases hji : j = i
    · subst hji; exact hy.op hV hi ⟨hWi, H⟩
    · have := ready_mono hj hji
      rw [H.1] at this
      cases this
  | succ fuel ih =>
    intro listed a w hV hcl hfree hr hy hWi H hVW
    refine ⟨fun h => (by rw [h] at hr; cases hr), fun j hj => ?_⟩
    by_cases hji : j = i
    · subst hji; exact hy.op hV hi ⟨hWi, H⟩
    · have h1 := H.2 j (ready_mono hj hji)
      obtain ⟨hjun, oj, hoj, hall⟩ := mem_ready.1 hj
      have hnot : ¬ TR ops j i := fun ht => by
        have h1 := ht.ready hcl hj
        have h0 := (mem_ready.1 hr).1
        rcases Nat.lt_or_ge i listed.size with h' | h'
        · simp [h'] at h0 h1; rw [h0] at h1; cases h1
        · simp [Array.getElem?_eq_none h'] at h1
      have h2 := wpOp_late hoj (hfree j oj hoj hji hjun hnot).1 (fun cs b => hsel i oi cs b hi) (fun cs b => hsel j oj cs b hoj) hQ h1
      have hfree' : ∀ k ok, ops[k]? = some ok → k ≠ i → (listed.setIfInBounds j true).getD k true = false → ¬ TR ops k i → oi.apart ops ok = true ∧ ∀ w', W k w' → V w' := fun k ok hk hki hun hno => by
        refine hfree k ok hk hki ?_ hno
        by_cases hjk : j = k
        · subst hjk; exact hjun
        · rw [getD_set_ne true hjk] at hun; exact hun
      refine wpOp_mono (fun a' w' h3 => ?_) h2
      have hV' := (hfree j oj hoj hji hjun hnot).2 w' h3.2.1
      refine ⟨h3.2.1, ih (listed.setIfInBounds j true) a' w' hV' (hcl.set hj) hfree' (ready_mono hr (Ne.symm hji)) (hy.lk h3.1) (hVW w' hV') ?_ hVW⟩
      rw [Array.setIfInBounds_comm _ _ hji]
      exact h3.2.2
end

def lb (n m : Nat) : Array Bool := ((List.range n).map fun i => Nat.testBit m i).toArray
def PanOk (d : Nat) (Q : Exit → Act → World → Prop) : Prop := ∀ c (a : Act) v w, Q (.panic c) (a.put (some d) v) w → Q (.panic c) a w
section
variable {P : Program} {ol : List Oper} {N : Act → World → Prop} {Q : Exit → Act → World → Prop} {n : Nat} {L : Env} {σ : Nat → Value} {ds : List Deferred} {w : World} {W : Nat → World → Prop} {V : World → Prop}
theorem q_then {c : List PanicEntry} {a : Act} (h : Q (.panic c) a w) : Exit.then N Q (.panic c) a w := h
theorem po_body {d : Nat} {fn : Func} {R : Ending → World → Prop} : PanOk d (bodyPost P fn R) := fun c a v w h => by simpa [bodyPost, Act.put] using h
def rFree (d : Nat) (rs : List ResultVar) : Bool := rs.all fun r => match r with | .tmp t => !(Nat.beq t d) | .cell a _ => !(Nat.beq a d)
theorem mapM_cong {α β : Type} {f g : α → Sem β} : ∀ l : List α, (∀ x ∈ l, f x = g x) → l.mapM f = l.mapM g
  | [], _ => rfl
  | a :: r, h => by rw [List.mapM_cons, List.mapM_cons, h a List.mem_cons_self, mapM_cong r fun x hx => h x (List.mem_cons_of_mem _ hx)]
theorem getD_set {t : Array Value} {d j : Nat} {v u : Value} (h : Nat.beq j d = false) : (t.setIfInBounds d v).getD j u = t.getD j u := by
  have : d ≠ j := fun e => by subst e; simp [Nat.beq_refl] at h
  simp [Array.getD_eq_getD_getElem?, this]
theorem results_put {fn : Func} {rs : List ResultVar} {d : Nat} {t : Array Value} {v : Value} (hr : fn.results = rs.toArray) (h : rFree d rs = true) : results fn (t.setIfInBounds d v) = results fn t := by
  rw [results_eq, results_eq, hr]
  simp only [List.mapM_toArray]
  rw [mapM_cong (g := rv t)]
  intro x hx
  have := List.all_eq_true.1 h x hx
  cases x <;> simp only [Bool.not_eq_true'] at this <;> simp only [rv, getD_set this]
theorem leaves_eq {P' : Program} {fn : Func} {t t' : Array Value} {R : Ending → World → Prop} (h : results fn t = results fn t') : ∀ ds, Leaves P' fn t R ds = Leaves P' fn t' R ds
  | [] => by funext u w; cases u <;> simp [Leaves, h]
  | d :: ds => by funext u w; simp only [Leaves, leaves_eq h ds]
theorem po_bodyD {d : Nat} {fn : Func} {rs : List ResultVar} {R : Ending → World → Prop} (hr : fn.results = rs.toArray) (h : rFree d rs = true) : PanOk d (bodyPostD P fn R) := fun c a v w hq => by
  have e := leaves_eq (P' := P) (R := R) (results_put (t := a.tmps) (v := v) hr h)
  simp only [bodyPostD, Act.put] at hq ⊢
  rw [← e]
  exact hq
theorem po_x {d id : Nat} (h : PanOk d Q) : PanOk d (Qx id N Q) := fun c a v w hq => h c a v w hq
theorem po_then {d : Nat} (h : PanOk d Q) : PanOk d (Exit.then N Q) := fun c a v w hq => h c a v w hq
theorem k_any {M I : Nat → Prop} {w0 wr : World} {R : List Rsc} {id : Nat} (W : Nat → World → Prop) (hm : P.follows .mixedOrders = true) (h : Hp M I w0 wr w R) (len : Nat) (hl : ol.length = len)
    (k : ∀ w', Hp M I w0 wr w' R → wpW W P ol.toArray (Exit.then N Q) len (lb len 0) (st n L σ ds) w') : wk P (.region id ol.toArray true) N Q (st n L σ ds) w := by
  subst hl
  refine wp_region_any hm ?_
  have : Array.replicate ol.toArray.size false = lb ol.length 0 := by
    apply Array.ext
    · simp [lb]
    · intro i h1 h2; simp [lb]
  rw [this]
  have h2 := wpW_any _ _ _ _ (k { w with drawn := w.drawn + 1 } (h.drawn _))
  rw [show ol.toArray.size = ol.length by simp]
  exact h2
def opAt : List Oper → Nat → Option Oper
  | [], _ => none
  | o :: _, 0 => some o
  | _ :: r, j + 1 => opAt r j
theorem opAt_eq : ∀ (l : List Oper) (j : Nat), l[j]? = opAt l j
  | [], j => by simp [opAt]
  | o :: r, 0 => rfl
  | o :: r, j + 1 => by simp only [List.getElem?_cons_succ, opAt]; exact opAt_eq r j
def closedB (ol : List Oper) (m : Nat) : Nat → List Oper → Bool
  | _, [] => true
  | i, o :: r => (!Nat.testBit m i || o.after.all fun e => !Region.binds .any e || Nat.testBit m e.on) && closedB ol m (i + 1) r
def tmUp (o : Oper) (tm : List Nat) : Nat := o.after.toList.foldl (fun m e => bif Region.binds .any e then m ||| ((1 <<< e.on) ||| tm.getD e.on 0) else m) 0
def tmOk (tm : List Nat) : Nat → List Oper → Bool
  | _, [] => true
  | j, o :: r => Nat.beq (tmUp o tm ||| tm.getD j 0) (tmUp o tm) && (o.after.all fun e => !Region.binds .any e || Nat.blt e.on j) && tmOk tm (j + 1) r
def vOk (ol : List Oper) (m i : Nat) (oi : Oper) (mi : List Nat) (ms : List (List Nat)) (tm : List Nat) : Nat → List Oper → Bool
  | _, [] => true
  | j, o :: r => (Nat.beq j i || Nat.testBit m j || Nat.testBit (tm.getD j 0) i || (mi.all (ms.getD j []).contains && oi.apart ol.toArray o)) && vOk ol m i oi mi ms tm (j + 1) r
theorem closedB_get {m : Nat} : ∀ {l : List Oper} {k i : Nat} {o : Oper}, closedB ol m k l = true → l[i]? = some o → Nat.testBit m (k + i) = true → ∀ e ∈ o.after, Region.binds .any e = true → Nat.testBit m e.on = true := by
  intro l
  induction l with
  | nil => intro k i o _ hi; simp at hi
  | cons p r ih =>
    intro k i o h hi ht e he hb
    simp only [closedB, Bool.and_eq_true, Bool.or_eq_true] at h
    cases i with
    | zero =>
      simp at hi; subst hi
      rcases h.1 with h1 | h1
      · rw [Nat.add_zero] at ht; rw [ht] at h1; cases h1
      · have := Array.all_eq_true_iff_forall_mem.1 h1 e he
        rw [hb] at this; simpa using this
    | succ i => simp at hi; exact ih h.2 hi (by rw [show k + 1 + i = k + (i + 1) by omega]; exact ht) e he hb
theorem tmOk_get {tm : List Nat} : ∀ {l : List Oper} {k j : Nat} {o : Oper}, tmOk tm k l = true → l[j]? = some o → (tmUp o tm ||| tm.getD (k + j) 0) = tmUp o tm ∧ ∀ e ∈ o.after, Region.binds .any e = true → e.on < k + j := by
  intro l
  induction l with
  | nil => intro k j o _ hi; simp at hi
  | cons p r ih =>
    intro k j o h hi
    simp only [tmOk, Bool.and_eq_true] at h
    cases j with
    | zero =>
      simp at hi; subst hi
      refine ⟨Nat.eq_of_beq_eq_true h.1.1, fun e he hb => ?_⟩
      have := Array.all_eq_true_iff_forall_mem.1 h.1.2 e he
      rw [hb] at this; simpa [Nat.blt_eq] using this
    | succ j => simp at hi; have := ih h.2 hi; rw [show k + 1 + j = k + (j + 1) by omega] at this; exact this
theorem tm_reach {tm : List Nat} (h : tmOk tm 0 ol = true) {i : Nat} : ∀ j, j < ol.length → Nat.testBit (tm.getD j 0) i = true → TR ol.toArray j i := by
  intro j
  induction j using Nat.strongRecOn with
  | ind j ih =>
    intro hj ht
    obtain ⟨h1, h2⟩ := tmOk_get h (List.getElem?_eq_getElem hj)
    rw [Nat.zero_add] at h1 h2
    have ho : ol.toArray[j]? = some ol[j] := by simp [hj]
    have h3 : Nat.testBit (tmUp ol[j] tm) i = true := by rw [← h1, Nat.testBit_or, ht, Bool.or_true]
    have key : ∀ (es : List Edge) (m : Nat), (∀ e ∈ es, e ∈ ol[j].after) → Nat.testBit (es.foldl (fun m e => bif Region.binds .any e then m ||| ((1 <<< e.on) ||| tm.getD e.on 0) else m) m) i = true → Nat.testBit m i = true ∨ TR ol.toArray j i := by
      intro es
      induction es with
      | nil => intro m _ h; exact .inl h
      | cons e r ihe =>
        intro m hsub h
        rw [List.foldl_cons] at h
        rcases ihe _ (fun e he => hsub e (by simp [he])) h with h4 | h4
        · cases hb : Region.binds .any e with
          | false => rw [hb] at h4; exact .inl h4
          | true =>
            rw [hb] at h4
            simp only [cond_true, Nat.testBit_or, Bool.or_eq_true] at h4
            have he := hsub e (by simp)
            rcases h4 with h4 | h4 | h4
            · exact .inl h4
            · rw [Nat.one_shiftLeft, Nat.testBit_two_pow] at h4
              have : e.on = i := by simpa using h4
              rw [← this]; exact .inr (.one ho he hb)
            · have hlt := h2 e he hb
              exact .inr (.step ho he hb (ih e.on hlt (by omega) h4))
        · exact .inr h4
    rcases key _ 0 (fun e he => by simpa using he) h3 with h4 | h4
    · simp at h4
    · exact h4
theorem vOk_get {m i : Nat} {oi : Oper} {mi : List Nat} {ms : List (List Nat)} {tm : List Nat} : ∀ {l : List Oper} {k j : Nat} {o : Oper}, vOk ol m i oi mi ms tm k l = true → l[j]? = some o →
    (Nat.beq (k + j) i || Nat.testBit m (k + j) || Nat.testBit (tm.getD (k + j) 0) i || (mi.all (ms.getD (k + j) []).contains && oi.apart ol.toArray o)) = true := by
  intro l
  induction l with
  | nil => intro k j o _ hi; simp at hi
  | cons p r ih =>
    intro k j o h hi
    simp only [vOk, Bool.and_eq_true] at h
    cases j with
    | zero => simp at hi; subst hi; exact h.1
    | succ j => simp at hi; have := ih h.2 hi; rw [show k + 1 + j = k + (j + 1) by omega] at this; exact this
abbrev WF (I : Nat → Prop) (wr : World) (S : List Rsc) (ms : List (List Nat)) (tm : List Nat) (j : Nat) (w : World) : Prop := Wp I wr S (ms.getD j []) w
theorem w_take {I : Nat → Prop} {wr : World} {S : List Rsc} {ms : List (List Nat)} {tm : List Nat} {d : Nat} {op : Op} {ty : TypeId} {pos : String} {af : Array Edge} {gd : Option (Nat × Bool)} {v : Value} {f len m m' : Nat} (i : Nat) (hi : opAt ol i = some ⟨some d, op, ty, pos, af, gd⟩) (hn : Nat.blt d n = true) (hs : Region.noSelect ol.toArray = true)
    (hcb : closedB ol m 0 ol = true) (hr : (Region.ready .any ol.toArray (lb len m)).contains i = true) (hm : (lb len m).setIfInBounds i true = lb len m') (hlen : ol.length = len) (hT : tmOk tm 0 ol = true) (hv : vOk ol m i ⟨some d, op, ty, pos, af, gd⟩ (ms.getD i []) ms tm 0 ol = true)
    (hQ : PanOk d Q) (hW : Wp I wr S (ms.getD i []) w) (hy : YW (Wp I wr S (ms.getD i [])) P ol.toArray ⟨some d, op, ty, pos, af, gd⟩ v (st n L σ ds))
    (k : wpW (WF I wr S ms tm) P ol.toArray Q f (lb len m') (st n ((d, v) :: L) σ ds) w) : wpW (WF I wr S ms tm) P ol.toArray Q (f + 1) (lb len m) (st n L σ ds) w := by
  subst hlen
  have hi' : ol.toArray[i]? = some ⟨some d, op, ty, pos, af, gd⟩ := by simpa [opAt_eq] using hi
  have hlb : ∀ i, i < ol.length → ∀ b, (lb ol.length m).getD i b = Nat.testBit m i := fun i h b => by simp [lb, h]
  have hcl : Cl ol.toArray (lb ol.length m) := by
    intro k o ho hl e he hb
    have ho' : ol[k]? = some o := by simpa using ho
    have hk := (List.getElem?_eq_some_iff.1 ho').1
    rw [hlb k hk] at hl
    have h1 := closedB_get hcb ho' (by rw [Nat.zero_add]; exact hl) e he hb
    have h2 := (tmOk_get hT ho').2 e he hb
    rw [hlb _ (by omega)]; exact h1
  refine wpW_first (V := Wp I wr S (ms.getD i [])) hi' (Region.noSelect_spec hs) (fun c a w h => hQ c a v w h) f (lb ol.length m) _ w hW hcl (fun j oj hj hji hun hno => ?_) (by simpa using hr) hy hW ?_ (fun _ h => h)
  · have hol : ol[j]? = some oj := by simpa using hj
    have h1 := vOk_get (ol := ol) hv hol
    rw [Nat.zero_add] at h1
    have hjl := (List.getElem?_eq_some_iff.1 hol).1
    have h2 : Nat.testBit m j = false := by rw [hlb j hjl] at hun; exact hun
    have h3 : Nat.beq j i = false := by
      cases hb : Nat.beq j i
      · rfl
      · exact absurd (Nat.eq_of_beq_eq_true hb) hji
    have h4 : Nat.testBit (tm.getD j 0) i = false := by
      cases ho : Nat.testBit (tm.getD j 0) i
      · rfl
      · exact absurd (tm_reach hT j hjl ho) hno
    rw [h2, h3, h4] at h1
    simp only [Bool.false_or, Bool.and_eq_true] at h1
    exact ⟨h1.2, fun w' hw' => hw'.sub h1.1⟩
  · rw [hm]
    show wpW (WF I wr S ms tm) P ol.toArray Q f (lb ol.length m') ((st n L σ ds).put (some d) v) w
    rw [put_st hn]
    exact k
theorem w_one {o : Oper} {f len m m' : Nat} (i : Nat) (hi : opAt ol i = some o) (hr : Region.ready .any ol.toArray (lb len m) = [i]) (hm : (lb len m).setIfInBounds i true = lb len m')
    (k : wpList P ol.toArray (Exit.then (fun a' w' => W i w' ∧ wpW W P ol.toArray Q f (lb len m') a' w') Q) [o] (st n L σ ds) w) : wpW W P ol.toArray Q (f + 1) (lb len m) (st n L σ ds) w := by
  have hi' : ol.toArray[i]? = some o := by simpa [opAt_eq] using hi
  refine ⟨fun h => (by rw [hr] at h; cases h), fun j hj => ?_⟩
  rw [hr] at hj
  obtain rfl : j = i := by simpa using hj
  refine wpOp_of_list hi' ?_
  rw [hm]
  exact k
theorem w_done {f len m : Nat} {a : Act} (hr : Region.ready .any ol.toArray (lb len m) = []) (k : N a w) : wpW W P ol.toArray (Exit.then N Q) f (lb len m) a w := by
  cases f with
  | zero => exact ⟨hr, k⟩
  | succ f => exact ⟨fun _ => k, by rw [hr]; simp⟩
theorem y_val {d : Nat} {op : Op} {ty : TypeId} {pos : String} {af : Array Edge} {v : Value} (h : ∀ w, V w → (execOp (st n L σ ds).eval ⟨some d, op, ty, pos, af, none⟩).run P w = .ok (.value v) w) :
    YW V P ol.toArray ⟨some d, op, ty, pos, af, none⟩ v (st n L σ ds) := .inl ⟨rfl, h⟩
theorem wanted_g {d : Option Nat} {op : Op} {ty : TypeId} {pos : String} {af : Array Edge} {j dj : Nat} {want b : Bool} (hj : dstAt ol j = some dj) (hn : Nat.blt dj n = true) (hv : ov L σ dj = .bool b) :
    Region.wanted ⟨d, op, ty, pos, af, some (j, want)⟩ (yielded ol.toArray (st n L σ ds).tmps) = (b == want) := by
  have hj' : (ol[j]?).bind (·.dst) = some dj := by rw [dstAt_eq]; exact hj
  simp [Region.wanted, yielded, hj', fr_get (blt hn), hv]
theorem y_on {d : Nat} {op : Op} {ty : TypeId} {pos : String} {af : Array Edge} {j dj : Nat} {want : Bool} {v : Value} (hj : dstAt ol j = some dj) (hn : Nat.blt dj n = true) (hv : ov L σ dj = .bool want)
    (h : ∀ w, V w → (execOp (st n L σ ds).eval ⟨some d, op, ty, pos, af, some (j, want)⟩).run P w = .ok (.value v) w) : YW V P ol.toArray ⟨some d, op, ty, pos, af, some (j, want)⟩ v (st n L σ ds) :=
  .inl ⟨by rw [wanted_g hj hn hv]; simp, h⟩
theorem y_off {d : Nat} {op : Op} {ty : TypeId} {pos : String} {af : Array Edge} {j dj : Nat} {want : Bool} (hj : dstAt ol j = some dj) (hn : Nat.blt dj n = true) (hv : ov L σ dj = .bool (!want)) : YW V P ol.toArray ⟨some d, op, ty, pos, af, some (j, want)⟩ undef (st n L σ ds) :=
  .inr ⟨by rw [wanted_g hj hn hv]; cases want <;> rfl, rfl⟩
theorem y_undef {d : Nat} {op : Op} {ty : TypeId} {pos : String} {af : Array Edge} {j dj : Nat} {want : Bool} (hj : dstAt ol j = some dj) (hn : Nat.blt dj n = true) (hv : ov L σ dj = undef) : YW V P ol.toArray ⟨some d, op, ty, pos, af, some (j, want)⟩ undef (st n L σ ds) := by
  have hj' : (ol[j]?).bind (·.dst) = some dj := by rw [dstAt_eq]; exact hj
  exact .inr ⟨by simp [Region.wanted, yielded, hj', fr_get (blt hn), hv, undef], rfl⟩
theorem y_gp {d : Nat} {op : Op} {ty : TypeId} {pos : String} {af : Array Edge} {j dj : Nat} {want b G : Bool} {v : Value} (hj : dstAt ol j = some dj) (hn : Nat.blt dj n = true) (hv : ov L σ dj = .bool b) (hG : (b == want) = G)
    (h : G = true → ∀ w, V w → (execOp (st n L σ ds).eval ⟨some d, op, ty, pos, af, some (j, want)⟩).run P w = .ok (.value v) w) :
    YW V P ol.toArray ⟨some d, op, ty, pos, af, some (j, want)⟩ (bif G then v else undef) (st n L σ ds) := by
  cases G with
  | true => exact .inl ⟨by rw [wanted_g hj hn hv]; exact hG, h rfl⟩
  | false => exact .inr ⟨by rw [wanted_g hj hn hv]; exact hG, rfl⟩
theorem y_gpg {d : Nat} {op : Op} {ty : TypeId} {pos : String} {af : Array Edge} {j dj : Nat} {want b G G0 : Bool} {v : Value} (hj : dstAt ol j = some dj) (hn : Nat.blt dj n = true) (hv : ov L σ dj = bif G0 then .bool b else undef) (hG : (b == want) = G)
    (h : (G0 && G) = true → ∀ w, V w → (execOp (st n L σ ds).eval ⟨some d, op, ty, pos, af, some (j, want)⟩).run P w = .ok (.value v) w) :
    YW V P ol.toArray ⟨some d, op, ty, pos, af, some (j, want)⟩ (bif (G0 && G) then v else undef) (st n L σ ds) := by
  cases G0 with
  | true => exact y_gp hj hn hv hG h
  | false => exact y_undef hj hn hv
end

def updb (g : Nat → Nat) (i b j : Nat) : Nat := bif Nat.beq i j then b else g j
def updx (g : Nat → Rsc) (i : Nat) (X : Rsc) (j : Nat) : Rsc := bif Nat.beq i j then X else g j
structure PF where
  i : Nat
  slot : Option Nat
  fact : Nat → Rsc → Value → Prop
def pfAt : List PF → Nat → PF
  | [], i => ⟨i, none, fun _ _ _ => True⟩
  | f :: r, i => bif Nat.beq f.i i then f else pfAt r i
abbrev Jt := (Nat → Bool) → (Nat → Nat) → (Nat → Rsc) → World → Prop
def PF.at_ (f : PF) (gb : Nat → Nat) (gx : Nat → Rsc) (σ : Nat → Value) : Prop := f.fact (gb f.i) (gx f.i) (dval σ f.slot)
def Pcs (Φ : List PF) (gb : Nat → Nat) (gx : Nat → Rsc) (σ : Nat → Value) : List Nat → Prop
  | [] => True
  | j :: r => (pfAt Φ j).at_ gb gx σ ∧ Pcs Φ gb gx σ r
def PAll (gb : Nat → Nat) (gx : Nat → Rsc) (σ : Nat → Value) : List PF → Prop
  | [] => True
  | f :: r => f.at_ gb gx σ ∧ PAll gb gx σ r
inductive PSteps (P : Program) (ol : List Oper) (n : Nat) (L : Env) (ds : List Deferred) (J : Jt) (Q : Exit → Act → World → Prop) (Φ : List PF) : List PF → Prop
  | nil : PSteps P ol n L ds J Q Φ []
  | cons {f : PF} {o : Oper} {r : List PF} (pr pt np : List Nat) (ho : opAt ol f.i = some o) (hs : f.slot = o.dst) (hn : slotB n o.dst = true) (hp : predsOk o pr = true) (ht : predsOk o pt = true) (hq : succsOk ol f.i np = true)
      (h : ∀ σ fl gb gx w, J fl gb gx w → fl f.i = false → Fls fl true pt → Fls fl false np → Pcs Φ gb gx σ pr →
        wpList P ol.toArray (Exit.then (fun a w' => ∃ v b X, a = st n (pd o.dst v L) σ ds ∧ J (upd fl f.i) (updb gb f.i b) (updx gx f.i X) w' ∧ f.fact b X (dv o.dst v)) Q) [o] (st n L σ ds) w)
      (k : PSteps P ol n L ds J Q Φ r) : PSteps P ol n L ds J Q Φ (f :: r)

def pslotNot (d : Nat) : List PF → Bool
  | [] => true
  | f :: r => (match f.slot with | some d' => !(Nat.beq d' d) | none => true) && pslotNot d r
def pslotNotO : Option Nat → List PF → Bool
  | some d, r => pslotNot d r
  | none, _ => true
def pOk (L : Env) : List PF → Bool
  | [] => true
  | f :: r => keysNotO f.slot L && pslotNotO f.slot r && r.all (fun g => !(Nat.beq g.i f.i)) && pOk L r
def setOk (ol : List Oper) (bs : List Nat) (m : Nat) : Nat → List Oper → Bool
  | _, [] => true
  | i, o :: r => (Nat.testBit m i || (if bs.contains i then o.after.all (fun e => !Region.binds .any e || Nat.testBit m e.on || bs.contains e.on) else bs.all (onDraw o))) && setOk ol bs m (i + 1) r
def addAll (m : Nat) : List Nat → Nat
  | [] => m
  | i :: r => addAll (m ||| (1 <<< i)) r

section
variable {P : Program} {ol : List Oper} {n : Nat} {L : Env} {ds : List Deferred} {J : Jt} {Φ : List PF} {N : Act → World → Prop} {Q : Exit → Act → World → Prop} {W : Nat → World → Prop}
theorem setOk_get {bs : List Nat} {m : Nat} : ∀ {l : List Oper} {k i : Nat} {o : Oper}, setOk ol bs m k l = true → l[i]? = some o →
    Nat.testBit m (k + i) = true ∨ (if bs.contains (k + i) then o.after.all (fun e => !Region.binds .any e || Nat.testBit m e.on || bs.contains e.on) else bs.all (onDraw o)) = true := by
  intro l
  induction l with
  | nil => intro k i o _ hi; simp at hi
  | cons p r ih =>
    intro k i o h hi
    simp only [setOk, Bool.and_eq_true, Bool.or_eq_true] at h
    cases i with
    | zero => simp at hi; subst hi; exact h.1
    | succ i => simp at hi; have := ih h.2 hi; rw [show k + 1 + i = k + (i + 1) by omega] at this; exact this
theorem PSteps.get : ∀ {l : List PF} {f : PF}, PSteps P ol n L ds J Q Φ l → f ∈ l → ∃ o pr pt np, opAt ol f.i = some o ∧ f.slot = o.dst ∧ slotB n o.dst = true ∧ predsOk o pr = true ∧ predsOk o pt = true ∧ succsOk ol f.i np = true ∧
      ∀ σ fl gb gx w, J fl gb gx w → fl f.i = false → Fls fl true pt → Fls fl false np → Pcs Φ gb gx σ pr →
        wpList P ol.toArray (Exit.then (fun a w' => ∃ v b X, a = st n (pd o.dst v L) σ ds ∧ J (upd fl f.i) (updb gb f.i b) (updx gx f.i X) w' ∧ f.fact b X (dv o.dst v)) Q) [o] (st n L σ ds) w := by
  intro l
  induction l with
  | nil => intro f _ h; cases h
  | cons g r ih =>
    intro f h hf
    cases h with
    | cons pr pt np ho hs hn hp ht hq h hk =>
      rcases List.mem_cons.1 hf with rfl | hf
      · exact ⟨_, pr, pt, np, ho, hs, hn, hp, ht, hq, h⟩
      · exact ih hk hf
theorem pfAt_mem {Φ : List PF} {j : Nat} (h : j ∈ Φ.map (·.i)) : pfAt Φ j ∈ Φ ∧ (pfAt Φ j).i = j := by
  induction Φ with
  | nil => simp at h
  | cons f r ih =>
    unfold pfAt
    cases hb : Nat.beq f.i j with
    | true => exact ⟨List.mem_cons_self .., Nat.eq_of_beq_eq_true hb⟩
    | false =>
      simp only [List.map_cons, List.mem_cons] at h
      have hne : f.i ≠ j := fun e => by rw [e, Nat.beq_refl] at hb; cases hb
      obtain ⟨h1, h2⟩ := ih (h.resolve_left fun e => hne e.symm)
      exact ⟨List.mem_cons_of_mem _ h1, h2⟩
theorem pslotNot_ne {d d' : Nat} {Φ : List PF} (h : pslotNot d Φ = true) {f : PF} (hf : f ∈ Φ) (hd : f.slot = some d') : d' ≠ d := by
  induction Φ with
  | nil => cases hf
  | cons g r ih =>
    simp only [pslotNot, Bool.and_eq_true] at h
    rcases List.mem_cons.1 hf with rfl | hf
    · intro e; rw [hd, e] at h; simp at h
    · exact ih h.2 hf
theorem pOk_keys {Φ : List PF} (h : pOk L Φ = true) {f : PF} (hf : f ∈ Φ) {d : Nat} (hd : f.slot = some d) : keysNot d L = true := by
  induction Φ with
  | nil => cases hf
  | cons g r ih =>
    simp only [pOk, Bool.and_eq_true] at h
    rcases List.mem_cons.1 hf with rfl | hf
    · rw [hd] at h; exact h.1.1.1
    · exact ih h.2 hf
theorem pOk_inj {Φ : List PF} (h : pOk L Φ = true) {f g : PF} (hf : f ∈ Φ) (hg : g ∈ Φ) (he : f.i = g.i) : f = g := by
  induction Φ with
  | nil => cases hf
  | cons p r ih =>
    simp only [pOk, Bool.and_eq_true, List.all_eq_true] at h
    rcases List.mem_cons.1 hf with hf1 | hf1 <;> rcases List.mem_cons.1 hg with hg1 | hg1
    · rw [hf1, hg1]
    · have := h.1.2 g hg1; rw [← he, hf1, Nat.beq_refl] at this; simp at this
    · have := h.1.2 f hf1; rw [he, hg1, Nat.beq_refl] at this; simp at this
    · exact ih h.2 hf1 hg1
theorem pOk_ne {Φ : List PF} (h : pOk L Φ = true) {f g : PF} (hf : f ∈ Φ) (hg : g ∈ Φ) (hne : f.i ≠ g.i) {d d' : Nat} (hd : f.slot = some d) (hd' : g.slot = some d') : d ≠ d' := by
  induction Φ with
  | nil => cases hf
  | cons p r ih =>
    simp only [pOk, Bool.and_eq_true] at h
    rcases List.mem_cons.1 hf with hf1 | hf1 <;> rcases List.mem_cons.1 hg with hg1 | hg1
    · rw [hf1, hg1] at hne; exact absurd rfl hne
    · subst hf1; rw [hd] at h; exact fun e => pslotNot_ne h.1.1.2 hg1 hd' e.symm
    · subst hg1; rw [hd'] at h; exact pslotNot_ne h.1.1.2 hf1 hd
    · exact ih h.2 hf1 hg1
theorem Pcs_of {gb : Nat → Nat} {gx : Nat → Rsc} {σ : Nat → Value} : ∀ (pr : List Nat), (∀ j ∈ pr, (pfAt Φ j).at_ gb gx σ) → Pcs Φ gb gx σ pr
  | [], _ => trivial
  | j :: r, h => ⟨h j (by simp), Pcs_of r fun j hj => h j (by simp [hj])⟩
theorem PAll_of {gb : Nat → Nat} {gx : Nat → Rsc} {σ : Nat → Value} : ∀ (l : List PF), (∀ f ∈ l, f.at_ gb gx σ) → PAll gb gx σ l
  | [], _ => trivial
  | f :: r, h => ⟨h f (by simp), PAll_of r fun g hg => h g (by simp [hg])⟩

structure PJ (ol : List Oper) (n : Nat) (L : Env) (ds : List Deferred) (J : Jt) (Φ : List PF) (m : Nat) (listed : Array Bool) (a : Act) (w : World) : Prop where
  ex : ∃ σ gb gx, a = st n L σ ds ∧ J (fun j => listed.getD j false) gb gx w ∧ ∀ f ∈ Φ, listed.getD f.i false = true → f.at_ gb gx σ
  closed : ∀ i o, ol[i]? = some o → listed.getD i false = true → ∀ e ∈ o.after, Region.binds .any e = true → listed.getD e.on false = true
  base : ∀ i, Nat.testBit m i = true → i < ol.length → listed.getD i false = true
  only : ∀ i, listed.getD i false = true → Nat.testBit m i = true ∨ i ∈ Φ.map (·.i)
theorem par_step {m : Nat} (hsl : pOk L Φ = true) (hback : backOk ol 0 ol = true) (steps : PSteps P ol n L ds J Q Φ Φ) (hset : setOk ol (Φ.map (·.i)) m 0 ol = true) {f : PF} (hf : f ∈ Φ) {listed : Array Bool} (hsz : listed.size = ol.length)
    {a : Act} {w : World} (hJ : PJ ol n L ds J Φ m listed a w) (hr : f.i ∈ Region.ready .any ol.toArray listed) (hm : ∀ f ∈ Φ, Nat.testBit m f.i = false) :
    wpOp P ol.toArray Q f.i (PJ ol n L ds J Φ m (listed.setIfInBounds f.i true)) a w := by
  obtain ⟨⟨σ, gb, gx, rfl, hj, hfa⟩, hcl, hbase, honly⟩ := hJ
  obtain ⟨hun, o, ho, hall⟩ := mem_ready.1 hr
  have hol : ol[f.i]? = some o := by simpa using ho
  have hil : f.i < ol.length := (List.getElem?_eq_some_iff.1 hol).1
  have hiu : listed.getD f.i false = false := by
    have : listed.getD f.i true = listed.getD f.i false := by
      have h1 : f.i < listed.size := by omega
      simp [h1]
    rw [← this]; exact hun
  obtain ⟨o', pr, pt, np, ho', hs, hn, hp, ht, hq, h⟩ := steps.get hf
  rw [← opAt_eq, hol] at ho'
  obtain rfl := Option.some.inj ho'
  have hprl : ∀ {l : List Nat}, predsOk o l = true → ∀ j ∈ l, listed.getD j false = true := fun hl j hj => onDraw_listed (List.all_eq_true.1 hl j hj) hall
  have h1 := h σ (fun j => listed.getD j false) gb gx w hj hiu (Fls_of pt (hprl ht))
    (Fls_of np fun j hj => by
      have h2 := List.all_eq_true.1 hq j hj
      obtain ⟨oj, hoj⟩ := opOn_lt h2
      have h3 := opOn_get h2 hoj
      cases hl : listed.getD j false with
      | false => rfl
      | true =>
        have := onDraw_listed h3 (hcl j oj hoj hl)
        rw [hiu] at this; cases this)
    (Pcs_of pr fun j hj => by
      by_cases hmem : j ∈ Φ.map (·.i)
      · obtain ⟨h2, h3⟩ := pfAt_mem hmem
        exact hfa _ h2 (by rw [h3]; exact hprl hp j hj)
      · have hdef : pfAt Φ j = ⟨j, none, fun _ _ _ => True⟩ := by
          clear hfa hsl steps hset h hf hm honly
          induction Φ with
          | nil => rfl
          | cons g r ih =>
            simp only [List.map_cons, List.mem_cons, not_or] at hmem
            unfold pfAt
            have : Nat.beq g.i j = false := by
              cases hb : Nat.beq g.i j
              · rfl
              · exact absurd (Nat.eq_of_beq_eq_true hb).symm hmem.1
            rw [this]; exact ih hmem.2
        rw [hdef]; trivial)
  refine wpOp_mono (fun a' w' hq' => ?_) (wpOp_of_list ho h1)
  obtain ⟨v, b, X, rfl, hJ', hfact⟩ := hq'
  have hupd : (fun j => (listed.setIfInBounds f.i true).getD j false) = upd (fun j => listed.getD j false) f.i := by
    funext j
    unfold upd
    cases hb : Nat.beq f.i j with
    | false =>
      have : f.i ≠ j := fun e => by rw [e, Nat.beq_refl] at hb; cases hb
      simp only [cond_false]
      exact getD_set_ne false this
    | true =>
      have := Nat.eq_of_beq_eq_true hb; rw [← this]
      simp [hsz, hil]
  refine ⟨⟨fun t => match o.dst with | some d => bif Nat.beq d t then v else σ t | none => σ t, updb gb f.i b, updx gx f.i X, ?_, by rw [hupd]; exact hJ', fun g hg hlg => ?_⟩, fun j oj hoj hlj e he hb => ?_, fun j hj hjl => ?_, fun j hj => ?_⟩
  · cases hd : o.dst with
    | none => rfl
    | some d =>
      have hkeys := pOk_keys hsl hf (d := d) (by rw [hs, hd])
      simp only [pd, st, keysNot_ov hkeys]
  · by_cases hgi : g.i = f.i
    · have := pOk_inj hsl hg hf hgi
      subst this
      have hb1 : updb gb g.i b g.i = b := by simp [updb]
      have hb2 : updx gx g.i X g.i = X := by simp [updx]
      unfold PF.at_
      rw [hb1, hb2, hs]
      cases hd : o.dst with
      | none => rw [hd] at hfact; exact hfact
      | some d => rw [hd] at hfact; simpa [dval, dv] using hfact
    · have hlg' : listed.getD g.i false = true := by
        rw [getD_set_ne false (Ne.symm hgi)] at hlg; exact hlg
      have h4 := hfa g hg hlg'
      have hbq : Nat.beq f.i g.i = false := by
        cases hbb : Nat.beq f.i g.i
        · rfl
        · exact absurd (Nat.eq_of_beq_eq_true hbb).symm hgi
      have hb1 : updb gb f.i b g.i = gb g.i := by simp [updb, hbq]
      have hb2 : updx gx f.i X g.i = gx g.i := by simp [updx, hbq]
      unfold PF.at_ at h4 ⊢
      rw [hb1, hb2]
      cases hd : o.dst with
      | none => exact h4
      | some d =>
        cases hd' : g.slot with
        | none => rw [hd'] at h4; exact h4
        | some d' =>
          have hne := pOk_ne hsl hf hg (Ne.symm hgi) (d := d) (d' := d') (by rw [hs, hd]) hd'
          have : Nat.beq d d' = false := by
            cases hbb : Nat.beq d d'
            · rfl
            · exact absurd (Nat.eq_of_beq_eq_true hbb) hne
          rw [hd'] at h4
          simpa [dval, this] using h4
  · by_cases hji : j = f.i
    · subst hji
      rw [hol] at hoj
      obtain rfl := Option.some.inj hoj
      have hlt := backOk_get hback hol e he hb
      rw [getD_set_ne false (by omega)]
      exact hall e he hb
    · rw [getD_set_ne false (Ne.symm hji)] at hlj
      have := hcl j oj hoj hlj e he hb
      by_cases hei : e.on = f.i
      · rw [hei]; simp [hsz, hil]
      · rw [getD_set_ne false (Ne.symm hei)]; exact this
  · exact getD_set_true (hbase j hj hjl)
  · by_cases hji : j = f.i
    · exact .inr (List.mem_map.2 ⟨f, hf, hji.symm⟩)
    · rw [getD_set_ne false (Ne.symm hji)] at hj; exact honly j hj

theorem w_par {σ : Nat → Value} {w : World} {len m m' f : Nat} (J : Jt) (Φ : List PF) (hJW : ∀ i ∈ Φ.map (·.i), ∀ fl gb gx w, fl i = true → J fl gb gx w → W i w) (is : List Nat) (his : Φ.map (·.i) = is) (c : Nat) (hc : Φ.length = c) (hlen : ol.length = len) (hsl : pOk L Φ = true) (hback : backOk ol 0 ol = true)
    (hset : setOk ol is m 0 ol = true) (hcl : closedB ol m 0 ol = true) (hm : is.all (fun i => !(Nat.testBit m i) && Nat.blt i len) = true) (hmb : lb len (addAll m is) = lb len m')
    (h0 : J (fun j => Nat.testBit m j && Nat.blt j len) (fun _ => 0) (fun _ => []) w) (steps : PSteps P ol n L ds J Q Φ Φ)
    (k : ∀ σ gb gx w, J (fun j => Nat.testBit m' j && Nat.blt j len) gb gx w → PAll gb gx σ Φ → wpW W P ol.toArray Q f (lb len m') (st n L σ ds) w) :
    wpW W P ol.toArray Q (f + c) (lb len m) (st n L σ ds) w := by
  rw [Nat.add_comm]
  subst his hlen hc
  have hlb : ∀ m i, (lb ol.length m).getD i false = (Nat.testBit m i && Nat.blt i ol.length) := by
    intro m i
    by_cases h : i < ol.length
    · have : Nat.blt i ol.length = true := by rw [Nat.blt_eq]; exact h
      rw [this]; simp [lb, h]
    · have : Nat.blt i ol.length = false := by
        cases hb : Nat.blt i ol.length
        · rfl
        · rw [Nat.blt_eq] at hb; exact absurd hb h
      rw [this]; simp [lb, h]
  have hmf : ∀ f ∈ Φ, Nat.testBit m f.i = false ∧ f.i < ol.length := by
    intro f hf
    have := List.all_eq_true.1 hm f.i (List.mem_map_of_mem hf)
    simp only [Bool.and_eq_true, Bool.not_eq_true', Nat.blt_eq] at this
    exact this
  have hmt : ∀ (bs : List Nat) (m i : Nat), Nat.testBit (addAll m bs) i = (Nat.testBit m i || bs.contains i) := by
    intro bs
    induction bs with
    | nil => intro m i; simp [addAll]
    | cons b r ih =>
      intro m i
      rw [addAll, ih, Nat.testBit_or, Nat.one_shiftLeft, Nat.testBit_two_pow]
      by_cases h : b = i
      · subst h; simp
      · have h2 : ¬ i = b := fun e => h e.symm
        simp [h, h2]
  have hbit : ∀ i, i < ol.length → Nat.testBit m' i = Nat.testBit (addAll m (Φ.map (·.i))) i := by
    intro i hi
    have h1 : Nat.blt i ol.length = true := by rw [Nat.blt_eq]; exact hi
    have h2 := hlb m' i
    rw [← hmb, hlb, h1, Bool.and_true, Bool.and_true] at h2
    exact h2.symm
  have main : ∀ (c : Nat) (listed : Array Bool) (a : Act) (w : World), listed.size = ol.length → (Φ.filter fun g => !listed.getD g.i false).length = c → PJ ol n L ds J Φ m listed a w → wpW W P ol.toArray Q (c + f) listed a w := by
    intro c
    induction c with
    | zero =>
      intro listed a w hsz hc hJ
      have hall : ∀ g ∈ Φ, listed.getD g.i false = true := by
        intro g hg
        have h0 := List.length_eq_zero_iff.1 hc
        have := (List.filter_eq_nil_iff.1 h0) g hg
        simpa using this
      have hle : listed = lb ol.length m' := by
        apply Array.ext
        · simp [lb, hsz]
        · intro i h1 h2
          have e1 : listed[i] = listed.getD i false := by simp [h1]
          have e2 : (lb ol.length m')[i] = (lb ol.length m').getD i false := by rw [Array.getD_eq_getD_getElem?, Array.getElem?_eq_getElem h2]; rfl
          have hil : Nat.blt i ol.length = true := by rw [Nat.blt_eq]; omega
          rw [e1, e2, hlb, hil, Bool.and_true, hbit i (by omega), hmt]
          cases hl : listed.getD i false with
          | true =>
            rcases hJ.only i hl with h3 | h3
            · rw [h3]; rfl
            · simp [h3]
          | false =>
            symm
            rw [Bool.or_eq_false_iff]
            constructor
            · cases ht : Nat.testBit m i
              · rfl
              · have := hJ.base i ht (by omega); rw [hl] at this; cases this
            · cases hcn : (Φ.map (·.i)).contains i
              · rfl
              · rw [List.contains_iff_mem] at hcn
                obtain ⟨g, hg, rfl⟩ := List.mem_map.1 hcn
                have := hall g hg; rw [hl] at this; cases this
      obtain ⟨σ, gb, gx, rfl, hj, hfa⟩ := hJ.ex
      rw [Nat.zero_add]
      have hfl : (fun j => listed.getD j false) = fun j => Nat.testBit m' j && Nat.blt j ol.length := by funext j; rw [hle, hlb]
      rw [hfl] at hj
      rw [hle]
      exact k σ gb gx w hj (PAll_of Φ fun g hg => hfa g hg (hall g hg))
    | succ c ih =>
      intro listed a w hsz hc hJ
      have hsame : ∀ i, i < ol.length → listed.getD i true = listed.getD i false := fun i hi => by
        have h1 : i < listed.size := by omega
        simp [h1]
      have hex : ∃ i, i ∈ Φ.map (·.i) ∧ listed.getD i false = false := by
        have hne : (Φ.filter fun g => !listed.getD g.i false) ≠ [] := by intro e; rw [e] at hc; simp at hc
        obtain ⟨g, hg⟩ := List.exists_mem_of_ne_nil _ hne
        rw [List.mem_filter] at hg
        exact ⟨g.i, List.mem_map.2 ⟨g, hg.1, rfl⟩, by simpa using hg.2⟩
      have hleast : ∃ i, i ∈ Φ.map (·.i) ∧ listed.getD i false = false ∧ ∀ j, j < i → j ∈ Φ.map (·.i) → listed.getD j false = true := by
        obtain ⟨i, hi, hu⟩ := hex
        induction i using Nat.strongRecOn with
        | ind i ihi =>
          by_cases hj : ∃ j, j < i ∧ j ∈ Φ.map (·.i) ∧ listed.getD j false = false
          · obtain ⟨j, hj, hjm, hju⟩ := hj
            exact ihi j hj hjm hju
          · refine ⟨i, hi, hu, fun j hji hjm => ?_⟩
            cases hjj : listed.getD j false
            · exact absurd ⟨j, hji, hjm, hjj⟩ hj
            · rfl
      obtain ⟨i0, hi0, hu0, hall0⟩ := hleast
      obtain ⟨g0, hg0, hgi0⟩ := List.mem_map.1 hi0
      have hl0 : i0 < ol.length := by rw [← hgi0]; exact (hmf g0 hg0).2
      have hr0 : i0 ∈ Region.ready .any ol.toArray listed := by
        rw [mem_ready]
        refine ⟨by rw [hsame i0 hl0]; exact hu0, ol[i0], by simp [hl0], fun e he hb => ?_⟩
        have h1 := setOk_get hset (i := i0) (List.getElem?_eq_getElem hl0)
        have h1f : Nat.testBit m i0 = false := by rw [← hgi0]; exact (hmf g0 hg0).1
        rw [Nat.zero_add, h1f] at h1
        simp only [Bool.false_eq_true, false_or] at h1
        rw [if_pos (List.contains_iff_mem.2 hi0)] at h1
        have h2 := Array.all_eq_true_iff_forall_mem.1 h1 e he
        rw [hb] at h2
        simp only [Bool.not_true, Bool.false_or, Bool.or_eq_true] at h2
        have hlt := backOk_get hback (List.getElem?_eq_getElem hl0) e he hb
        rcases h2 with h2 | h2
        · exact hJ.base _ h2 (by omega)
        · exact hall0 _ (by omega) (List.contains_iff_mem.1 h2)
      rw [Nat.succ_add]
      refine ⟨fun h0 => (by rw [h0] at hr0; cases hr0), fun i hi => ?_⟩
      have him : i ∈ Φ.map (·.i) := by
        obtain ⟨h1, o, ho, hall⟩ := mem_ready.1 hi
        have hol : ol[i]? = some o := by simpa using ho
        have hil := (List.getElem?_eq_some_iff.1 hol).1
        have h2 := setOk_get hset hol
        rw [Nat.zero_add] at h2
        rcases h2 with h2 | h2
        · have := hJ.base i h2 hil
          rw [hsame i hil, this] at h1; cases h1
        · by_cases hcn : (Φ.map (·.i)).contains i = true
          · exact List.contains_iff_mem.1 hcn
          · rw [if_neg hcn] at h2
            have h3 := onDraw_listed (List.all_eq_true.1 h2 i0 hi0) hall
            rw [hu0] at h3; cases h3
      obtain ⟨g, hg, rfl⟩ := List.mem_map.1 him
      have hiu : listed.getD g.i false = false := by
        obtain ⟨h1, _⟩ := mem_ready.1 hi
        rw [hsame g.i (hmf g hg).2] at h1; exact h1
      refine wpOp_mono (fun a' w' hq => ⟨?_, ih _ a' w' (by simpa using hsz) ?_ hq⟩) (par_step hsl hback steps hset hg hsz hJ hi (fun f hf => (hmf f hf).1))
      · obtain ⟨σ, gb, gx, _, hj, _⟩ := hq.ex
        refine hJW _ (List.mem_map.2 ⟨g, hg, rfl⟩) _ _ _ _ ?_ hj
        have : g.i < listed.size := by rw [hsz]; exact (hmf g hg).2
        simp [this]
      · have hcount : ∀ (l : List PF), (∀ f ∈ l, f ∈ Φ) → l.Nodup → g ∈ l → (l.filter fun f => !listed.getD f.i false).length = ((l.filter fun f => !(listed.setIfInBounds g.i true).getD f.i false).length) + 1 := by
          intro l
          induction l with
          | nil => intro _ _ h; cases h
          | cons x l ihl =>
            intro hsub hnd hmem
            rw [List.nodup_cons] at hnd
            by_cases hx : x.i = g.i
            · have hxg := pOk_inj hsl (hsub x (by simp)) hg hx
              subst hxg
              have h1 : (listed.setIfInBounds x.i true).getD x.i false = true := by
                have : x.i < listed.size := by rw [hsz]; exact (hmf x hg).2
                simp [this]
              have h2 : (l.filter fun f => !listed.getD f.i false) = (l.filter fun f => !(listed.setIfInBounds x.i true).getD f.i false) := by
                apply List.filter_congr
                intro y hy
                rw [getD_set_ne false (fun e : x.i = y.i => hnd.1 (by rw [pOk_inj hsl (hsub x (by simp)) (hsub y (by simp [hy])) e]; exact hy))]
              rw [List.filter_cons, List.filter_cons, h1, hiu, h2]
              simp
            · have hmem' : g ∈ l := by
                rcases List.mem_cons.1 hmem with h | h
                · exact absurd (by rw [h]) hx
                · exact h
              have := ihl (fun f hf => hsub f (by simp [hf])) hnd.2 hmem'
              rw [List.filter_cons, List.filter_cons, getD_set_ne false (Ne.symm hx)]
              split
              · simp only [List.length_cons]; omega
              · exact this
        have hndΦ : Φ.Nodup := by
          clear ih hJ hi him hg hiu hcount hex hc hsz steps hset hm hmf h0 k hmb hbit
          have : ∀ l : List PF, pOk L l = true → l.Nodup := by
            intro l
            induction l with
            | nil => intro _; simp
            | cons p r ih2 =>
              intro h
              simp only [pOk, Bool.and_eq_true, List.all_eq_true] at h
              rw [List.nodup_cons]
              refine ⟨fun hp => ?_, ih2 h.2⟩
              have := h.1.2 p hp
              rw [Nat.beq_refl] at this; simp at this
          exact this Φ hsl
        have := hcount Φ (fun _ h => h) hndΦ hg
        omega
  refine main Φ.length (lb ol.length m) _ w (by simp [lb]) ?_ ⟨⟨σ, _, _, rfl, by simpa only [hlb] using h0, fun g hg hl => ?_⟩, fun i o ho hl e he hb => ?_, fun i hi hil => ?_, fun i hl => ?_⟩
  · rw [List.filter_eq_self.2 (fun g hg => ?_)]
    rw [hlb, (hmf g hg).1]; rfl
  · rw [hlb, (hmf g hg).1] at hl; cases hl
  · rw [hlb] at hl ⊢
    simp only [Bool.and_eq_true] at hl ⊢
    have h1 := closedB_get hcl ho (by rw [Nat.zero_add]; exact hl.1) e he hb
    have h2 := backOk_get hback ho e he hb
    have h3 := (List.getElem?_eq_some_iff.1 ho).1
    refine ⟨h1, ?_⟩
    rw [Nat.blt_eq]; omega
  · rw [hlb, hi]; rw [Bool.true_and, Nat.blt_eq]; exact hil
  · rw [hlb] at hl; simp only [Bool.and_eq_true] at hl; exact .inl hl.1
end
theorem seenW {P : Program} {ol : List Oper} {Q : Exit → Act → World → Prop} {W : Nat → World → Prop} {f : Nat} {lst : Array Bool} {n : Nat} {L : Env} {σ : Nat → Value} {ds : List Deferred} {w : World} (L' : Env) (h : AllEq L' (ov L σ))
    (k : wpW W P ol.toArray Q f lst (st n L' (ov L σ) ds) w) : wpW W P ol.toArray Q f lst (st n L σ ds) w := by
  rw [seenF h]; exact k
theorem cT {α : Type} {b : Bool} {x y : α} (h : b = true) : (bif b then x else y) = x := by subst h; rfl
theorem cF {α : Type} {b : Bool} {x y : α} (h : b = false) : (bif b then x else y) = y := by subst h; rfl
theorem Hp.cong {M I : Nat → Prop} {w0 wr w : World} {R R' : List Rsc} (h : Hp M I w0 wr w R) (e : R = R') : Hp M I w0 wr w R' := e ▸ h

section
variable {P : Program} {ops : Array Oper} {N : Act → World → Prop} {Q : Exit → Act → World → Prop} {n : Nat} {L : Env} {σ : Nat → Value} {ds : List Deferred} {w : World} {rest : List Oper}
variable {ty : TypeId} {pos : String} {af : Array Edge} {x : Operand} {fn : Func} {R : Ending → World → Prop} {f : FuncId} {caps : List Value}
theorem enterD {c : Code} {l : List Value} (hf : P.funcs[f]? = some fn) (hb : fn.body = some c) (hn : fn.ntmps = n) (hl : Nat.ble l.length n = true) (hL : argEnv 0 l = L)
    (h : wk P c (bodyPostD P fn R .normal) (bodyPostD P fn R) (st n L (fun _ => undef) []) w) : Calls P f l.toArray w R := by
  subst hL
  refine calls_of_wp_defers hf hb ?_
  rw [hn, enter_fr l n (Nat.le_of_ble_eq_true hl)]
  exact wp_mono h fun e a w he => by cases e <;> exact he
theorem s_defer {ats : Array TypeId} (hx : (st n L σ ds).eval x = .func (.func f) #[] caps.toArray) (k : wpList P ops Q rest (st n L σ (⟨.fn (.func f) caps.toArray, #[]⟩ :: ds)) w) :
    wpList P ops Q (⟨none, .defer { callee := .value x, args := #[], argTypes := ats }, ty, pos, af, none⟩ :: rest) (st n L σ ds) w := by
  refine wpList_plain rfl fun K hK => ?_
  unfold Oper.wp
  have : (execOp (st n L σ ds).eval ⟨none, .defer { callee := .value x, args := #[], argTypes := ats }, ty, pos, af, none⟩).run P w = .ok (.defer ⟨.fn (.func f) caps.toArray, #[]⟩) w := by
    simp only [execOp, resolve, hx]
    simp [Deferred.ofValue, Sem.run_bind]
  rw [this, Oper.upon_defer]
  exact hK _ _ k
def RetD (P : Program) (f : FuncId) (args : List Value) (u u' : FrameMode) (w : World) (Φ : Value → World → Prop) : Prop := CallsD P f args.toArray u w fun e u2 w' => ∃ v, e = .returned v ∧ u2 = u' ∧ Φ v w'
theorem lv_ret {Φ : Value → World → Prop} (hcf : ∀ args w, (callFunc f args).run P w = .ok (.enter f args) w) (hc : RetD P f caps .returning .returning w Φ)
    (k : ∀ v w', Φ v w' → ∃ v', (results fn (fr n (ov L σ))).run P w' = .ok v' w' ∧ R (.returned v') w') : bodyPostD P fn R .ret (st n L σ [⟨.fn (.func f) caps.toArray, #[]⟩]) w := by
  refine ⟨by simp, .func f, caps.toArray, f, caps.toArray, rfl, ?_, CallsD.mono hc fun e u2 w' h => ?_⟩
  · simp [invoke, hcf]
  · obtain ⟨v, rfl, rfl, hv⟩ := h
    exact k v w' hv
theorem lv_norm {Φ : Value → World → Prop} (hcf : ∀ args w, (callFunc f args).run P w = .ok (.enter f args) w) (hc : RetD P f caps .returning .returning w Φ)
    (k : ∀ v w', Φ v w' → ∃ v', (results fn (fr n (ov L σ))).run P w' = .ok v' w' ∧ R (.returned v') w') : bodyPostD P fn R .normal (st n L σ [⟨.fn (.func f) caps.toArray, #[]⟩]) w := lv_ret hcf hc k
theorem lv_pan {Φ : Value → World → Prop} {u : Value} (hcf : ∀ args w, (callFunc f args).run P w = .ok (.enter f args) w) (hc : RetD P f caps (.panicking [⟨u, false, false⟩]) (.panicking [⟨u, true, false⟩]) w Φ)
    (k : ∀ v w', Φ v w' → ∃ v', (results fn (fr n (ov L σ))).run P w' = .ok v' w' ∧ R (.returned v') w') : bodyPostD P fn R (.panic [⟨u, false, false⟩]) (st n L σ [⟨.fn (.func f) caps.toArray, #[]⟩]) w := by
  refine ⟨by simp, .func f, caps.toArray, f, caps.toArray, rfl, ?_, CallsD.mono hc fun e u2 w' h => ?_⟩
  · simp [invoke, hcf]
  · obtain ⟨v, rfl, rfl, hv⟩ := h
    exact k v w' hv
theorem lv_nod {Φ : Value → World → Prop} {rs : List ResultVar} {vs : List Value} {v : Value} (hr : fn.results = rs.toArray) (h : Res P w (ov L σ) n rs vs) (hv : pack vs = v) (k : Φ v w) :
    bodyPostD P fn (fun e w' => ∃ v, e = .returned v ∧ Φ v w') .ret (st n L σ []) w := ⟨v, by rw [← hv]; exact res_run h hr, v, rfl, k⟩
theorem lv_run {rs : List ResultVar} {vs : List Value} {v : Value} (hr : fn.results = rs.toArray) (h : Res P w (ov L σ) n rs vs) (hv : pack vs = v) :
    (results fn (fr n (ov L σ))).run P w = .ok v w := by rw [← hv]; exact res_run h hr
theorem lv_end {Φ : Value → World → Prop} {rs : List ResultVar} {vs : List Value} {v : Value} (hr : fn.results = rs.toArray) (h : Res P w (ov L σ) n rs vs) (hv : pack vs = v) (k : Φ v w) :
    ∃ v', (results fn (fr n (ov L σ))).run P w = .ok v' w ∧ (∃ v, Ending.returned v' = .returned v ∧ Φ v w) := ⟨v, by rw [← hv]; exact res_run h hr, v, rfl, k⟩
variable {u : FrameMode} {c : Code} {c₀ : Frame} {cs : List Frame}
theorem enterS {l : List Value} {R : Ending → FrameMode → World → Prop} (hf : P.funcs[f]? = some fn) (hb : fn.body = some c) (hn : fn.ntmps = n) (hl : Nat.ble l.length n = true) (hL : argEnv 0 l = L)
    (h : ∀ (c₀ : Frame) (cs : List Frame), c₀.mode = u → c.wpS P (bodyPostS P fn c₀ cs R) (st n L (fun _ => undef) []) (c₀ :: cs) w) : CallsD P f l.toArray u w R := by
  subst hL
  refine callsD_of_wpS hf hb fun c₀ cs hm => ?_
  rw [hn, enter_fr l n (Nat.le_of_ble_eq_true hl)]
  exact h c₀ cs hm
theorem kS_of {x : Code} {a : Act} {K : Act → List Frame → World → Prop} {Q : Exit → Act → List Frame → World → Prop} (h : wk P x (fun a w => K a cs w) (fun e a w => Q e a cs w) a w) : x.wpS P (Exit.thenS K Q) a cs w :=
  wpS_of_wp (wp_mono h fun e a w he => by cases e <;> exact he)
theorem kS_last {x : Code} {a : Act} {Q : Exit → Act → List Frame → World → Prop} (h : wk P x (fun a w => Q .normal a cs w) (fun e a w => Q e a cs w) a w) : x.wpS P Q a cs w :=
  wpS_of_wp (wp_mono h fun e a w he => by cases e <;> exact he)
variable {d d2 : Nat} {ty2 : TypeId} {pos2 : String} {af2 : Array Edge} {id : Nat} {K : Act → List Frame → World → Prop} {QS : Exit → Act → List Frame → World → Prop}
theorem exec_recover {ρ : Operand → Value} : (execOp ρ ⟨some d, .call { callee := .builtin .recover, args := #[], argTypes := #[] }, ty, pos, af, none⟩).run P w = .ok .recover w := by
  simp [execOp, resolve, invoke, builtin, Sem.run_bind]
theorem kS_recR (hm : c₀.mode = .returning) (h1 : Nat.blt d n = true) (h2 : Nat.blt d2 n = true) (h : K (st n ((d2, .nilIface) :: (d, .nilIface) :: L) σ []) (c₀ :: cs) w) :
    (Code.region id [⟨some d, .call { callee := .builtin .recover, args := #[], argTypes := #[] }, ty, pos, af, none⟩, ⟨some d2, .assign (.tmp d), ty2, pos2, af2, none⟩].toArray false).wpS P (Exit.thenS K QS) (st n L σ []) (c₀ :: cs) w := by
  refine wpS_region ?_
  have hr : recoverD (c₀ :: cs) = none := by simp [recoverD, hm]
  have hw : ∀ (o : Oper) ops (a : Act), o.guard = none → Region.wanted o (yielded ops a.tmps) = true := fun o ops a h => by simp [Region.wanted, h]
  have hl : List.range (#[(⟨some d, .call { callee := .builtin .recover, args := #[], argTypes := #[] }, ty, pos, af, none⟩ : Oper), ⟨some d2, .assign (.tmp d), ty2, pos2, af2, none⟩]).size = [0, 1] := rfl
  rw [hl]
  simp only [wpOpsS]
  simp only [List.getElem?_toArray, List.getElem?_cons_zero, List.getElem?_cons_succ]
  rw [if_pos (hw _ _ _ rfl), exec_recover]
  simp only [hr]
  rw [put_st h1, if_pos (hw _ _ _ rfl), e_assign (tm h1 (v := .nilIface) (by simp [ov, Nat.beq_refl]))]
  simp only [Oper.upon_value]
  rw [put_st h2]
  exact h
theorem kS_recP {u : Value} (hm : c₀.mode = .panicking [⟨u, false, false⟩]) (h1 : Nat.blt d n = true) (h2 : Nat.blt d2 n = true)
    (h : K (st n ((d2, u) :: (d, u) :: L) σ []) ({ c₀ with mode := .panicking [⟨u, true, false⟩] } :: cs) w) :
    (Code.region id [⟨some d, .call { callee := .builtin .recover, args := #[], argTypes := #[] }, ty, pos, af, none⟩, ⟨some d2, .assign (.tmp d), ty2, pos2, af2, none⟩].toArray false).wpS P (Exit.thenS K QS) (st n L σ []) (c₀ :: cs) w := by
  refine wpS_region ?_
  have hr : recoverD (c₀ :: cs) = some (u, { c₀ with mode := .panicking [⟨u, true, false⟩] } :: cs) := by simp [recoverD, hm]
  have hw : ∀ (o : Oper) ops (a : Act), o.guard = none → Region.wanted o (yielded ops a.tmps) = true := fun o ops a h => by simp [Region.wanted, h]
  have hl : List.range (#[(⟨some d, .call { callee := .builtin .recover, args := #[], argTypes := #[] }, ty, pos, af, none⟩ : Oper), ⟨some d2, .assign (.tmp d), ty2, pos2, af2, none⟩]).size = [0, 1] := rfl
  rw [hl]
  simp only [wpOpsS]
  simp only [List.getElem?_toArray, List.getElem?_cons_zero, List.getElem?_cons_succ]
  rw [if_pos (hw _ _ _ rfl), exec_recover]
  simp only [hr]
  rw [put_st h1, if_pos (hw _ _ _ rfl), e_assign (tm h1 (v := u) (by simp [ov, Nat.beq_refl]))]
  simp only [Oper.upon_value]
  rw [put_st h2]
  exact h
theorem frame_mode {c₀ : Frame} {u : FrameMode} (h : c₀.mode = u) : c₀ :: cs = { c₀ with mode := u } :: cs := by subst h; rfl
theorem k_endS {Φ : Value → World → Prop} {cs' : List Frame} {u' : FrameMode} {rs : List ResultVar} {vs : List Value} {v : Value} (hc : cs' = { c₀ with mode := u' } :: cs)
    (hr : fn.results = rs.toArray) (h : Res P w (ov L σ) n rs vs) (hv : pack vs = v) (k : Φ v w) :
    bodyPostS P fn c₀ cs (fun e u2 w' => ∃ v, e = .returned v ∧ u2 = u' ∧ Φ v w') .ret (st n L σ []) cs' w := ⟨rfl, u', hc, v, by rw [← hv]; exact res_run h hr, v, rfl, rfl, k⟩
theorem k_endSn {Φ : Value → World → Prop} {cs' : List Frame} {u' : FrameMode} {rs : List ResultVar} {vs : List Value} {v : Value} (hc : cs' = { c₀ with mode := u' } :: cs)
    (hr : fn.results = rs.toArray) (h : Res P w (ov L σ) n rs vs) (hv : pack vs = v) (k : Φ v w) :
    bodyPostS P fn c₀ cs (fun e u2 w' => ∃ v, e = .returned v ∧ u2 = u' ∧ Φ v w') .normal (st n L σ []) cs' w := ⟨rfl, u', hc, v, by rw [← hv]; exact res_run h hr, v, rfl, rfl, k⟩
variable {dst : Option Tmp} {a : Act} {gd : Option (Nat × Bool)}
theorem run_inil {xt : TypeId} {ms : Array (String × TypeId)} {t : TypeId} {v : Value} (hu : UT P xt (.interface ms)) : (Op.equal xt (.iface t v) .nilIface).run P w = .ok false w := by
  unfold Op.equal Op.maxDepth
  rw [Op.equalIn]
  rw [Sem.run_bind, hu w, Result.andThen_ok]
  rfl
theorem run_nilnil {xt : TypeId} {ms : Array (String × TypeId)} (hu : UT P xt (.interface ms)) : (Op.equal xt .nilIface .nilIface).run P w = .ok true w := by
  unfold Op.equal Op.maxDepth
  rw [Op.equalIn]
  rw [Sem.run_bind, hu w, Result.andThen_ok]
  rfl
theorem r_inen {xt : TypeId} {ms : Array (String × TypeId)} {t : TypeId} {v : Value} {x y : Operand} (hu : UT P xt (.interface ms)) :
    (do eqGuard .neq xt x y (.iface t v) .nilIface; binOp .neq xt (.iface t v) .nilIface : Sem Value).run P w = .ok (.bool true) w := by
  have h1 : eqGuard .neq xt x y (.iface t v) .nilIface = pure () := rfl
  have h2 : binOp .neq xt (.iface t v) .nilIface = (do pure (.bool (!(← Op.equal xt (.iface t v) .nilIface)))) := rfl
  rw [h1, h2, Sem.run_bind, Sem.run_pure, Result.andThen_ok, Sem.run_bind, run_inil hu, Result.andThen_ok, Sem.run_pure]
  rfl
theorem r_inn {xt : TypeId} {ms : Array (String × TypeId)} {x : Operand} (hu : UT P xt (.interface ms)) :
    (do eqGuard .neq xt x (.const .nilIface) .nilIface .nilIface; binOp .neq xt .nilIface .nilIface : Sem Value).run P w = .ok (.bool false) w := by
  have h1 : (eqGuard .neq xt x (.const .nilIface) .nilIface .nilIface).run P w = .ok () w := by
    unfold eqGuard
    simp
  have h2 : binOp .neq xt .nilIface .nilIface = (do pure (.bool (!(← Op.equal xt .nilIface .nilIface)))) := rfl
  rw [Sem.run_bind, h1, h2, Result.andThen_ok, Sem.run_bind, run_nilnil hu, Result.andThen_ok, Sem.run_pure]
  rfl
theorem e_assert {t xt : TypeId} {td : TypeDesc} {v : Value} (hx : a.eval x = .iface t v) (hu : UT P t td) (h : (match td with | .interface _ => false | _ => true) = true) :
    (execOp a.eval ⟨dst, .typeAssert x xt t false, ty, pos, af, gd⟩).run P w = .ok (.value v) w := by
  simp only [execOp, hx]
  cases td <;> first | (simp at h; done) | simp [Instr.typeAssert, Sem.run_bind, hu w]
theorem e_assertOk {t xt : TypeId} {td : TypeDesc} {v : Value} (hx : a.eval x = .iface t v) (hu : UT P t td) (h : (match td with | .interface _ => false | _ => true) = true) :
    (execOp a.eval ⟨dst, .typeAssert x xt t true, ty, pos, af, gd⟩).run P w = .ok (.value (.tuple #[v, .bool true])) w := by
  simp only [execOp, hx]
  cases td <;> first | (simp at h; done) | simp [Instr.typeAssert, Sem.run_bind, hu w]
end

def BL (P : Program) (t : TypeId) (z : Array Value) (pl : Array (Nat × Nat)) : Prop := ∀ ps cells w, Instr.fill (pl[·]?) z ps = some cells → (Instr.build t ps.toArray).run P w = .ok (.agg cells) w
structure TE (P : Program) where
  t : Nat
  d : TypeDesc
  sz : Nat
  ag : Bool
  u : UT P t d
  s : SZ P t sz
  a : AG P t ag
  z : Option (Array Value × Array (Nat × Nat))
  b : ∀ q, z = some q → BL P t q.1 q.2
theorem BL.mk {P : Program} {t : TypeId} {zv : Value} {z : Array Value} {fs : Array Field} {pl : Array (Nat × Nat)} (hz : ZR P t zv) (hzv : zv.cells = z) (hu : UT P t (.struct fs))
    (hp : ∀ w, (fs.mapM fun f => do pure (f.offset, ← sizeOf f.type) : Sem (Array (Nat × Nat))).run P w = .ok pl w) : BL P t z pl := by
  intro ps cells w hf
  subst hzv
  unfold Instr.build
  rw [Sem.run_bind, hz w, Result.andThen_ok]
  show ((underlying t >>= _ : Sem Value)).run P w = _
  rw [Sem.run_bind, hu w, Result.andThen_ok]
  show ((_ >>= _ : Sem Value)).run P w = _
  rw [Sem.run_bind, hp w, Result.andThen_ok]
  simp only [hf]
  rfl
section
variable {P : Program}
def tget : List (TE P) → Nat → Option (TE P)
  | [], _ => none
  | e :: r, t => bif Nat.beq e.t t then some e else tget r t
theorem tget_t {T : List (TE P)} {t : Nat} {e : TE P} (h : tget T t = some e) : e.t = t := by
  induction T with
  | nil => cases h
  | cons x r ih =>
    simp only [tget] at h
    cases hb : Nat.beq x.t t
    · rw [hb] at h; exact ih h
    · rw [hb] at h; cases h; exact Nat.eq_of_beq_eq_true hb
end
structure Base where
  a : Addr
  cs : List Value
def bget (M : List Base) (i : Nat) : Base := M.getD i ⟨⟨0, 0, none⟩, []⟩
inductive CV
  | v (x : Value)
  | p (i off : Nat)
def CV.den (M : List Base) : CV → Value
  | .v x => x
  | .p i off => .pointer (some ((bget M i).a.add off))
inductive Ix
  | s (slot base : Nat) (A : Option Addr) (m c : Nat) (i : Int) (sz : Nat) (p : Addr) (h : Pl A sz i p) (g : 0 ≤ i ∧ i < (m : Int))
  | a (slot base : Nat) (b o m : Nat) (i : Int) (g : 0 ≤ i ∧ i < (m : Int))
  | p (slot base off : Nat)
def Ix.slot : Ix → Nat
  | .s d .. => d
  | .a d .. => d
  | .p d .. => d
def xget : List Ix → Nat → Option Ix
  | [], _ => none
  | e :: r, t => bif Nat.beq e.slot t then some e else xget r t
structure GE where
  slot : Nat
  path : List (Nat × Bool)
  c : Bool
  x : CV
  ob : List (Value × Value)
def GE.val (M : List Base) (e : GE) : Value := match e.path with
  | [] => e.x.den M
  | _ => bif e.c then e.x.den M else undef
def gden (M : List Base) (Γ : List GE) : Env := Γ.map fun e => (e.slot, e.val M)
def gfind : List GE → Nat → Option (Nat × GE)
  | [], _ => none
  | e :: r, t => bif Nat.beq e.slot t then some (r.length, e) else gfind r t
def gat : List GE → Nat → Option GE
  | [], _ => none
  | e :: r, k => bif Nat.beq r.length k then some e else gat r k
def lfind : Env → Nat → Option Value
  | [], _ => none
  | p :: r, t => bif Nat.beq p.1 t then some p.2 else lfind r t
def sfind : List (Nat × Nat × Nat) → Nat → Option (Nat × Nat)
  | [], _ => none
  | p :: r, t => bif Nat.beq p.1 t then some p.2 else sfind r t
structure Cx (P : Program) where
  n : Nat
  ol : List Oper
  T : List (TE P)
  M : List Base
  may : Nat → Bool
  S : List (Nat × Nat × Nat)
  ix : List Ix
  sg : List (Nat × Nat × List Value)
  L : Env

def qeq (q r : Nat × Bool) : Bool := Nat.beq q.1 r.1 && (bif q.2 then r.2 else !r.2)
def sub_ (ρ π : List (Nat × Bool)) : Bool := ρ.all fun q => π.any (qeq q)
section
variable {P : Program}
def rdo (X : Cx P) (Γ : List GE) (π : List (Nat × Bool)) : Operand → Option CV
  | .const v => some (.v v)
  | .tmp t => bif Nat.blt t X.n then (match gfind Γ t with
      | some q => bif sub_ q.2.path π then some q.2.x else none
      | none => match sfind X.S t with
        | some q => some (.p q.1 q.2)
        | none => match lfind X.L t with
          | some v => some (.v v)
          | none => none) else none
  | _ => none
def kn : IntKind → Nat
  | .i8 => 0 | .i16 => 1 | .i32 => 2 | .i64 => 3 | .u8 => 4 | .u16 => 5 | .u32 => 6 | .u64 => 7
theorem kn_inj {k k' : IntKind} (h : Nat.beq (kn k) (kn k') = true) : k = k' := by
  have := Nat.eq_of_beq_eq_true h
  cases k <;> cases k' <;> first | rfl | (simp [kn] at this)
def wr (k : IntKind) (x : Int) : Int := match k with
  | .i64 => wrap64 x | .i32 => wrap32 x | .u8 => x % 256 | .u16 => x % 65536 | .u32 => x % 4294967296 | .u64 => x % 18446744073709551616 | .i16 => wrap16 x | .i8 => IntKind.i8.wrap x
theorem wr_eq (k : IntKind) (x : Int) : k.wrap x = wr k x := by
  cases k
  · rfl
  · exact wrap_i16 x
  · exact wrap_i32 x
  · exact wrap_i64 x
  · exact wrap_u8 x
  · exact wrap_u16 x
  · exact wrap_u32 x
  · exact wrap_u64 x
def nneg : Int → Bool
  | .ofNat _ => true
  | .negSucc _ => false
def nzero : Int → Bool
  | .ofNat 0 => false
  | _ => true
theorem nneg_ok {b : Int} (h : nneg b = true) : 0 ≤ b := by
  cases b with
  | ofNat n => exact Int.natCast_nonneg n
  | negSucc n => cases h
theorem nzero_ok {b : Int} (h : nzero b = true) : b ≠ 0 := by
  rintro rfl
  cases h
def isBool : TypeDesc → Bool
  | .bool => true
  | _ => false
def sameK (k k' : IntKind) : Bool := Nat.beq (kn k) (kn k')
def bopI (op : BinOp) (k : IntKind) (a : Int) (k' : IntKind) (b : Int) : Option Value := match op with
    | .shl => bif nneg b then some (.int k (wr k (a * 2 ^ (min b.toNat k.bits)))) else none
    | .shr => bif nneg b then some (.int k (a / 2 ^ (min b.toNat k.bits))) else none
    | .add => bif sameK k k' then some (.int k (wr k (a + b))) else none
    | .sub => bif sameK k k' then some (.int k (wr k (a - b))) else none
    | .mul => bif sameK k k' then some (.int k (wr k (a * b))) else none
    | .quo => bif sameK k k' && nzero b then some (.int k (wr k (Int.tdiv a b))) else none
    | .rem => bif sameK k k' && nzero b then some (.int k (Int.tmod a b)) else none
    | .and => bif sameK k k' then some (.int k (bits .and k a b)) else none
    | .or => bif sameK k k' then some (.int k (bits .or k a b)) else none
    | .xor => bif sameK k k' then some (.int k (bits .xor k a b)) else none
    | .andNot => bif sameK k k' then some (.int k (bits .andNot k a b)) else none
    | .eql => bif sameK k k' then some (.bool (decide (a = b))) else none
    | .neq => bif sameK k k' then some (.bool (!decide (a = b))) else none
    | .lss => bif sameK k k' then some (.bool (decide (a < b))) else none
    | .leq => bif sameK k k' then some (.bool (decide (a ≤ b))) else none
    | .gtr => bif sameK k k' then some (.bool (decide (a > b))) else none
    | .geq => bif sameK k k' then some (.bool (decide (a ≥ b))) else none
def bopB (T : List (TE P)) (xt : Nat) (op : BinOp) (a b : Bool) : Option Value := match tget T xt with
    | some e => bif isBool e.d then (match op with
      | .eql => some (.bool (a == b))
      | .neq => some (.bool (!(a == b)))
      | _ => none) else none
    | none => none
def bopS (op : BinOp) (a b : ByteArray) : Option Value := match op with
    | .eql => some (.bool (a.toList == b.toList))
    | .neq => some (.bool (!(a.toList == b.toList)))
    | _ => none
def bop (T : List (TE P)) (xt : Nat) (op : BinOp) (v1 v2 : Value) : Option Value := match v1 with
  | .int k a => (match v2 with | .int k' b => bopI op k a k' b | _ => none)
  | .bool a => (match v2 with | .bool b => bopB T xt op a b | _ => none)
  | .string a => (match v2 with | .string b => bopS op a b | _ => none)
  | _ => none
theorem fdivp (a : Int) (m : Nat) : a.fdiv (2 ^ m) = a / 2 ^ m := by
  refine Int.fdiv_eq_ediv_of_nonneg a ?_
  exact Int.le_of_lt (Int.pow_pos (by decide))
theorem condE {b : Bool} {v : Value} {o : Option Value} (h : (bif b then o else none) = some v) : b = true ∧ o = some v := by
  cases b
  · cases h
  · exact ⟨rfl, h⟩
theorem bopI_ok {xt : Nat} {op : BinOp} {k k' : IntKind} {a b : Int} {v : Value} {x y : Operand} {w : World} (h : bopI op k a k' b = some v) :
    (do eqGuard op xt x y (.int k a) (.int k' b); binOp op xt (.int k a) (.int k' b) : Sem Value).run P w = .ok v w := by
  have main : sameK k k' = true → k' = k := fun h => (kn_inj h).symm
  have and2 : ∀ {p q : Bool}, (p && q) = true → p = true ∧ q = true := fun h => by simpa using h
  cases op <;> obtain ⟨h1, h2⟩ := condE h
  case shl => cases h2; exact r_shl (nneg_ok h1) (wr_eq _ _)
  case shr => cases h2; exact r_shr (nneg_ok h1) (fdivp _ _)
  case quo => cases h2; obtain ⟨h1, h3⟩ := and2 h1; cases main h1; exact r_div (op := .not) (nzero_ok h3) (wr_eq _ _)
  case rem => cases h2; obtain ⟨h1, h3⟩ := and2 h1; cases main h1; exact r_rem (nzero_ok h3) rfl
  all_goals cases h2
  all_goals cases main h1
  case add => exact r_add (wr_eq _ _)
  case sub => exact r_sub (wr_eq _ _)
  case mul => exact r_mul (wr_eq _ _)
  case and => exact r_bits (by simp) rfl
  case or => exact r_bits (by simp) rfl
  case xor => exact r_bits (by simp) rfl
  case andNot => exact r_bits (by simp) rfl
  case eql => exact r_eql rfl
  case neq => exact r_neq rfl
  case lss => exact r_lss rfl
  case leq => exact r_leq rfl
  case gtr => exact r_gtr rfl
  case geq => exact r_geq rfl
theorem bop_ok {T : List (TE P)} {xt : Nat} {op : BinOp} {v1 v2 v : Value} {x y : Operand} {w : World} (h : bop T xt op v1 v2 = some v) :
    (do eqGuard op xt x y v1 v2; binOp op xt v1 v2 : Sem Value).run P w = .ok v w := by
  cases v1 <;> first | (cases h; done) | skip
  case int k a => cases v2 <;> first | (cases h; done) | exact bopI_ok h
  case bool a =>
    cases v2 <;> first | (cases h; done) | skip
    rename_i b
    simp only [bop, bopB] at h
    split at h
    · rename_i e he
      obtain ⟨h1, h2⟩ := condE h
      have hu : UT P xt .bool := by
        have h3 := e.u
        have h4 : e.d = .bool := by cases hd : e.d <;> rw [hd] at h1 <;> first | rfl | cases h1
        rw [h4, tget_t he] at h3; exact h3
      cases op <;> first | (cases h2; done) | skip
      · cases h2; exact r_eqb hu rfl
      · cases h2; exact r_neb hu rfl
    · cases h
  case string a =>
    cases v2 <;> first | (cases h; done) | skip
    rename_i b
    simp only [bop, bopS] at h
    cases op <;> first | (cases h; done) | skip
    · cases h; exact r_streq rfl
    · cases h; exact r_strne rfl
abbrev Got := Option (CV × List (Value × Value))
def nob : Option CV → Got
  | some c => some (c, [])
  | none => none
def vob : Option Value → Got
  | some v => some (.v v, [])
  | none => none
theorem nobE {o : Option CV} {q : CV × List (Value × Value)} (h : nob o = some q) : o = some q.1 := by
  cases o with
  | none => cases h
  | some c => cases h; rfl
theorem vobE {o : Option Value} {q : CV × List (Value × Value)} (h : vob o = some q) : ∃ v, o = some v ∧ q.1 = .v v := by
  cases o with
  | none => cases h
  | some c => cases h; exact ⟨c, rfl, rfl⟩
def val1 : Option CV → Option Value
  | some (.v v) => some v
  | _ => none
theorem val1E {o : Option CV} {v : Value} (h : val1 o = some v) : o = some (.v v) := by
  cases o with
  | none => cases h
  | some c => cases c with
    | v x => cases h; rfl
    | p i off => cases h
def isC (u : Bool) : Operand → Bool
  | .const (.bool true) => u
  | .const (.bool false) => !u
  | _ => false
def pickB (x y : Operand) (b c e : Bool) : Bool := match isC true x with
  | true => b || e
  | false => match isC false y with
    | true => b && c
    | false => bif b then c else e
theorem isC_ok {X : Cx P} {Γ : List GE} {π : List (Nat × Bool)} {x : Operand} {u c : Bool} (h : isC u x = true) (hc : val1 (rdo X Γ π x) = some (.bool c)) : c = u := by
  unfold isC at h
  split at h
  · subst h; simp only [rdo, val1, Option.some.injEq, Value.bool.injEq] at hc; exact hc.symm
  · have : u = false := by simpa using h
    subst this; simp only [rdo, val1, Option.some.injEq, Value.bool.injEq] at hc; exact hc.symm
  · cases h
def evPick (X : Cx P) (Γ : List GE) (π : List (Nat × Bool)) (z x y : Operand) : Option Value := match z with
  | .tmp t => bif Nat.blt t X.n then (match gfind Γ t with
    | some q => bif sub_ q.2.path π then (match q.2.x with
      | .v (.bool b) => (match val1 (rdo X Γ (π ++ [(q.1, true)]) x) with
        | some (.bool c) => (match val1 (rdo X Γ (π ++ [(q.1, false)]) y) with
          | some (.bool e) => some (.bool (pickB x y b c e))
          | _ => none)
        | _ => none)
      | _ => none) else none
    | none => none) else none
  | _ => none
def evConv (X : Cx P) (s d : Nat) : Option Value → Option Value
  | some (.int k a) => match tget X.T s with
    | some _ => match tget X.T d with
      | some e => match e.d with
        | .int k' => some (.int k' (wr k' a))
        | _ => none
      | none => none
    | none => none
  | _ => none
def sget : List (Nat × Nat × List Value) → Nat → Nat → Nat → Option (List Value)
  | [], _, _, _ => none
  | s :: r, i, off, sz => bif Nat.beq s.1 i && (Nat.ble s.2.1 off && Nat.ble (off + sz) (s.2.1 + s.2.2.length)) then some (s.2.2.drop (off - s.2.1)) else sget r i off sz
def evCells (e : TE P) (l : List Value) : Option Value := bif e.ag then (bif Nat.beq (l.take e.sz).length e.sz then some (.agg (l.take e.sz).toArray) else none) else l[0]?
def evLoad (X : Cx P) (t : Nat) : Option CV → Option Value
  | some (.p i off) => match tget X.T t with
    | some e => match sget X.sg i off e.sz with
      | some l => evCells e l
      | none => bif X.may i then evCells e ((bget X.M i).cs.drop off) else none
    | none => none
  | _ => none
def evFA (X : Cx P) (s f : Nat) : Option CV → Option CV
  | some (.p i off) => match tget X.T s with
    | some e => match e.d with
      | .struct fs => match fs.toList[f]? with
        | some fd => match tget X.T fd.type with
          | some e2 => bif Nat.beq e2.sz 0 then none else some (.p i (off + fd.offset))
          | none => none
        | none => none
      | _ => none
    | none => none
  | _ => none
def evField (X : Cx P) (s f : Nat) : Option Value → Option Value
  | some (.agg cs) => match tget X.T s with
    | some e => match e.d with
      | .struct fs => match fs.toList[f]? with
        | some fd => match tget X.T fd.type with
          | some e2 => bif e2.ag then some (.agg ((cs.toList.drop fd.offset).take e2.sz).toArray) else cs.toList[fd.offset]?
          | none => none
        | none => none
      | _ => none
    | none => none
  | _ => none
def evExt (i : Nat) : Option Value → Option Value
  | some (.tuple vs) => vs.toList[i]?
  | _ => none
def evParts (X : Cx P) (Γ : List GE) (π : List (Nat × Bool)) : List (Nat × Operand) → Option (List (Nat × Value))
  | [] => some []
  | p :: r => match val1 (rdo X Γ π p.2) with
    | some v => match evParts X Γ π r with
      | some l => some ((p.1, v) :: l)
      | none => none
    | none => none
def evBuild (X : Cx P) (t : Nat) : Option (List (Nat × Value)) → Option Value
  | some l => match tget X.T t with
    | some e => match e.z with
      | some q => match Instr.fill (q.2[·]?) q.1 l with
        | some cells => some (.agg cells)
        | none => none
      | none => none
    | none => none
  | none => none
def evLen (X : Cx P) (t : Nat) : Option Value → Option Value
  | some (.slice A m c) => match tget X.T t with
    | some e => match e.d with
      | .slice _ => some (.int .i64 m)
      | _ => none
    | none => none
  | some (.string s) => match tget X.T t with
    | some e => match e.d with
      | .string => some (.int .i64 s.size)
      | _ => none
    | none => none
  | _ => none
def evIx (X : Cx P) (d t : Nat) (x : Option CV) (y : Option Value) : Got := match xget X.ix d with
  | some (.s _ base A m c i sz p h g) => (match x with
    | some (.v v) => (match y with
      | some (.int k j) => (match tget X.T t with
        | some e => (match e.d with
          | .slice el => (match tget X.T el with
            | some e2 => bif Nat.beq e2.sz sz then some (.p base 0, [(v, .slice A m c), (.int k j, .int k i), (.pointer (some (bget X.M base).a), .pointer (some p))]) else none
            | none => none)
          | _ => none)
        | none => none)
      | _ => none)
    | _ => none)
  | some (.a _ base b o m i g) => (match x with
    | some (.p i0 off) => (match y with
      | some (.int k j) => (match tget X.T t with
        | some e => (match e.d with
          | .array m' el => (match tget X.T el with
            | some e2 => bif Nat.beq m' m then some (.p base 0, [(.pointer (some ((bget X.M i0).a.add off)), .pointer (some ⟨b, o, none⟩)), (.int k j, .int k i), (.pointer (some (bget X.M base).a), .pointer (some ⟨b, o + i.toNat * e2.sz, none⟩))]) else none
            | none => none)
          | _ => none)
        | none => none)
      | _ => none)
    | _ => none)
  | some (.p ..) => none
  | none => none
def evPl (X : Cx P) (d : Nat) (v : Value) : CV × List (Value × Value) := match xget X.ix d with
  | some (.p _ i off) => (.p i off, [(v, (CV.p i off).den X.M)])
  | _ => (.v v, [])
def evLd (X : Cx P) (d : Nat) : Option Value → Got
  | some v => some (evPl X d v)
  | none => none
def ev (X : Cx P) (Γ : List GE) (π : List (Nat × Bool)) (d : Nat) : Op → Got
  | .move x => nob (rdo X Γ π x)
  | .assign x => nob (rdo X Γ π x)
  | .pick z x y => vob (evPick X Γ π z x y)
  | .binOp op xt x y _ => vob (match val1 (rdo X Γ π x) with
    | some a => (match val1 (rdo X Γ π y) with
      | some b => bop X.T xt op a b
      | none => none)
    | none => none)
  | .unOp op _ x => vob (match op with
    | .not => (match val1 (rdo X Γ π x) with
      | some (.bool b) => some (.bool (!b))
      | _ => none)
    | .neg => (match val1 (rdo X Γ π x) with
      | some (.int k a) => some (.int k (wr k (0 - a)))
      | _ => none)
    | _ => none)
  | .convert s t x => vob (evConv X s t (val1 (rdo X Γ π x)))
  | .load t x => evLd X d (evLoad X t (rdo X Γ π x))
  | .fieldAddr s x f => nob (evFA X s f (rdo X Γ π x))
  | .field s x f => vob (evField X s f (val1 (rdo X Γ π x)))
  | .extract x i => vob (evExt i (val1 (rdo X Γ π x)))
  | .build t ps => vob (evBuild X t (evParts X Γ π ps.toList))
  | .nilCheck x => match rdo X Γ π x with
    | some (.p i off) => some (.p i off, [])
    | _ => none
  | .indexAddr t x y => evIx X d t (rdo X Γ π x) (val1 (rdo X Γ π y))
  | .call c => match c.callee with
    | .builtin .len => (match c.args.toList with
      | [x] => (match c.argTypes.toList with
        | [t] => vob (evLen X t (val1 (rdo X Γ π x)))
        | _ => none)
      | _ => none)
    | _ => none
  | _ => none
def holds (Γ : List GE) (q : Nat × Bool) : Prop := ∃ e b, gat Γ q.1 = some e ∧ e.x = .v (.bool b) ∧ b = q.2
structure Snd (X : Cx P) (Γ : List GE) (a : Act) (w : World) : Prop where
  rd : ∀ π x cv, rdo X Γ π x = some cv → (∀ q ∈ π, holds Γ q) → a.eval x = cv.den X.M
  at_ : ∀ i, X.may i = true → CellsAt w (bget X.M i).a (bget X.M i).cs
  sg : ∀ s ∈ X.sg, CellsAt w ((bget X.M s.1).a.add s.2.1) s.2.2
  gt : ∀ t q, gfind Γ t = some q → gat Γ q.1 = some q.2
section
variable {X : Cx P} {Γ : List GE} {a : Act} {w : World} {π : List (Nat × Bool)} {d : Nat} {dst : Option Tmp} {ty : TypeId} {pos : String} {af : Array Edge} {gd : Option (Nat × Bool)}
theorem Snd.v1 (S : Snd X Γ a w) {x : Operand} {v : Value} (h : val1 (rdo X Γ π x) = some v) (hp : ∀ q ∈ π, holds Γ q) : a.eval x = v := S.rd π x _ (val1E h) hp
theorem sget_at {M : List Base} : ∀ {sg : List (Nat × Nat × List Value)} {i off sz : Nat} {l : List Value}, sget sg i off sz = some l → (∀ s ∈ sg, CellsAt w ((bget M s.1).a.add s.2.1) s.2.2) → CellsAt w ((bget M i).a.add off) l
  | [], i, off, sz, l, h, _ => by cases h
  | s :: r, i, off, sz, l, h, hs => by
    simp only [sget] at h
    cases hb : Nat.beq s.1 i && (Nat.ble s.2.1 off && Nat.ble (off + sz) (s.2.1 + s.2.2.length))
    · rw [hb] at h
      exact sget_at h fun s hs' => hs s (List.mem_cons_of_mem _ hs')
    · rw [hb] at h
      cases h
      simp only [Bool.and_eq_true] at hb
      have h1 := Nat.eq_of_beq_eq_true hb.1
      have h2 := Nat.le_of_ble_eq_true hb.2.1
      subst h1
      have h3 := hs s (List.mem_cons_self ..)
      intro j u hu
      rw [List.getElem?_drop] at hu
      have := h3 _ u hu
      rw [add_add] at this ⊢
      rwa [show s.2.1 + (off - s.2.1 + j) = off + j by omega] at this
theorem Snd.sgAt (S : Snd X Γ a w) {i off sz : Nat} {l : List Value} (h : sget X.sg i off sz = some l) : CellsAt w ((bget X.M i).a.add off) l := sget_at h S.sg
theorem evPick_ok (S : Snd X Γ a w) (hp : ∀ q ∈ π, holds Γ q) {z x y : Operand} {v : Value} (h : evPick X Γ π z x y = some v) : (execOp a.eval ⟨dst, .pick z x y, ty, pos, af, gd⟩).run P w = .ok (.value v) w := by
  unfold evPick at h
  split at h
  · rename_i t
    obtain ⟨hn, h⟩ := condE h
    split at h
    · rename_i q hq
      obtain ⟨hs, h⟩ := condE h
      split at h
      · rename_i b hb
        split at h
        · rename_i c hc
          split at h
          · rename_i e he
            cases h
            have hz : a.eval (.tmp t) = .bool b := by
              have := S.rd π (.tmp t) q.2.x (by simp only [rdo, hn, hq, hs, cond_true]) hp
              rw [this, hb]; rfl
            have ext : ∀ u, b = u → ∀ r ∈ π ++ [(q.1, u)], holds Γ r := by
              intro u hu r hr
              rcases List.mem_append.1 hr with hr | hr
              · exact hp r hr
              · rw [List.mem_singleton] at hr
                subst hr
                exact ⟨q.2, b, S.gt t q hq, hb, hu⟩
            refine e_pick (v1 := .bool c) (v2 := .bool e) hz (fun hu => S.v1 hc (ext true hu)) (fun hu => S.v1 he (ext false hu)) ?_
            unfold pickB
            split
            · rename_i h1; rw [isC_ok h1 hc]; cases b <;> rfl
            · split
              · rename_i h1; rw [isC_ok h1 he]; cases b <;> simp
              · cases b <;> rfl
          · cases h
        · cases h
      · cases h
    · cases h
  · cases h
theorem evParts_ok (S : Snd X Γ a w) (hp : ∀ q ∈ π, holds Γ q) : ∀ {ps : List (Nat × Operand)} {l : List (Nat × Value)}, evParts X Γ π ps = some l → EvP a.eval ps l
  | [], l, h => by cases h; exact .nil
  | p :: r, l, h => by
    simp only [evParts] at h
    split at h
    · rename_i v hv
      split at h
      · rename_i l' hl
        cases h
        obtain ⟨i, x⟩ := p
        exact .cons (S.v1 hv hp) (evParts_ok S hp hl)
      · cases h
    · cases h
theorem fs_at {fs : Array Field} {f : Nat} {fd : Field} (h : fs.toList[f]? = some fd) : fs[f]? = some fd := by simpa using h
theorem TE.uu {T : List (TE P)} {t : Nat} {e : TE P} {D : TypeDesc} (h : tget T t = some e) (hd : e.d = D) : UT P t D := by have := e.u; rw [hd, tget_t h] at this; exact this
theorem TE.ss {T : List (TE P)} {t : Nat} {e : TE P} (h : tget T t = some e) : SZ P t e.sz := by have := e.s; rw [tget_t h] at this; exact this
theorem TE.aa {T : List (TE P)} {t : Nat} {e : TE P} {b : Bool} (h : tget T t = some e) (hb : e.ag = b) : AG P t b := by have := e.a; rw [tget_t h, hb] at this; exact this
theorem toA (cs : Array Value) : cs = cs.toList.toArray := rfl
theorem ev_ok (S : Snd X Γ a w) (hp : ∀ q ∈ π, holds Γ q) {op : Op} {q : CV × List (Value × Value)} (h : ev X Γ π d op = some q) (ho : ∀ p ∈ q.2, p.1 = p.2) :
    (execOp a.eval ⟨dst, op, ty, pos, af, gd⟩).run P w = .ok (.value (q.1.den X.M)) w := by
  cases op <;> try (cases h; done)
  case move x => exact e_move (S.rd π x _ (nobE h) hp)
  case assign x => exact e_assign (S.rd π x _ (nobE h) hp)
  case pick z x y =>
    obtain ⟨v, h1, h2⟩ := vobE h
    rw [h2]; exact evPick_ok S hp h1
  case binOp op xt x y yt =>
    obtain ⟨v, h1, h2⟩ := vobE h
    rw [h2]
    split at h1
    · rename_i v1 hv1
      split at h1
      · rename_i v2 hv2
        exact e_bin (S.v1 hv1 hp) (S.v1 hv2 hp) (bop_ok h1)
      · cases h1
    · cases h1
  case unOp op xt x =>
    obtain ⟨v, h1, h2⟩ := vobE h
    rw [h2]
    cases op <;> first | (cases h1; done) | skip
    · simp only [] at h1
      split at h1
      · rename_i v1 hv1; cases h1; exact e_un (S.v1 hv1 hp) (r_neg (wr_eq _ _))
      · cases h1
    · simp only [] at h1
      split at h1
      · rename_i v1 hv1; cases h1; exact e_un (S.v1 hv1 hp) (r_not rfl)
      · cases h1
  case convert s t x =>
    obtain ⟨v, h1, h2⟩ := vobE h
    rw [h2]
    unfold evConv at h1
    split at h1
    · rename_i k c hc
      split at h1
      · rename_i e1 he1
        split at h1
        · rename_i e2 he2
          split at h1
          · rename_i k' hk'
            cases h1
            exact e_conv (S.v1 hc hp) (TE.uu he1 rfl) (TE.uu he2 hk') (wr_eq _ _)
          · cases h1
        · cases h1
      · cases h1
    · cases h1
  case load t x =>
    obtain ⟨v, h1, h2⟩ : ∃ v, evLoad X t (rdo X Γ π x) = some v ∧ q.1.den X.M = v := by
      simp only [ev] at h
      cases hv : evLoad X t (rdo X Γ π x) with
      | none => rw [hv] at h; cases h
      | some v =>
        rw [hv] at h
        refine ⟨v, rfl, ?_⟩
        simp only [evLd, evPl] at h
        split at h
        · cases h; exact (ho _ (List.mem_singleton.2 rfl)).symm
        · cases h; rfl
    rw [h2]
    unfold evLoad at h1
    split at h1
    · rename_i i off hx
      split at h1
      · rename_i e he
        have hx' := S.rd π x _ hx hp
        have key : ∀ l, CellsAt w ((bget X.M i).a.add off) l → evCells e l = some v → (execOp a.eval ⟨dst, .load t x, ty, pos, af, gd⟩).run P w = .ok (.value v) w := by
          intro l hc h1
          unfold evCells at h1
          cases hag : e.ag
          · rw [hag] at h1
            exact e_load1 hx' (TE.aa he hag) (cells_zero hc h1)
          · rw [hag] at h1
            obtain ⟨hl, h1⟩ := condE (h1 : (bif Nat.beq _ _ then _ else _) = _)
            cases h1
            refine e_loadA hx' (TE.aa he hag) (TE.ss he) (Nat.eq_of_beq_eq_true hl) ?_
            intro j u hu
            refine hc j u ?_
            rw [List.getElem?_take] at hu
            split at hu
            · exact hu
            · cases hu
        split at h1
        · rename_i l hl
          exact key l (S.sgAt hl) h1
        · obtain ⟨hm, h1⟩ := condE h1
          refine key _ ?_ h1
          intro j u hu
          rw [add_add]
          rw [List.getElem?_drop] at hu
          exact S.at_ i hm _ u hu
      · cases h1
    · cases h1
  case fieldAddr s x f =>
    have h1 := nobE h
    unfold evFA at h1
    split at h1
    · rename_i i off hx
      split at h1
      · rename_i e he
        split at h1
        · rename_i fs hfs
          split at h1
          · rename_i fd hfd
            split at h1
            · rename_i e2 he2
              cases hz : Nat.beq e2.sz 0
              · rw [hz] at h1
                injection h1 with h1
                rw [← h1]
                exact e_fieldAddr (S.rd π x _ hx hp) (TE.uu he hfs) (fs_at hfd) (TE.ss he2) hz (add_add _ _ _)
              · rw [hz] at h1; cases h1
            · cases h1
          · cases h1
        · cases h1
      · cases h1
    · cases h1
  case field s x f =>
    obtain ⟨v, h1, h2⟩ := vobE h
    rw [h2]
    unfold evField at h1
    split at h1
    · rename_i cs hx
      split at h1
      · rename_i e he
        split at h1
        · rename_i fs hfs
          split at h1
          · rename_i fd hfd
            split at h1
            · rename_i e2 he2
              cases hag : e2.ag
              · rw [hag] at h1
                exact e_field1 (cs := cs.toList) (S.v1 hx hp) (TE.uu he hfs) (fs_at hfd) (TE.aa he2 hag) h1
              · rw [hag] at h1
                cases h1
                exact e_fieldA (cs := cs.toList) (S.v1 hx hp) (TE.uu he hfs) (fs_at hfd) (TE.aa he2 hag) (TE.ss he2) rfl
            · cases h1
          · cases h1
        · cases h1
      · cases h1
    · cases h1
  case extract x i =>
    obtain ⟨v, h1, h2⟩ := vobE h
    rw [h2]
    unfold evExt at h1
    split at h1
    · rename_i vs hx
      exact e_extract (vs := vs.toList) (S.v1 hx hp) h1
    · cases h1
  case build t ps =>
    obtain ⟨v, h1, h2⟩ := vobE h
    rw [h2]
    unfold evBuild at h1
    split at h1
    · rename_i l hl
      split at h1
      · rename_i e he
        split at h1
        · rename_i qz hqz
          split at h1
          · rename_i cells hc
            cases h1
            have hb := e.b qz hqz
            rw [tget_t he] at hb
            exact e_build (ps := ps.toList) (vs := l) (cs := cells.toList) (evParts_ok S hp hl) (hb l cells w hc)
          · cases h1
        · cases h1
      · cases h1
    · cases h1
  case nilCheck x =>
    simp only [ev] at h
    split at h
    · rename_i i off hx
      cases h
      exact e_nilCheckP (S.rd π x _ hx hp)
    · cases h
  case indexAddr t x y =>
    simp only [ev, evIx] at h
    split at h
    · rename_i sl base A m c i sz p hh g hix
      split at h
      · rename_i v hx
        split at h
        · rename_i k j hy
          split at h
          · rename_i e he
            split at h
            · rename_i el hel
              split at h
              · rename_i e2 he2
                cases hz : Nat.beq e2.sz sz
                · rw [hz] at h; cases h
                · rw [hz] at h
                  cases h
                  have o1 := ho _ (List.mem_cons_self ..)
                  have o2 := ho _ (List.mem_cons_of_mem _ (List.mem_cons_self ..))
                  have o3 := ho _ (List.mem_cons_of_mem _ (List.mem_cons_of_mem _ (List.mem_cons_self ..)))
                  simp only at o1 o2 o3
                  have e1 : a.eval x = .slice A m c := (S.rd π x _ hx hp).trans o1
                  have e3 : a.eval y = .int k i := (S.v1 hy hp).trans o2
                  have e4 : (CV.p base 0).den X.M = .pointer (some p) := by
                    rw [← o3]; simp [CV.den, Addr.add]
                  rw [e4]
                  exact e_idx e1 e3 (TE.uu he hel) (Nat.eq_of_beq_eq_true hz ▸ TE.ss he2) hh g
              · cases h
            · cases h
          · cases h
        · cases h
      · cases h
    · rename_i sl base b o m i g hix
      split at h
      · rename_i i0 off hx
        split at h
        · rename_i k j hy
          split at h
          · rename_i e he
            split at h
            · rename_i m' el hel
              split at h
              · rename_i e2 he2
                cases hz : Nat.beq m' m
                · rw [hz] at h; cases h
                · rw [hz] at h
                  cases h
                  have hm := Nat.eq_of_beq_eq_true hz
                  subst hm
                  have o1 := ho _ (List.mem_cons_self ..)
                  have o2 := ho _ (List.mem_cons_of_mem _ (List.mem_cons_self ..))
                  have o3 := ho _ (List.mem_cons_of_mem _ (List.mem_cons_of_mem _ (List.mem_cons_self ..)))
                  simp only at o1 o2 o3
                  have e1 : a.eval x = .pointer (some ⟨b, o, none⟩) := (S.rd π x _ hx hp).trans o1
                  have e3 : a.eval y = .int k i := (S.v1 hy hp).trans o2
                  have e4 : (CV.p base 0).den X.M = .pointer (some ⟨b, o + i.toNat * e2.sz, none⟩) := by
                    rw [← o3]; simp [CV.den, Addr.add]
                  rw [e4]
                  exact e_aidx e1 e3 (TE.uu he hel) (TE.ss he2) g
              · cases h
            · cases h
          · cases h
        · cases h
      · cases h
    · cases h
    · cases h
  case call c =>
    obtain ⟨callee, cargs, cty⟩ := c
    simp only [ev] at h
    split at h
    · split at h
      · rename_i x hargs
        split at h
        · rename_i t hty
          obtain ⟨v, h1, h2⟩ := vobE h
          rw [h2]
          have ha : cargs = [x].toArray := by rw [← hargs]
          have hb : cty = #[t] := by rw [show cty = cty.toList.toArray from rfl, hty]
          subst ha; subst hb
          unfold evLen at h1
          split at h1
          · rename_i A m cc hx
            split at h1
            · rename_i e he
              split at h1
              · rename_i el hel
                cases h1
                exact e_builtin (.cons (S.v1 hx hp) .nil) (r_lens (TE.uu he hel))
              · cases h1
            · cases h1
          · rename_i s hx
            split at h1
            · rename_i e he
              split at h1
              · rename_i hel
                cases h1
                exact e_builtin (.cons (S.v1 hx hp) .nil) (r_lenstr (TE.uu he hel))
              · cases h1
            · cases h1
          · cases h1
        · cases h
      · cases h
    · cases h
end
def gc : List (Nat × Bool) → Bool → Bool → Bool
  | [], _, f => f
  | _, c, f => c && f
def stepE (X : Cx P) (Γ : List GE) (o : Oper) : Option (List GE) := match o.dst with
  | none => none
  | some d => bif Nat.blt d X.n then (match o.guard with
    | none => (match ev X Γ [] d o.op with
      | some q => some (⟨d, [], true, q.1, q.2⟩ :: Γ)
      | none => none)
    | some g => (match dstAt X.ol g.1 with
      | some dj => bif Nat.blt dj X.n then (match gfind Γ dj with
        | some q => (match q.2.x with
          | .v (.bool b) => (match ev X Γ (q.2.path ++ [(q.1, g.2)]) d o.op with
            | some r => some (⟨d, q.2.path ++ [(q.1, g.2)], gc q.2.path q.2.c (bif g.2 then b else !b), r.1, r.2⟩ :: Γ)
            | none => none)
          | _ => none)
        | none => none) else none
      | none => none)) else none
def runE (X : Cx P) : List GE → List Oper → Option (List GE)
  | Γ, [] => some Γ
  | Γ, o :: r => match stepE X Γ o with
    | some Γ' => runE X Γ' r
    | none => none
def GOk : List GE → Prop
  | [] => True
  | e :: r => GOk r ∧ (∀ q ∈ e.path, q.1 < r.length) ∧ (e.path = [] ∨ (e.c = true ↔ ∀ q ∈ e.path, holds r q))
theorem gat_cons {e : GE} {r : List GE} {k : Nat} (h : k < r.length) : gat (e :: r) k = gat r k := by
  have : Nat.beq r.length k = false := by
    cases hb : Nat.beq r.length k
    · rfl
    · have := Nat.eq_of_beq_eq_true hb; omega
  simp [gat, this]
theorem gat_lt : ∀ {Γ : List GE} {k : Nat} {e : GE}, gat Γ k = some e → k < Γ.length
  | [], k, e, h => by cases h
  | x :: r, k, e, h => by
    simp only [gat] at h
    cases hb : Nat.beq r.length k
    · rw [hb] at h; have := gat_lt h; simp; omega
    · have := Nat.eq_of_beq_eq_true hb; simp; omega
theorem holds_cons {e : GE} {r : List GE} {q : Nat × Bool} (h : q.1 < r.length) : holds (e :: r) q ↔ holds r q := by
  unfold holds; rw [gat_cons h]
theorem gfind_at : ∀ {Γ : List GE} {t : Nat} {q : Nat × GE}, gfind Γ t = some q → gat Γ q.1 = some q.2
  | [], t, q, h => by cases h
  | x :: r, t, q, h => by
    simp only [gfind] at h
    cases hb : Nat.beq x.slot t
    · rw [hb] at h
      have h1 := gfind_at (h : gfind r t = some q)
      rw [gat_cons (gat_lt h1)]; exact h1
    · rw [hb] at h; cases h; simp [gat]
theorem gfind_slot : ∀ {Γ : List GE} {t : Nat} {q : Nat × GE}, gfind Γ t = some q → q.2.slot = t
  | [], t, q, h => by cases h
  | x :: r, t, q, h => by
    simp only [gfind] at h
    cases hb : Nat.beq x.slot t
    · rw [hb] at h; exact gfind_slot (h : gfind r t = some q)
    · rw [hb] at h; cases h; exact Nat.eq_of_beq_eq_true hb
theorem qeq_eq {q r : Nat × Bool} (h : qeq q r = true) : q = r := by
  obtain ⟨a, b⟩ := q
  obtain ⟨c, d⟩ := r
  simp only [qeq, Bool.and_eq_true] at h
  have h1 := Nat.eq_of_beq_eq_true h.1
  subst h1
  cases b <;> cases d <;> simp at h ⊢
theorem g_val {M : List Base} : ∀ {Γ : List GE} {t : Nat} {q : Nat × GE} {π : List (Nat × Bool)}, GOk Γ → gfind Γ t = some q → (∀ r ∈ π, holds Γ r) → sub_ q.2.path π = true → q.2.val M = q.2.x.den M
  | [], t, q, π, _, h, _, _ => by cases h
  | x :: r, t, q, π, hk, h, hp, hs => by
    simp only [gfind] at h
    have hin : ∀ u ∈ q.2.path, holds (x :: r) u := by
      intro u hu
      have h1 := List.all_eq_true.1 hs u hu
      obtain ⟨v, hv, he⟩ := List.any_eq_true.1 h1
      rw [qeq_eq he]; exact hp v hv
    cases hb : Nat.beq x.slot t
    · rw [hb] at h
      refine g_val (π := q.2.path) hk.1 (h : gfind r t = some q) (fun u hu => ?_) (List.all_eq_true.2 fun u hu => List.any_eq_true.2 ⟨u, hu, ?_⟩)
      · have h1 := gfind_at (h : gfind r t = some q)
        exact (holds_cons (g_low hk.1 h1 u hu)).1 (hin u hu)
      · simp only [qeq, Nat.beq_refl, Bool.true_and]; cases u.2 <;> rfl
    · rw [hb] at h; cases h
      unfold GE.val
      cases hpth : x.path with
      | nil => rfl
      | cons a l =>
        have h2 := hk.2.2.resolve_left (by rw [hpth]; simp)
        have : x.c = true := h2.2 fun u hu => (holds_cons (hk.2.1 u hu)).1 (hin u hu)
        simp only [this, cond_true]
where
  g_low {Γ : List GE} (hk : GOk Γ) {k : Nat} {e : GE} (h : gat Γ k = some e) : ∀ q ∈ e.path, q.1 < Γ.length := by
    induction Γ with
    | nil => cases h
    | cons x r ih =>
      simp only [gat] at h
      cases hb : Nat.beq r.length k
      · rw [hb] at h
        intro q hq
        have := ih hk.1 h q hq
        simp; omega
      · rw [hb] at h; cases h
        intro q hq
        have := hk.2.1 q hq
        simp; omega
theorem ov_lfind {L : Env} {σ : Nat → Value} {t : Nat} {v : Value} (h : lfind L t = some v) : ov L σ t = v := by
  induction L with
  | nil => cases h
  | cons p r ih =>
    simp only [lfind] at h
    simp only [ov]
    cases hb : Nat.beq p.1 t
    · rw [hb] at h; exact ih h
    · rw [hb] at h; cases h; rfl
theorem ov_none {L : Env} {σ : Nat → Value} {t : Nat} (h : lfind L t = none) : ov L σ t = σ t := by
  induction L with
  | nil => rfl
  | cons p r ih =>
    simp only [lfind] at h
    simp only [ov]
    cases hb : Nat.beq p.1 t
    · rw [hb] at h; exact ih h
    · rw [hb] at h; cases h
theorem ov_gden {M : List Base} {L : Env} {σ : Nat → Value} {t : Nat} : ∀ {Γ : List GE}, ov (gden M Γ ++ L) σ t = match gfind Γ t with
    | some q => q.2.val M
    | none => ov L σ t
  | [] => rfl
  | x :: r => by
    simp only [gden, List.map_cons, List.cons_append, ov, gfind]
    cases hb : Nat.beq x.slot t
    · exact ov_gden
    · rfl
structure Bg (X : Cx P) (σ : Nat → Value) (w : World) : Prop where
  S : ∀ t q, sfind X.S t = some q → lfind X.L t = some ((CV.p q.1 q.2).den X.M)
  at_ : ∀ i, X.may i = true → CellsAt w (bget X.M i).a (bget X.M i).cs
  sg : ∀ s ∈ X.sg, CellsAt w ((bget X.M s.1).a.add s.2.1) s.2.2
theorem Bg.snd {X : Cx P} {σ : Nat → Value} {ds : List Deferred} {w : World} {Γ : List GE} (B : Bg X σ w) (hk : GOk Γ) : Snd X Γ (st X.n (gden X.M Γ ++ X.L) σ ds) w := by
  refine ⟨fun π x cv h hp => ?_, B.at_, B.sg, fun t q h => gfind_at h⟩
  cases x <;> first | (cases h; done) | skip
  case const v => cases h; rfl
  case tmp t =>
    simp only [rdo] at h
    cases hn : Nat.blt t X.n
    · rw [hn] at h; cases h
    rw [hn] at h
    simp only [cond_true] at h
    refine tm hn ?_
    rw [ov_gden]
    cases hg : gfind Γ t with
    | some q =>
      rw [hg] at h
      simp only [] at h ⊢
      cases hs : sub_ q.2.path π
      · rw [hs] at h; cases h
      · rw [hs] at h; cases h
        exact g_val hk hg hp hs
    | none =>
      rw [hg] at h
      simp only [] at h ⊢
      cases hf : sfind X.S t with
      | some q =>
        rw [hf] at h
        simp only [] at h
        cases h
        exact ov_lfind (B.S t q hf)
      | none =>
        rw [hf] at h
        simp only [] at h
        cases hl : lfind X.L t with
        | some v => rw [hl] at h; cases h; exact ov_lfind hl
        | none => rw [hl] at h; cases h
def obs : List GE → List (Value × Value)
  | [] => []
  | e :: r => e.ob ++ obs r
variable {Q : Exit → Act → World → Prop} {N : Act → World → Prop} {rest : List Oper}
theorem obs_step {X : Cx P} {Γ Γ' : List GE} {o : Oper} (h : stepE X Γ o = some Γ') (k : ∀ p ∈ obs Γ', p.1 = p.2) : ∀ p ∈ obs Γ, p.1 = p.2 := by
  have : ∃ e, Γ' = e :: Γ := by
    unfold stepE at h
    split at h
    · cases h
    · rename_i d hd
      cases hn : Nat.blt d X.n
      · rw [hn] at h; cases h
      rw [hn] at h
      simp only [cond_true] at h
      split at h
      · split at h
        · cases h; exact ⟨_, rfl⟩
        · cases h
      · split at h
        · rename_i dj hdj
          cases hn2 : Nat.blt dj X.n
          · rw [hn2] at h; cases h
          rw [hn2] at h
          simp only [cond_true] at h
          split at h
          · split at h
            · split at h
              · cases h; exact ⟨_, rfl⟩
              · cases h
            · cases h
          · cases h
        · cases h
  obtain ⟨e, rfl⟩ := this
  exact fun p hp => k p (by simp only [obs, List.mem_append]; exact .inr hp)
theorem obs_run {X : Cx P} : ∀ {ops : List Oper} {Γ Γ' : List GE}, runE X Γ ops = some Γ' → (∀ p ∈ obs Γ', p.1 = p.2) → ∀ p ∈ obs Γ, p.1 = p.2
  | [], Γ, Γ', h, k => by cases h; exact k
  | o :: r, Γ, Γ', h, k => by
    simp only [runE] at h
    split at h
    · rename_i Γ1 h1
      exact obs_step h1 (obs_run h k)
    · cases h
theorem path_holds {e : GE} {Γ : List GE} {t : Nat} {q : Nat × GE} {b : Bool} (hk : GOk Γ) (hq : gfind Γ t = some q) (hb : q.2.x = .v (.bool b)) (u : Bool) :
    (∀ r ∈ q.2.path ++ [(q.1, u)], r.1 < Γ.length) ∧ ((gc q.2.path q.2.c (bif u then b else !b) = true) ↔ ∀ r ∈ q.2.path ++ [(q.1, u)], holds Γ r) := by
  have h1 := gfind_at hq
  have hlow := g_val.g_low hk h1
  have hlt := gat_lt h1
  have hself : holds Γ (q.1, u) ↔ b = u := by
    constructor
    · rintro ⟨e, b', h2, h3, h4⟩
      rw [h1] at h2
      cases h2
      rw [hb] at h3
      cases h3
      exact h4
    · intro h2; exact ⟨q.2, b, h1, hb, h2⟩
  have hc : q.2.path = [] ∨ (q.2.c = true ↔ ∀ r ∈ q.2.path, holds Γ r) := by
    have : ∀ {Γ : List GE}, GOk Γ → ∀ {k : Nat} {e : GE}, gat Γ k = some e → e.path = [] ∨ (e.c = true ↔ ∀ r ∈ e.path, holds Γ r) := by
      intro Γ
      induction Γ with
      | nil => intro _ k e h; cases h
      | cons x r ih =>
        intro hk k e h
        simp only [gat] at h
        cases hb : Nat.beq r.length k
        · rw [hb] at h
          refine (ih hk.1 h).imp id fun h5 => h5.trans ?_
          exact ⟨fun h6 u hu => (holds_cons (g_val.g_low hk.1 h u hu)).2 (h6 u hu), fun h6 u hu => (holds_cons (g_val.g_low hk.1 h u hu)).1 (h6 u hu)⟩
        · rw [hb] at h; cases h
          refine hk.2.2.imp id fun h5 => h5.trans ?_
          exact ⟨fun h6 u hu => (holds_cons (hk.2.1 u hu)).2 (h6 u hu), fun h6 u hu => (holds_cons (hk.2.1 u hu)).1 (h6 u hu)⟩
    exact this hk h1
  refine ⟨fun r hr => ?_, ?_⟩
  · rcases List.mem_append.1 hr with hr | hr
    · exact hlow r hr
    · rw [List.mem_singleton] at hr; subst hr; exact hlt
  · have hf : (bif u then b else !b) = true ↔ b = u := by cases u <;> cases b <;> simp
    have happ : (∀ r ∈ q.2.path ++ [(q.1, u)], holds Γ r) ↔ (∀ r ∈ q.2.path, holds Γ r) ∧ b = u := by
      constructor
      · intro h; exact ⟨fun r hr => h r (List.mem_append_left _ hr), hself.1 (h _ (List.mem_append_right _ (List.mem_singleton.2 rfl)))⟩
      · rintro ⟨h2, h3⟩ r hr
        rcases List.mem_append.1 hr with hr | hr
        · exact h2 r hr
        · rw [List.mem_singleton] at hr; subst hr; exact hself.2 h3
    rw [happ]
    cases hp : q.2.path with
    | nil => simp only [gc, hf, List.not_mem_nil, false_imp_iff, implies_true, true_and]
    | cons a l =>
      have h2 := hc.resolve_left (by rw [hp]; simp)
      rw [hp] at h2
      simp only [gc, Bool.and_eq_true, hf, h2]
theorem run_list {X : Cx P} {σ : Nat → Value} {ds : List Deferred} {w : World} (B : Bg X σ w) : ∀ {ops : List Oper} {Γ Γ' : List GE}, GOk Γ → runE X Γ ops = some Γ' → (∀ p ∈ obs Γ', p.1 = p.2) →
    wpList P X.ol.toArray Q rest (st X.n (gden X.M Γ' ++ X.L) σ ds) w → wpList P X.ol.toArray Q (ops ++ rest) (st X.n (gden X.M Γ ++ X.L) σ ds) w
  | [], Γ, Γ', _, h, _, k => by cases h; exact k
  | o :: r, Γ, Γ', hk, h, ho, k => by
    simp only [runE] at h
    split at h
    · rename_i Γ1 h1
      have ho1 := obs_run h ho
      obtain ⟨dst, op, ty, pos, af, gd⟩ := o
      have S := B.snd (ds := ds) hk
      have hnil : ∀ q ∈ ([] : List (Nat × Bool)), holds Γ q := fun q hq => by cases hq
      have h1' := h1
      unfold stepE at h1
      split at h1
      · cases h1
      · rename_i d hd
        simp only at hd
        subst hd
        cases hn : Nat.blt d X.n
        · rw [hn] at h1; cases h1
        rw [hn] at h1
        simp only [cond_true] at h1
        split at h1
        · skip
          split at h1
          · rename_i q hq
            cases h1
            have hx := ev_ok (dst := some d) (ty := ty) (pos := pos) (af := af) (gd := none) S hnil hq (fun p hp => ho1 p (by simp only [obs, List.mem_append]; exact .inl hp))
            refine sv rfl rfl hn hx ?_
            exact run_list B (Γ := ⟨d, [], true, q.1, q.2⟩ :: Γ) ⟨hk, (fun q hq => by cases hq), .inl rfl⟩ h ho k
          · cases h1
        · rename_i g
          split at h1
          · rename_i dj hdj
            cases hn2 : Nat.blt dj X.n
            · rw [hn2] at h1; cases h1
            rw [hn2] at h1
            simp only [cond_true] at h1
            split at h1
            · rename_i q hq
              split at h1
              · rename_i b hb
                split at h1
                · rename_i rr hrr
                  cases h1
                  obtain ⟨hlow, hiff⟩ := path_holds (e := q.2) hk hq hb g.2
                  have hk1 : GOk (⟨d, q.2.path ++ [(q.1, g.2)], gc q.2.path q.2.c (bif g.2 then b else !b), rr.1, rr.2⟩ :: Γ) := ⟨hk, hlow, .inr hiff⟩
                  have key := run_list B hk1 h ho k
                  have hval : (GE.val X.M ⟨d, q.2.path ++ [(q.1, g.2)], gc q.2.path q.2.c (bif g.2 then b else !b), rr.1, rr.2⟩) = bif gc q.2.path q.2.c (bif g.2 then b else !b) then rr.1.den X.M else undef := by
                    unfold GE.val
                    cases hp2 : q.2.path ++ [(q.1, g.2)] with
                    | nil => simp at hp2
                    | cons _ _ => rfl
                  have hdj' : ov (gden X.M Γ ++ X.L) σ dj = q.2.val X.M := by rw [ov_gden, hq]
                  simp only [gden, List.map_cons, List.cons_append] at key
                  rw [hval] at key
                  cases hcase : gc q.2.path q.2.c (bif g.2 then b else !b)
                  · rw [hcase] at key
                    simp only [cond_false] at key
                    by_cases hund : q.2.val X.M = undef
                    · exact goffu hdj hn2 (hdj'.trans hund) hn key
                    · have hq2 : q.2.val X.M = .bool b := by
                        unfold GE.val at hund ⊢
                        cases hp3 : q.2.path with
                        | nil => rw [hb]; rfl
                        | cons x l =>
                          rw [hp3] at hund
                          simp only [] at hund ⊢
                          cases hc3 : q.2.c
                          · rw [hc3] at hund; exact absurd rfl hund
                          · rw [hb]; rfl
                      refine goff hdj hn2 (hdj'.trans (hq2.trans ?_)) hn key
                      have : (bif g.2 then b else !b) = false := by
                        cases hp3 : q.2.path with
                        | nil => rw [hp3] at hcase; exact hcase
                        | cons x l =>
                          rw [hp3] at hcase
                          simp only [gc] at hcase
                          cases hc3 : q.2.c
                          · exfalso; apply hund; unfold GE.val; rw [hp3]; simp only [hc3, cond_false]
                          · rw [hc3, Bool.true_and] at hcase; exact hcase
                      congr 1
                      cases hg2 : g.2 <;> rw [hg2] at this <;> cases b <;> simp at this ⊢
                  · rw [hcase] at key
                    simp only [cond_true] at key
                    have hall := hiff.1 hcase
                    have hx := ev_ok (dst := some d) (ty := ty) (pos := pos) (af := af) (gd := none) S hall hrr (fun p hp => ho1 p (by simp only [obs, List.mem_append]; exact .inl hp))
                    have hbu : b = g.2 := by
                      obtain ⟨e, b', h2, h3, h4⟩ := hall (q.1, g.2) (List.mem_append_right _ (List.mem_singleton.2 rfl))
                      rw [gfind_at hq] at h2
                      cases h2
                      rw [hb] at h3
                      cases h3
                      exact h4
                    have hv := g_val (M := X.M) (π := q.2.path) hk hq (fun r hr => hall r (List.mem_append_left _ hr)) (List.all_eq_true.2 fun u hu => List.any_eq_true.2 ⟨u, hu, by simp only [qeq, Nat.beq_refl, Bool.true_and]; cases u.2 <;> rfl⟩)
                    rw [hb] at hv
                    refine gon (want := g.2) hdj hn2 (hdj'.trans (hv.trans (by rw [hbu]; rfl))) ?_
                    exact sv rfl rfl hn hx key
                · cases h1
              · cases h1
            · cases h1
          · cases h1
    · cases h
def imp (L : Env) : List Nat → List GE
  | [] => []
  | t :: r => match lfind L t with
    | some v => ⟨t, [], true, .v v, []⟩ :: imp L r
    | none => imp L r
theorem imp_ok (L : Env) : ∀ im : List Nat, GOk (imp L im) ∧ obs (imp L im) = [] ∧ ∀ t q, gfind (imp L im) t = some q → ∃ v, lfind L t = some v ∧ ∀ M, q.2.val M = v
  | [] => ⟨trivial, rfl, fun t q h => by cases h⟩
  | t :: r => by
    obtain ⟨h1, h2, h3⟩ := imp_ok L r
    simp only [imp]
    cases hl : lfind L t with
    | none => exact ⟨h1, h2, h3⟩
    | some v =>
      refine ⟨⟨h1, (fun q hq => by cases hq), .inl rfl⟩, h2, fun t' q hq => ?_⟩
      simp only [gfind] at hq
      cases hb : Nat.beq t t'
      · rw [hb] at hq; exact h3 t' q hq
      · rw [hb] at hq
        cases hq
        have := Nat.eq_of_beq_eq_true hb
        subst this
        exact ⟨v, hl, fun M => rfl⟩
structure Ext (w : World) where
  a : Addr
  cs : List Value
  h : CellsAt w a cs
def Ext.b {w : World} (e : Ext w) : Base := ⟨e.a, e.cs⟩
def bx : Rsc → Base
  | [(b, .cells c _ _)] => ⟨⟨b, 0, none⟩, c.toList⟩
  | _ => ⟨⟨0, 0, none⟩, []⟩
theorem bx_ok {w : World} {r : Rsc} (h : ∀ p ∈ r, w.heap[p.1]? = some p.2) : CellsAt w (bx r).a (bx r).cs := by
  unfold bx
  split
  · rename_i b c e fz
    have := h _ (List.mem_singleton.2 rfl)
    simp only at this
    intro j u hu
    rw [add_none, Nat.zero_add]
    refine cell_at this ?_
    simpa using hu
  · intro j u hu; simp at hu
theorem nilAt {w : World} {a : Addr} : CellsAt w a [] := fun j u hu => by simp at hu
theorem bases_ok {M I : Nat → Prop} {w0 wr w : World} {R : List Rsc} (h : Hp M I w0 wr w R) (ex : List (Ext w)) (i : Nat) : CellsAt w (bget (R.map bx ++ ex.map Ext.b) i).a (bget (R.map bx ++ ex.map Ext.b) i).cs := by
  unfold bget
  rw [List.getD_eq_getElem?_getD]
  cases hi : (R.map bx ++ ex.map Ext.b)[i]? with
  | none => exact nilAt
  | some b =>
    have hm := List.mem_of_getElem? hi
    rcases List.mem_append.1 hm with hm | hm
    · obtain ⟨r, hr, rfl⟩ := List.mem_map.1 hm
      exact bx_ok fun p hp => h.own p (List.mem_flatten.2 ⟨r, hr, hp⟩)
    · obtain ⟨e, he, rfl⟩ := List.mem_map.1 hm
      exact e.h
structure Sgt (w : World) where
  i : Nat
  o : Nat
  a : Addr
  cs : List Value
  h : CellsAt w a cs
def Sgt.t {w : World} (s : Sgt w) : Nat × Nat × List Value := (s.i, s.o, s.cs)
def Sgt.ob {w : World} (M : List Base) (s : Sgt w) : Value × Value := (.pointer (some ((bget M s.i).a.add s.o)), .pointer (some s.a))
def outs (M : List Base) (Γ : List GE) : Env → Option (List (Value × Value))
  | [] => some []
  | p :: r => match gfind Γ p.1 with
    | some q => match outs M Γ r with
      | some l => some ((q.2.val M, p.2) :: l)
      | none => none
    | none => none
def sob (L : Env) (M : List Base) : List (Nat × Nat × Nat) → List (Value × Value)
  | [] => []
  | p :: r => (match lfind L p.1 with
    | some v => (v, (CV.p p.2.1 p.2.2).den M)
    | none => (.bool true, .bool false)) :: sob L M r
def inL (L : Env) (d : Nat) : Bool := match lfind L d with
  | some _ => true
  | none => false
def freshB (L L' : Env) (ops : List Oper) : Bool := ops.all fun o => match o.dst with
  | some d => inL L' d || !inL L d
  | none => true
def outE (X : Cx P) (im : List Nat) (ops : List Oper) (L' : Env) (z : List (Value × Value)) : Option (List (Value × Value)) := match runE X (imp X.L im) ops with
  | some Γ => bif freshB X.L L' ops then (match outs X.M Γ L' with
    | some l => some (obs Γ ++ (l ++ (sob X.L X.M X.S ++ z)))
    | none => none) else none
  | none => none
def sideL : Option (List (Value × Value)) → List (Option Value)
  | some l => l.map fun p => some p.1
  | none => [none]
def sideR : Option (List (Value × Value)) → List (Option Value)
  | some l => l.map fun p => some p.2
  | none => []
theorem sides {o : Option (List (Value × Value))} (h : sideL o = sideR o) : ∃ l, o = some l ∧ ∀ p ∈ l, p.1 = p.2 := by
  cases o with
  | none => cases h
  | some l =>
    refine ⟨l, rfl, ?_⟩
    simp only [sideL, sideR] at h
    induction l with
    | nil => intro p hp; cases hp
    | cons x r ih =>
      simp only [List.map_cons, List.cons.injEq, Option.some.injEq] at h
      intro p hp
      rcases List.mem_cons.1 hp with rfl | hp
      · exact h.1
      · exact ih h.2 p hp
theorem sob_ok {L : Env} {M : List Base} : ∀ {S : List (Nat × Nat × Nat)}, (∀ p ∈ sob L M S, p.1 = p.2) → ∀ t q, sfind S t = some q → lfind L t = some ((CV.p q.1 q.2).den M)
  | [], _, t, q, h => by cases h
  | x :: r, hs, t, q, h => by
    simp only [sfind] at h
    cases hb : Nat.beq x.1 t
    · rw [hb] at h
      exact sob_ok (fun p hp => hs p (List.mem_cons_of_mem _ hp)) t q h
    · rw [hb] at h
      cases h
      have h1 := hs _ (List.mem_cons_self ..)
      have := Nat.eq_of_beq_eq_true hb
      subst this
      cases hl : lfind L x.1 with
      | none => rw [hl] at h1; cases h1
      | some v => rw [hl] at h1; simp only at h1; rw [h1]
def app : Env → Env → Env
  | [], L => L
  | p :: r, L => p :: app r L
theorem ov_app {L' L : Env} {σ : Nat → Value} {t : Nat} : ov (app L' L) σ t = match lfind L' t with
    | some v => v
    | none => ov L σ t := by
  induction L' with
  | nil => rfl
  | cons p r ih =>
    simp only [app, ov, lfind]
    cases hb : Nat.beq p.1 t
    · exact ih
    · rfl
theorem outs_ok {M : List Base} {Γ : List GE} : ∀ {L' : Env} {l : List (Value × Value)}, outs M Γ L' = some l → (∀ p ∈ l, p.1 = p.2) → ∀ t v, lfind L' t = some v → ∃ q, gfind Γ t = some q ∧ q.2.val M = v
  | [], l, h, _, t, v, hv => by cases hv
  | x :: r, l, h, hl, t, v, hv => by
    simp only [outs] at h
    split at h
    · rename_i q hq
      split at h
      · rename_i l' hl'
        cases h
        simp only [lfind] at hv
        cases hb : Nat.beq x.1 t
        · rw [hb] at hv
          exact outs_ok hl' (fun p hp => hl p (List.mem_cons_of_mem _ hp)) t v hv
        · rw [hb] at hv
          cases hv
          have := Nat.eq_of_beq_eq_true hb
          subst this
          exact ⟨q, hq, hl _ (List.mem_cons_self ..)⟩
      · cases h
    · cases h
theorem run_slots {X : Cx P} : ∀ {ops : List Oper} {Γ Γ' : List GE}, runE X Γ ops = some Γ' → ∀ t q, gfind Γ' t = some q → gfind Γ t = some q ∨ ∃ o ∈ ops, o.dst = some t
  | [], Γ, Γ', h, t, q, hq => by cases h; exact .inl hq
  | o :: r, Γ, Γ', h, t, q, hq => by
    simp only [runE] at h
    split at h
    · rename_i Γ1 h1
      rcases run_slots h t q hq with h2 | ⟨o', ho', hd⟩
      · have : ∃ e, Γ1 = e :: Γ ∧ o.dst = some e.slot := by
          unfold stepE at h1
          split at h1
          · cases h1
          · rename_i d hd
            cases hn : Nat.blt d X.n
            · rw [hn] at h1; cases h1
            rw [hn] at h1
            simp only [cond_true] at h1
            split at h1
            · split at h1
              · cases h1; exact ⟨_, rfl, hd⟩
              · cases h1
            · split at h1
              · rename_i dj hdj
                cases hn2 : Nat.blt dj X.n
                · rw [hn2] at h1; cases h1
                rw [hn2] at h1
                simp only [cond_true] at h1
                split at h1
                · split at h1
                  · split at h1
                    · cases h1; exact ⟨_, rfl, hd⟩
                    · cases h1
                  · cases h1
                · cases h1
              · cases h1
        obtain ⟨e, rfl, hd⟩ := this
        simp only [gfind] at h2
        cases hb : Nat.beq e.slot t
        · rw [hb] at h2; exact .inl h2
        · exact .inr ⟨o, List.mem_cons_self .., by rw [hd, Nat.eq_of_beq_eq_true hb]⟩
      · exact .inr ⟨o', List.mem_cons_of_mem _ ho', hd⟩
    · cases h
theorem frame_app {X : Cx P} {σ : Nat → Value} {ds : List Deferred} {im : List Nat} {ops : List Oper} {L' : Env} {Γ : List GE} {l : List (Value × Value)} (h : runE X (imp X.L im) ops = some Γ) (hf : freshB X.L L' ops = true)
    (ho : outs X.M Γ L' = some l) (hl : ∀ p ∈ l, p.1 = p.2) : st X.n (gden X.M Γ ++ X.L) σ ds = st X.n (app L' X.L) (ov (gden X.M Γ ++ X.L) σ) ds := by
  have : ov (app L' X.L) (ov (gden X.M Γ ++ X.L) σ) = ov (gden X.M Γ ++ X.L) σ := by
    funext t
    rw [ov_app]
    cases h1 : lfind L' t with
    | some v =>
      obtain ⟨q, hq, hv⟩ := outs_ok ho hl t v h1
      simp only []
      rw [ov_gden, hq]; exact hv.symm
    | none =>
      simp only []
      cases h2 : lfind X.L t with
      | none => exact ov_none h2
      | some v =>
        rw [ov_lfind h2, ov_gden]
        cases hq : gfind Γ t with
        | none => exact (ov_lfind h2).symm
        | some q =>
          simp only []
          rcases run_slots h t q hq with h3 | ⟨o, ho', hd⟩
          · obtain ⟨v', h4, h5⟩ := (imp_ok X.L im).2.2 t q h3
            rw [h2] at h4
            cases h4
            exact (h5 _).symm
          · exfalso
            have h6 := List.all_eq_true.1 hf o ho'
            rw [hd] at h6
            simp [inL, h1, h2] at h6
  unfold st
  rw [this]
section
variable {n : Nat} {L : Env} {σ : Nat → Value} {ds : List Deferred} {w : World} {M I : Nat → Prop} {w0 wr : World} {R : List Rsc} {ol l : List Oper}
theorem run_main (T : List (TE P)) (B : List Base) (hB : ∀ i, CellsAt w (bget B i).a (bget B i).cs) (ix : List Ix) (sg : List (Sgt w)) (S : List (Nat × Nat × Nat)) (im : List Nat) {ops : List Oper} (L' : Env)
    (H : sideL (outE ⟨n, ol, T, B, fun _ => true, S, ix, sg.map Sgt.t, L⟩ im ops L' (sg.map (Sgt.ob B))) = sideR (outE ⟨n, ol, T, B, fun _ => true, S, ix, sg.map Sgt.t, L⟩ im ops L' (sg.map (Sgt.ob B))))
    (k : ∀ σ, wpList P ol.toArray Q rest (st n (app L' L) σ ds) w) : wpList P ol.toArray Q (ops ++ rest) (st n L σ ds) w := by
  obtain ⟨l, hl, ho⟩ := sides H
  unfold outE at hl
  split at hl
  · rename_i Γ hΓ
    simp only at hΓ
    obtain ⟨h1, hl⟩ : freshB L L' ops = true ∧ _ := by
      cases hf : freshB L L' ops
      · rw [hf] at hl; cases hl
      · rw [hf] at hl; exact ⟨rfl, hl⟩
    split at hl
    · rename_i l' hl'
      cases hl
      have o1 : ∀ p ∈ obs Γ, p.1 = p.2 := fun p hp => ho p (List.mem_append_left _ hp)
      have o2 : ∀ p ∈ l', p.1 = p.2 := fun p hp => ho p (List.mem_append_right _ (List.mem_append_left _ hp))
      have o3 : ∀ p ∈ sob L B S, p.1 = p.2 := fun p hp => ho p (List.mem_append_right _ (List.mem_append_right _ (List.mem_append_left _ hp)))
      have o4 : ∀ p ∈ sg.map (Sgt.ob B), p.1 = p.2 := fun p hp => ho p (List.mem_append_right _ (List.mem_append_right _ (List.mem_append_right _ hp)))
      have hsg : ∀ s ∈ sg.map Sgt.t, CellsAt w ((bget B s.1).a.add s.2.1) s.2.2 := by
        intro s hs
        obtain ⟨u, hu, rfl⟩ := List.mem_map.1 hs
        have := o4 _ (List.mem_map.2 ⟨u, hu, rfl⟩)
        simp only [Sgt.ob, Value.pointer.injEq, Option.some.injEq] at this
        simp only [Sgt.t, this]
        exact u.h
      have Bb : Bg (⟨n, ol, T, B, fun _ => true, S, ix, sg.map Sgt.t, L⟩ : Cx P) σ w := ⟨sob_ok o3, fun i _ => hB i, hsg⟩
      obtain ⟨g1, g2, g3⟩ := imp_ok L im
      have hfr := frame_app (X := (⟨n, ol, T, B, fun _ => true, S, ix, sg.map Sgt.t, L⟩ : Cx P)) (σ := σ) (ds := ds) hΓ h1 hl' o2
      have key := run_list (Q := Q) (rest := rest) (ds := ds) Bb (ops := ops) g1 hΓ o1 (by rw [hfr]; exact k _)
      have h0 : st n (gden B (imp L im) ++ L) σ ds = st n L σ ds := by
        unfold st
        congr 2
        funext t
        rw [ov_gden]
        cases hq : gfind (imp L im) t with
        | none => rfl
        | some q =>
          obtain ⟨v, h4, h5⟩ := g3 t q hq
          simp only []
          rw [h5, ov_lfind h4]
      simp only [] at key
      rw [h0] at key
      exact key
    · cases hl
  · cases hl
def seeL {P : Program} {w : World} (n : Nat) (ol : List Oper) (T : List (TE P)) (B : List Base) (ix : List Ix) (sg : List (Sgt w)) (S : List (Nat × Nat × Nat)) (im : List Nat) (L : Env) (ops : List Oper) (L' : Env) : List (Option Value) :=
  sideL (outE ⟨n, ol, T, B, fun _ => true, S, ix, sg.map Sgt.t, L⟩ im ops L' (sg.map (Sgt.ob B)))
def seeR {P : Program} {w : World} (n : Nat) (ol : List Oper) (T : List (TE P)) (B : List Base) (ix : List Ix) (sg : List (Sgt w)) (S : List (Nat × Nat × Nat)) (im : List Nat) (L : Env) (ops : List Oper) (L' : Env) : List (Option Value) :=
  sideR (outE ⟨n, ol, T, B, fun _ => true, S, ix, sg.map Sgt.t, L⟩ im ops L' (sg.map (Sgt.ob B)))
theorem srx (T : List (TE P)) (h : Hp M I w0 wr w R) (ex : List (Ext w)) (ix : List Ix) (sg : List (Sgt w)) (S : List (Nat × Nat × Nat)) (im : List Nat) (m : Nat) (L' : Env)
    (H : seeL n ol T (R.map bx ++ ex.map Ext.b) ix sg S im L (l.take m) L' = seeR n ol T (R.map bx ++ ex.map Ext.b) ix sg S im L (l.take m) L') (k : ∀ σ, wpList P ol.toArray Q (l.drop m) (st n (app L' L) σ ds) w) : wpList P ol.toArray Q l (st n L σ ds) w := by
  have := run_main (Q := Q) (σ := σ) (ds := ds) T _ (bases_ok h ex) ix sg S im L' H k
  rwa [List.take_append_drop] at this
theorem krx {id : Nat} (T : List (TE P)) (h : Hp M I w0 wr w R) (ex : List (Ext w)) (ix : List Ix) (sg : List (Sgt w)) (S : List (Nat × Nat × Nat)) (im : List Nat) (L' : Env)
    (H : seeL n l T (R.map bx ++ ex.map Ext.b) ix sg S im L l L' = seeR n l T (R.map bx ++ ex.map Ext.b) ix sg S im L l L') (k : ∀ σ, N (st n (app L' L) σ ds) w) : wk P (.region id l.toArray false) N Q (st n L σ ds) w := by
  refine k_region ?_
  have := run_main (Q := Exit.then N Q) (rest := []) (σ := σ) (ds := ds) T _ (bases_ok h ex) ix sg S im L' H (fun σ => k_nil (k σ))
  rwa [List.append_nil] at this
theorem kqx {id : Nat} {y : Code} (T : List (TE P)) (h : Hp M I w0 wr w R) (ex : List (Ext w)) (ix : List Ix) (sg : List (Sgt w)) (S : List (Nat × Nat × Nat)) (im : List Nat) (L' : Env)
    (H : seeL n l T (R.map bx ++ ex.map Ext.b) ix sg S im L l L' = seeR n l T (R.map bx ++ ex.map Ext.b) ix sg S im L l L') (k : ∀ σ, wk P y N Q (st n (app L' L) σ ds) w) : wk P (.seq (.region id l.toArray false) y) N Q (st n L σ ds) w := k_seq (krx T h ex ix sg S im L' H k)
theorem sr (T : List (TE P)) (h : Hp M I w0 wr w R) (S : List (Nat × Nat × Nat)) (m : Nat) (L' : Env)
    (H : seeL (w := w) n ol T (R.map bx ++ []) [] [] S [] L (l.take m) L' = seeR (w := w) n ol T (R.map bx ++ []) [] [] S [] L (l.take m) L') (k : ∀ σ, wpList P ol.toArray Q (l.drop m) (st n (app L' L) σ ds) w) : wpList P ol.toArray Q l (st n L σ ds) w := srx T h [] [] [] S [] m L' H k
theorem kr {id : Nat} (T : List (TE P)) (h : Hp M I w0 wr w R) (S : List (Nat × Nat × Nat)) (L' : Env)
    (H : seeL (w := w) n l T (R.map bx ++ []) [] [] S [] L l L' = seeR (w := w) n l T (R.map bx ++ []) [] [] S [] L l L') (k : ∀ σ, N (st n (app L' L) σ ds) w) : wk P (.region id l.toArray false) N Q (st n L σ ds) w := krx T h [] [] [] S [] L' H k
theorem kq {id : Nat} {y : Code} (T : List (TE P)) (h : Hp M I w0 wr w R) (S : List (Nat × Nat × Nat)) (L' : Env)
    (H : seeL (w := w) n l T (R.map bx ++ []) [] [] S [] L l L' = seeR (w := w) n l T (R.map bx ++ []) [] [] S [] L l L') (k : ∀ σ, wk P y N Q (st n (app L' L) σ ds) w) : wk P (.seq (.region id l.toArray false) y) N Q (st n L σ ds) w := k_seq (kr T h S L' H k)
end
section
variable {n : Nat} {L : Env} {σ : Nat → Value} {ds : List Deferred} {w : World} {M I : Nat → Prop} {w0 wr : World} {R S : List Rsc} {ol l : List Oper} {ms : List (List Nat)} {tm : List Nat}
theorem k_anyF {id : Nat} (ms : List (List Nat)) (tm : List Nat) (hm : P.follows .mixedOrders = true) (h : Hp M I w0 wr w R) (len : Nat) (hl : ol.length = len)
    (k : ∀ w', Hp M I w0 wr w' R → wpW (WF I wr R ms tm) P ol.toArray (Exit.then N Q) len (lb len 0) (st n L σ ds) w') : wk P (.region id ol.toArray true) N Q (st n L σ ds) w := k_any (WF I wr R ms tm) hm h len hl k
structure ExtD (I : Nat → Prop) (wr : World) (S : List Rsc) where
  a : Addr
  cs : List Value
  js : List Nat
  h : ∀ w, Wp I wr S js w → CellsAt w a cs
def ExtD.b (e : ExtD I wr S) : Base := ⟨e.a, e.cs⟩
structure SgD (I : Nat → Prop) (wr : World) (S : List Rsc) where
  i : Nat
  o : Nat
  a : Addr
  cs : List Value
  js : List Nat
  h : ∀ w, Wp I wr S js w → CellsAt w a cs
def SgD.t (s : SgD I wr S) : Nat × Nat × List Value := (s.i, s.o, s.cs)
def SgD.ob (M : List Base) (s : SgD I wr S) : Value × Value := (.pointer (some ((bget M s.i).a.add s.o)), .pointer (some s.a))
def subN (js ks : List Nat) : Bool := js.all fun j => ks.any (Nat.beq j)
theorem subN_ok {js ks : List Nat} (h : subN js ks = true) {w : World} (hw : Wp I wr S ks w) : Wp I wr S js w := by
  refine ⟨hw.imm, fun r hr => hw.own r ?_⟩
  obtain ⟨k, hk, he⟩ := List.any_eq_true.1 (List.all_eq_true.1 h r hr)
  rw [Nat.eq_of_beq_eq_true he]; exact hk
def mayD (S : List Rsc) (ex : List (ExtD I wr S)) (js : List Nat) (k : Nat) : Bool := bif Nat.blt k S.length then js.any (Nat.beq k) else match ex[k - S.length]? with
  | some e => subN e.js js
  | none => true
def basesD (S : List Rsc) (ex : List (ExtD I wr S)) : List Base := S.map bx ++ ex.map ExtD.b
theorem mayD_ok {ex : List (ExtD I wr S)} {js : List Nat} {w : World} (hw : Wp I wr S js w) (k : Nat) (hk : mayD S ex js k = true) : CellsAt w (bget (basesD S ex) k).a (bget (basesD S ex) k).cs := by
  unfold bget basesD
  rw [List.getD_eq_getElem?_getD]
  unfold mayD at hk
  cases hlt : Nat.blt k S.length
  · rw [hlt] at hk
    simp only [cond_false] at hk
    have hge : S.length ≤ k := by
      rcases Nat.lt_or_ge k S.length with h | h
      · rw [show Nat.blt k S.length = true by rw [Nat.blt_eq]; exact h] at hlt; cases hlt
      · exact h
    rw [List.getElem?_append_right (by simpa using hge)]
    simp only [List.length_map, List.getElem?_map]
    cases he : ex[k - S.length]? with
    | none => exact nilAt
    | some e =>
      rw [he] at hk
      exact e.h w (subN_ok hk hw)
  · rw [hlt] at hk
    simp only [cond_true] at hk
    have hlt' : k < S.length := blt hlt
    rw [List.getElem?_append_left (by simpa using hlt')]
    simp only [List.getElem?_map, List.getElem?_eq_getElem hlt', Option.map_some, Option.getD_some]
    obtain ⟨j, hj, he⟩ := List.any_eq_true.1 hk
    have := Nat.eq_of_beq_eq_true he
    subst this
    refine bx_ok fun p hp => hw.own k hj p ?_
    rw [List.getD_eq_getElem?_getD, List.getElem?_eq_getElem hlt']; exact hp
def cxD (n : Nat) (ol : List Oper) (T : List (TE P)) (S : List Rsc) (ex : List (ExtD I wr S)) (ix : List Ix) (sg : List (SgD I wr S)) (S' : List (Nat × Nat × Nat)) (L : Env) (js : List Nat) : Cx P :=
  ⟨n, ol, T, basesD S ex, mayD S ex js, S', ix, (sg.filter fun s => subN s.js js).map SgD.t, L⟩
def takeE (X : List Nat → Cx P) (ol : List Oper) (ms : List (List Nat)) (tm U : List Nat) : Nat → List GE → List Nat → Option (Nat × List GE)
  | m, Γ, [] => some (m, Γ)
  | m, Γ, i :: r => match opAt ol i with
    | some o => bif closedB ol m 0 ol && ((Region.ready .any ol.toArray (lb ol.length m)).contains i && (vOk ol m i o (ms.getD i []) ms tm 0 ol && subN (ms.getD i []) U)) then (match stepE (X (ms.getD i [])) Γ o with
      | some Γ' => takeE X ol ms tm U (m ||| 1 <<< i) Γ' r
      | none => none) else none
    | none => none
theorem lb_set {len m i : Nat} (h : i < len) : (lb len m).setIfInBounds i true = lb len (m ||| 1 <<< i) := by
  apply Array.ext
  · simp [lb]
  · intro j h1 h2
    have hj : j < len := by simpa [lb] using h2
    rw [Array.getElem_setIfInBounds (by simpa [lb] using h2)]
    simp only [lb, List.getElem_toArray, List.getElem_map, List.getElem_range, Nat.testBit_or]
    rw [Nat.shiftLeft_eq, Nat.one_mul, Nat.testBit_two_pow]
    by_cases hij : i = j
    · subst hij; simp
    · simp [hij]
theorem stepE_cons {X : Cx P} {Γ Γ' : List GE} {o : Oper} (h : stepE X Γ o = some Γ') : ∃ e d, Γ' = e :: Γ ∧ o.dst = some d ∧ e.slot = d ∧ Nat.blt d X.n = true := by
  unfold stepE at h
  split at h
  · cases h
  · rename_i d hd
    cases hn : Nat.blt d X.n
    · rw [hn] at h; cases h
    rw [hn] at h
    simp only [cond_true] at h
    split at h
    · split at h
      · cases h; exact ⟨_, d, rfl, hd, rfl, hn⟩
      · cases h
    · split at h
      · rename_i dj hdj
        cases hn2 : Nat.blt dj X.n
        · rw [hn2] at h; cases h
        rw [hn2] at h
        simp only [cond_true] at h
        split at h
        · split at h
          · split at h
            · cases h; exact ⟨_, d, rfl, hd, rfl, hn⟩
            · cases h
          · cases h
        · cases h
      · cases h
theorem step_yw {X : Cx P} {V : World → Prop} {Γ : List GE} {e : GE} {o : Oper} (hV : ∀ w, V w → Bg X σ w) (hk : GOk Γ) (h : stepE X Γ o = some (e :: Γ)) (ho : ∀ p ∈ obs (e :: Γ), p.1 = p.2) :
    GOk (e :: Γ) ∧ YW V P X.ol.toArray o (e.val X.M) (st X.n (gden X.M Γ ++ X.L) σ ds) := by
  obtain ⟨dst, op, ty, pos, af, gd⟩ := o
  have hnil : ∀ q ∈ ([] : List (Nat × Bool)), holds Γ q := fun q hq => by cases hq
  have hob : ∀ p ∈ e.ob, p.1 = p.2 := fun p hp => ho p (by simp only [obs, List.mem_append]; exact .inl hp)
  unfold stepE at h
  split at h
  · cases h
  · rename_i d hd
    simp only at hd
    subst hd
    cases hn : Nat.blt d X.n
    · rw [hn] at h; cases h
    rw [hn] at h
    simp only [cond_true] at h
    split at h
    · split at h
      · rename_i q hq
        cases h
        exact ⟨⟨hk, (fun q hq => by cases hq), .inl rfl⟩, .inl ⟨rfl, fun w hw => ev_ok (dst := some d) (ty := ty) (pos := pos) (af := af) (gd := none) ((hV w hw).snd hk) hnil hq hob⟩⟩
      · cases h
    · rename_i g
      split at h
      · rename_i dj hdj
        cases hn2 : Nat.blt dj X.n
        · rw [hn2] at h; cases h
        rw [hn2] at h
        simp only [cond_true] at h
        split at h
        · rename_i q hq
          split at h
          · rename_i b hb
            split at h
            · rename_i rr hrr
              cases h
              obtain ⟨hlow, hiff⟩ := path_holds (e := q.2) hk hq hb g.2
              refine ⟨⟨hk, hlow, .inr hiff⟩, ?_⟩
              have hval : (GE.val X.M ⟨d, q.2.path ++ [(q.1, g.2)], gc q.2.path q.2.c (bif g.2 then b else !b), rr.1, rr.2⟩) = bif gc q.2.path q.2.c (bif g.2 then b else !b) then rr.1.den X.M else undef := by
                unfold GE.val
                cases hp2 : q.2.path ++ [(q.1, g.2)] with
                | nil => simp at hp2
                | cons _ _ => rfl
              rw [hval]
              have hdj' : ov (gden X.M Γ ++ X.L) σ dj = q.2.val X.M := by rw [ov_gden, hq]
              have hj' : (X.ol[g.1]?).bind (·.dst) = some dj := by rw [dstAt_eq]; exact hdj
              cases hcase : gc q.2.path q.2.c (bif g.2 then b else !b)
              · refine .inr ⟨?_, rfl⟩
                have hval2 : q.2.val X.M = undef ∨ (q.2.val X.M = .bool b ∧ (bif g.2 then b else !b) = false) := by
                  unfold GE.val
                  cases hp3 : q.2.path with
                  | nil => rw [hp3] at hcase; rw [hb]; exact .inr ⟨rfl, hcase⟩
                  | cons x l =>
                    rw [hp3] at hcase
                    simp only [gc] at hcase
                    simp only []
                    cases hc3 : q.2.c
                    · exact .inl rfl
                    · rw [hc3, Bool.true_and] at hcase; rw [hb]; exact .inr ⟨rfl, hcase⟩
                rcases hval2 with hu | ⟨hu, hf⟩
                · simp [Region.wanted, yielded, hj', fr_get (blt hn2), hdj', hu, undef]
                · obtain ⟨g1, g2⟩ := g
                  have : (b == g2) = false := by cases g2 <;> cases b <;> simp at hf ⊢
                  simp [Region.wanted, yielded, hj', fr_get (blt hn2), hdj', hu, this]
              · have hall := hiff.1 hcase
                have hbu : b = g.2 := by
                  obtain ⟨e, b', h2, h3, h4⟩ := hall (q.1, g.2) (List.mem_append_right _ (List.mem_singleton.2 rfl))
                  rw [gfind_at hq] at h2
                  cases h2
                  rw [hb] at h3
                  cases h3
                  exact h4
                have hv := g_val (M := X.M) (π := q.2.path) hk hq (fun r hr => hall r (List.mem_append_left _ hr)) (List.all_eq_true.2 fun u hu => List.any_eq_true.2 ⟨u, hu, by simp only [qeq, Nat.beq_refl, Bool.true_and]; cases u.2 <;> rfl⟩)
                rw [hb] at hv
                refine .inl ⟨?_, fun w hw => ev_ok (dst := some d) (ty := ty) (pos := pos) (af := af) (gd := some g) ((hV w hw).snd hk) hall hrr hob⟩
                simp [Region.wanted, yielded, hj', fr_get (blt hn2), hdj', hv, CV.den, hbu]
            · cases h
          · cases h
        · cases h
      · cases h
theorem take_list (X : List Nat → Cx P) {M : List Base} {U : List Nat} (hX : ∀ js, (X js).n = n ∧ (X js).ol = ol ∧ (X js).M = M ∧ (X js).L = L) (hB : ∀ js w, Wp I wr S js w → Bg (X js) σ w)
    (hs : Region.noSelect ol.toArray = true) (hT : tmOk tm 0 ol = true) (hQ : ∀ d, PanOk d Q) (hU : Wp I wr S U w) : ∀ (is : List Nat) (m m' : Nat) (Γ Γ' : List GE) (f : Nat), GOk Γ → takeE X ol ms tm U m Γ is = some (m', Γ') → (∀ p ∈ obs Γ', p.1 = p.2) →
    wpW (WF I wr S ms tm) P ol.toArray Q f (lb ol.length m') (st n (gden M Γ' ++ L) σ ds) w → wpW (WF I wr S ms tm) P ol.toArray Q (f + is.length) (lb ol.length m) (st n (gden M Γ ++ L) σ ds) w
  | [], m, m', Γ, Γ', f, _, h, _, k => by cases h; exact k
  | i :: r, m, m', Γ, Γ', f, hk, h, ho, k => by
    simp only [takeE] at h
    split at h
    · rename_i o ho1
      have hb : closedB ol m 0 ol = true ∧ (Region.ready .any ol.toArray (lb ol.length m)).contains i = true ∧ vOk ol m i o (ms.getD i []) ms tm 0 ol = true ∧ subN (ms.getD i []) U = true ∧
          (match stepE (X (ms.getD i [])) Γ o with | some Γ' => takeE X ol ms tm U (m ||| 1 <<< i) Γ' r | none => none) = some (m', Γ') := by
        cases hc : closedB ol m 0 ol && ((Region.ready .any ol.toArray (lb ol.length m)).contains i && (vOk ol m i o (ms.getD i []) ms tm 0 ol && subN (ms.getD i []) U))
        · rw [hc] at h; cases h
        · rw [hc] at h
          simp only [Bool.and_eq_true] at hc
          exact ⟨hc.1, hc.2.1, hc.2.2.1, hc.2.2.2, h⟩
      clear h
      obtain ⟨c1, c2, c3, c4, h⟩ := hb
      split at h
      · rename_i Γ1 h1
        obtain ⟨e, d, rfl, hd, hed, hn⟩ := stepE_cons h1
        obtain ⟨x1, x2, x3, x4⟩ := hX (ms.getD i [])
        have ho2 : ∀ p ∈ obs (e :: Γ), p.1 = p.2 := by
          have : ∀ (r : List Nat) (m : Nat) (Γ : List GE), takeE X ol ms tm U m Γ r = some (m', Γ') → ∀ p ∈ obs Γ, p.1 = p.2 := by
            intro r
            induction r with
            | nil => intro m Γ h; cases h; exact ho
            | cons i r ih =>
              intro m Γ h
              simp only [takeE] at h
              split at h
              · rename_i o _
                cases hc : closedB ol m 0 ol && ((Region.ready .any ol.toArray (lb ol.length m)).contains i && (vOk ol m i o (ms.getD i []) ms tm 0 ol && subN (ms.getD i []) U))
                · rw [hc] at h; cases h
                · rw [hc] at h
                  simp only [cond_true] at h
                  split at h
                  · rename_i Γ1 h1; exact obs_step h1 (ih _ _ h)
                  · cases h
              · cases h
          exact this r _ _ h
        obtain ⟨hk1, hy⟩ := step_yw (σ := σ) (ds := ds) (hB (ms.getD i [])) hk h1 ho2
        rw [x1, x2, x3, x4] at hy
        rw [x1] at hn
        have hil : i < ol.length := by
          have : ol[i]? = some o := by rw [opAt_eq]; exact ho1
          exact (List.getElem?_eq_some_iff.1 this).1
        obtain ⟨dst, op, ty, pos, af, gd⟩ := o
        simp only at hd
        subst hd
        have key := take_list X hX hB hs hT hQ hU r (m ||| 1 <<< i) m' (e :: Γ) Γ' f hk1 h ho k
        have := w_take (P := P) (ol := ol) (σ := σ) (ds := ds) (w := w) (L := gden M Γ ++ L) (n := n) i ho1 hn hs c1 c2 (lb_set hil) rfl hT c3 (hQ d) (subN_ok c4 hU) hy (f := f + r.length) (m' := m ||| 1 <<< i) (by
          simp only [gden, List.map_cons, List.cons_append, hed] at key ⊢
          exact key)
        rw [List.length_cons, ← Nat.add_assoc]
        exact this
      · cases h
    · cases h
def outD (X : List Nat → Cx P) (ol : List Oper) (M : List Base) (L : Env) (S' : List (Nat × Nat × Nat)) (ms : List (List Nat)) (tm U im : List Nat) (m m' : Nat) (is : List Nat) (L' : Env) (z : List (Value × Value)) : Option (List (Value × Value)) :=
  bif Region.noSelect ol.toArray && tmOk tm 0 ol then (match takeE X ol ms tm U m (imp L im) is with
    | some q => bif Nat.beq q.1 m' && freshB L L' (is.map fun i => (opAt ol i).getD default) then (match outs M q.2 L' with
      | some l => some (obs q.2 ++ (l ++ (sob L M S' ++ z)))
      | none => none) else none
    | none => none) else none
def seeDL (n : Nat) (ol : List Oper) (T : List (TE P)) (ex : List (ExtD I wr S)) (ix : List Ix) (sg : List (SgD I wr S)) (S' : List (Nat × Nat × Nat)) (L : Env) (ms : List (List Nat)) (tm U im : List Nat) (m m' : Nat) (is : List Nat) (L' : Env) : List (Option Value) :=
  sideL (outD (cxD n ol T S ex ix sg S' L) ol (basesD S ex) L S' ms tm U im m m' is L' (sg.map (SgD.ob (basesD S ex))))
def seeDR (n : Nat) (ol : List Oper) (T : List (TE P)) (ex : List (ExtD I wr S)) (ix : List Ix) (sg : List (SgD I wr S)) (S' : List (Nat × Nat × Nat)) (L : Env) (ms : List (List Nat)) (tm U im : List Nat) (m m' : Nat) (is : List Nat) (L' : Env) : List (Option Value) :=
  sideR (outD (cxD n ol T S ex ix sg S' L) ol (basesD S ex) L S' ms tm U im m m' is L' (sg.map (SgD.ob (basesD S ex))))
theorem w_takes {len f F m : Nat} (T : List (TE P)) (U : List Nat) (hU : Wp I wr S U w) (ex : List (ExtD I wr S)) (ix : List Ix) (sg : List (SgD I wr S)) (S' : List (Nat × Nat × Nat)) (im is : List Nat) (m' : Nat) (L' : Env) (hQ : ∀ d, PanOk d Q) (hl : len = ol.length) (hF : F = f + is.length)
    (H : seeDL n ol T ex ix sg S' L ms tm U im m m' is L' = seeDR n ol T ex ix sg S' L ms tm U im m m' is L')
    (k : ∀ σ, wpW (WF I wr S ms tm) P ol.toArray Q f (lb len m') (st n (app L' L) σ ds) w) : wpW (WF I wr S ms tm) P ol.toArray Q F (lb len m) (st n L σ ds) w := by
  subst hl
  subst hF
  obtain ⟨l, hl, ho⟩ := sides H
  unfold outD at hl
  cases hc : Region.noSelect ol.toArray && tmOk tm 0 ol
  · rw [hc] at hl; cases hl
  rw [hc] at hl
  simp only [Bool.and_eq_true, cond_true] at hc hl
  split at hl
  · rename_i q hq
    cases hc2 : Nat.beq q.1 m' && freshB L L' (is.map fun i => (opAt ol i).getD default)
    · rw [hc2] at hl; cases hl
    rw [hc2] at hl
    simp only [Bool.and_eq_true, cond_true] at hc2 hl
    split at hl
    · rename_i l' hl'
      cases hl
      have o1 : ∀ p ∈ obs q.2, p.1 = p.2 := fun p hp => ho p (List.mem_append_left _ hp)
      have o2 : ∀ p ∈ l', p.1 = p.2 := fun p hp => ho p (List.mem_append_right _ (List.mem_append_left _ hp))
      have o3 : ∀ p ∈ sob L (basesD S ex) S', p.1 = p.2 := fun p hp => ho p (List.mem_append_right _ (List.mem_append_right _ (List.mem_append_left _ hp)))
      have o4 : ∀ p ∈ sg.map (SgD.ob (basesD S ex)), p.1 = p.2 := fun p hp => ho p (List.mem_append_right _ (List.mem_append_right _ (List.mem_append_right _ hp)))
      have hsg : ∀ js w, Wp I wr S js w → ∀ s ∈ (sg.filter fun s => subN s.js js).map SgD.t, CellsAt w ((bget (basesD S ex) s.1).a.add s.2.1) s.2.2 := by
        intro js w hw s hs
        obtain ⟨u, hu, rfl⟩ := List.mem_map.1 hs
        obtain ⟨hu1, hu2⟩ := List.mem_filter.1 hu
        have := o4 _ (List.mem_map.2 ⟨u, hu1, rfl⟩)
        simp only [SgD.ob, Value.pointer.injEq, Option.some.injEq] at this
        simp only [SgD.t, this]
        exact u.h w (subN_ok hu2 hw)
      have hB : ∀ js w, Wp I wr S js w → Bg (cxD n ol T S ex ix sg S' L js) σ w := fun js w hw => ⟨sob_ok o3, fun i hi => mayD_ok hw i hi, hsg js w hw⟩
      obtain ⟨g1, g2, g3⟩ := imp_ok L im
      have hm' := Nat.eq_of_beq_eq_true hc2.1
      have hfr : st n (gden (basesD S ex) q.2 ++ L) σ ds = st n (app L' L) (ov (gden (basesD S ex) q.2 ++ L) σ) ds := by
        have : ov (app L' L) (ov (gden (basesD S ex) q.2 ++ L) σ) = ov (gden (basesD S ex) q.2 ++ L) σ := by
          funext t
          rw [ov_app]
          cases h1 : lfind L' t with
          | some v =>
            obtain ⟨q', hq', hv⟩ := outs_ok hl' o2 t v h1
            simp only []
            rw [ov_gden, hq']; exact hv.symm
          | none =>
            simp only []
            cases h2 : lfind L t with
            | none => exact ov_none h2
            | some v =>
              rw [ov_lfind h2, ov_gden]
              cases hq' : gfind q.2 t with
              | none => exact (ov_lfind h2).symm
              | some q' =>
                simp only []
                have slots : ∀ (r : List Nat) (m : Nat) (Γ : List GE), takeE (cxD n ol T S ex ix sg S' L) ol ms tm U m Γ r = some q → gfind Γ t = some q' ∨ ∃ i ∈ r, ∃ o, opAt ol i = some o ∧ o.dst = some t := by
                  intro r
                  induction r with
                  | nil => intro m Γ h; cases h; exact .inl hq'
                  | cons i r ih =>
                    intro m Γ h
                    simp only [takeE] at h
                    split at h
                    · rename_i o ho'
                      cases hc : closedB ol m 0 ol && ((Region.ready .any ol.toArray (lb ol.length m)).contains i && (vOk ol m i o (ms.getD i []) ms tm 0 ol && subN (ms.getD i []) U))
                      · rw [hc] at h; cases h
                      · rw [hc] at h
                        simp only [cond_true] at h
                        split at h
                        · rename_i Γ1 h1
                          obtain ⟨e, d, rfl, hd, hed, hn⟩ := stepE_cons h1
                          rcases ih _ _ h with h3 | ⟨i', hi', o', ho2, hd2⟩
                          · simp only [gfind] at h3
                            cases hb : Nat.beq e.slot t
                            · rw [hb] at h3; exact .inl h3
                            · exact .inr ⟨i, List.mem_cons_self .., o, ho', by rw [hd, ← hed, Nat.eq_of_beq_eq_true hb]⟩
                          · exact .inr ⟨i', List.mem_cons_of_mem _ hi', o', ho2, hd2⟩
                        · cases h
                    · cases h
                rcases slots is m _ hq with h3 | ⟨i, hi, o, ho', hd⟩
                · obtain ⟨v', h4, h5⟩ := g3 t q' h3
                  rw [h2] at h4
                  cases h4
                  exact (h5 _).symm
                · exfalso
                  have h6 := List.all_eq_true.1 hc2.2 o (List.mem_map.2 ⟨i, hi, by rw [ho']; rfl⟩)
                  rw [hd] at h6
                  simp [inL, h1, h2] at h6
        unfold st
        rw [this]
      have key := take_list (ms := ms) (tm := tm) (Q := Q) (ds := ds) (M := basesD S ex) (L := L) (n := n) (cxD n ol T S ex ix sg S' L) (fun js => ⟨rfl, rfl, rfl, rfl⟩) hB hc.1 hc.2 hQ hU is m q.1 (imp L im) q.2 f g1 hq o1 (by rw [hfr, hm']; exact k _)
      have h0 : st n (gden (basesD S ex) (imp L im) ++ L) σ ds = st n L σ ds := by
        unfold st
        congr 2
        funext t
        rw [ov_gden]
        cases hq : gfind (imp L im) t with
        | none => rfl
        | some q =>
          obtain ⟨v, h4, h5⟩ := g3 t q hq
          simp only []
          rw [h5, ov_lfind h4]
      rw [h0] at key
      exact key
    · cases hl
  · cases hl
end
end

section
variable {P : Program} {ops : Array Oper} {Q : Exit → Act → World → Prop} {n : Nat} {L : Env} {σ : Nat → Value} {ds : List Deferred} {w : World} {rest : List Oper}
variable {d : Nat} {ty : TypeId} {pos : String} {af : Array Edge} {v v1 v2 v3 : Value} {x y z : Operand} {gd : Option (Nat × Bool)} {dst : Option Tmp}
variable {M I F : Nat → Prop} {w0 wr wf : World} {R : List Rsc} {α : Type} {E : Enc α}

def vA (sz : Nat) (A : Option Addr) (c l : Nat) : Option Addr := if c = l then A else A.map (·.add (l * sz))
theorem e_view {t e : TypeId} {A : Option Addr} {c m sz : Nat} {lo hi : Option Operand} {l h : Int} {kl kh : IntKind} (hu : UT P t (.slice e)) (hs : SZ P e sz) (hb : 0 ≤ l ∧ l ≤ h ∧ h ≤ (c : Int)) :
    ∀ {ac : Act} {w : World}, ac.eval x = .slice A m c → ((lo.map ac.eval = some (.int kl l)) ∨ (lo = none ∧ l = 0)) → ((hi.map ac.eval = some (.int kh h)) ∨ (hi = none ∧ h = (m : Int))) →
      (execOp ac.eval ⟨dst, .slice t x lo hi none, ty, pos, af, gd⟩).run P w = .ok (.value (.slice (vA sz A c l.toNat) (h.toNat - l.toNat) (c - l.toNat))) w := by
  intro ac w hx hlo hhi
  obtain ⟨b0, b1, b2⟩ := hb
  have e0 : 0 ≤ h := by omega
  simp only [execOp, hx, Option.map_none]
  rcases hlo with hlo | ⟨rfl, rfl⟩ <;> rcases hhi with hhi | ⟨rfl, rfl⟩ <;>
    simp [Instr.sliceAt, Instr.slice, Instr.sliceBounds, Instr.sliceBound, Sem.run_bind, hu w, hs w, asIntOf, vA, *] <;> (try omega)
theorem zeroCells_eq {zv : Array Value} {zc : List Value} {sz : Nat} (h : zv = zc.toArray) (hc : zc.length = sz) (hp : 0 < sz) (m : Nat) : (Builtin.zeroCells zv m).toList = (List.replicate m zc).flatten := by
  subst h
  apply List.ext_getElem?
  intro j
  by_cases hj : j < m * sz
  · rw [cs_replicate hc hp m j hj]
    have hm : j % sz < zc.length := by rw [hc]; exact Nat.mod_lt _ hp
    simp [Builtin.zeroCells, hc, hj, hm, List.getElem?_eq_getElem hm, getElem!_pos]
  · rw [List.getElem?_eq_none (by simp [Builtin.zeroCells, hc]; omega), List.getElem?_eq_none]
    have : (List.replicate m zc).flatten.length = m * sz := by simp [hc]
    omega
theorem set_same {R : List Rsc} {r : Nat} {X : Rsc} (h : R[r]? = some X) : R.set r X = R := by
  apply List.ext_getElem?
  intro j
  rw [List.getElem?_set]
  split
  · rename_i e; subst e
    obtain ⟨hl, he⟩ := List.getElem?_eq_some_iff.1 h
    rw [if_pos hl, h]
  · rfl
theorem s_clear {t e e' : TypeId} {A : Option Addr} {c r l m : Nat} {xs : List α} {X : Rsc} {zv : Value} {zc : List Value} (x0 : α) (h : Hp M I w0 wr w R)
    (hx : (st n L σ ds).eval x = .slice (vA E.sz A c l) m (c - l)) (hu : P.underlying t = some (.slice e)) (hz : ZR P e zv) (hzc : zv.cells = zc.toArray) (hrep : E.rep F wf x0 zc)
    (hi : R[r]? = some X) (ho : Own E F wf e' A c xs X) (hlm : l + m ≤ c) (hcase : l + m = xs.length ∨ xs.length ≤ l)
    (k : ∀ w' X', Hp M I w0 wr w' (R.set r X') → Own E F wf e' A c (if xs.length ≤ l then xs else xs.take l ++ List.replicate m x0) X' → wpList P ops Q rest (st n L σ ds) w') :
    wpList P ops Q (⟨none, .call { callee := .builtin .clear, args := #[x], argTypes := #[t] }, ty, pos, af, none⟩ :: rest) (st n L σ ds) w := by
  have hzl := E.len hrep
  have hex : ∀ {u : Value} {w' : World}, (Builtin.clear_ #[t] ty #[(st n L σ ds).eval x]).run P w = .ok u w' → (execOp (st n L σ ds).eval ⟨none, .call { callee := .builtin .clear, args := #[x], argTypes := #[t] }, ty, pos, af, none⟩).run P w = .ok (.value u) w' := fun he => by
    simp only [execOp, resolve]
    rw [show (#[x] : Array Operand).map (st n L σ ds).eval = #[(st n L σ ds).eval x] by simp]
    simp only [Sem.run_bind, Sem.run_pure, Result.andThen_ok, invoke, builtin]
    rw [he]; rfl
  by_cases hm : m = 0
  · subst hm
    have hle : xs.length ≤ l := by omega
    refine sv0 rfl rfl (hex (u := .tuple #[]) (w' := w) ?_) (k w X (by rw [set_same hi]; exact h) (by rw [if_pos hle]; exact ho))
    rw [hx]
    cases vA E.sz A c l <;> simp [Builtin.clear_, run_underlying hu, Sem.run_bind]
  · rcases ho with ⟨rfl, rfl, rfl, rfl⟩ | ⟨g, cur, cs, rfl, rfl, h1, h2, hb, h3, h4, h5⟩
    · omega
    have hlc : ¬ c = l := by omega
    have hv : vA E.sz (some ⟨g, 0, none⟩) c l = some ⟨g, l * E.sz, none⟩ := by simp [vA, hlc, add_none]
    rw [hv] at hx
    have hzs := zeroCells_eq hzc hzl E.pos m
    have hzl2 : ((List.replicate m zc).flatten).length = m * E.sz := by simp [hzl]
    have hown := h.get hi (j := 0) (b := g) (o := .cells cur e' (0, 0)) rfl
    have hfit : l * E.sz + m * E.sz ≤ c * E.sz := by rw [← Nat.add_mul]; exact Nat.mul_le_mul_right _ hlm
    have hcl : cur.toList.length = c * E.sz := by simpa using h3
    have hone : ∀ u ∈ (List.replicate m zc).flatten, one u = true := fun u hu' => by
      obtain ⟨l', hl', hu2⟩ := List.mem_flatten.1 hu'
      rw [(List.mem_replicate.1 hl').2] at hu2
      exact one_of (E.one hrep u hu2)
    obtain ⟨w', hr, a1, a2, a3, a4, a5, a6⟩ := run_storeCells (P := P) (b := g) (e := e') ((List.replicate m zc).flatten) 0 (l * E.sz) cur.toList w (by simpa using hown) hone (by omega)
    rw [Nat.add_zero, hzl2] at a6
    refine sv0 rfl rfl (hex (u := .tuple #[]) (w' := w') ?_) (k w' _ (h.upd hi (j := 0) rfl a1 a2 a3 a4 a5 a6) ?_)
    · rw [hx]
      have hzr := hz w
      obtain ⟨m, rfl⟩ : ∃ q, m = q + 1 := ⟨m - 1, by omega⟩
      simp [Builtin.clear_, run_underlying hu, Sem.run_bind, hzr, hzs, hr]
    · have hnew : ((cur.toList.take (l * E.sz) ++ (List.replicate m zc).flatten ++ cur.toList.drop (l * E.sz + m * E.sz)).toArray).size = c * E.sz := by
        simp only [List.size_toArray, List.length_append, List.length_take, List.length_drop, hzl2]; omega
      by_cases hle : xs.length ≤ l
      · rw [if_pos hle]
        refine .inr ⟨g, _, cs, rfl, rfl, h1, h2, hb, hnew, ?_, h5⟩
        have hll : xs.length * E.sz ≤ l * E.sz := Nat.mul_le_mul_right _ hle
        show List.take (xs.length * E.sz) (cur.toList.take (l * E.sz) ++ (List.replicate m zc).flatten ++ cur.toList.drop (l * E.sz + m * E.sz)) = cs
        rw [← h4, List.append_assoc, List.take_append_of_le_length (by rw [List.length_take]; omega), List.take_take, Nat.min_eq_left hll]
      · rw [if_neg hle]
        have hxl : l + m = xs.length := by omega
        have hyl : (xs.take l ++ List.replicate m x0).length = l + m := by simp; omega
        refine .inr ⟨g, _, cs.take (l * E.sz) ++ (List.replicate m zc).flatten, rfl, rfl, by rw [hyl]; omega, h2, by rw [hyl]; omega, hnew, ?_, (h5.take l).append (Reps.replicate hrep m)⟩
        rw [hyl, ← h4, List.take_take, Nat.min_eq_left (Nat.mul_le_mul_right _ (by omega)), Nat.add_mul]
        show List.take (l * E.sz + m * E.sz) (cur.toList.take (l * E.sz) ++ (List.replicate m zc).flatten ++ cur.toList.drop (l * E.sz + m * E.sz)) = _
        rw [List.take_left' (by rw [List.length_append, List.length_take, hzl2]; omega)]
theorem s_clearIn {t e e' : TypeId} {A : Option Addr} {c r l m : Nat} {xs : List α} {X : Rsc} {zv : Value} {zc : List Value} (x0 : α) (h : Hp M I w0 wr w R)
    (hx : (st n L σ ds).eval x = .slice (vA E.sz A c l) m (c - l)) (hu : P.underlying t = some (.slice e)) (hz : ZR P e zv) (hzc : zv.cells = zc.toArray) (hrep : E.rep F wf x0 zc)
    (hi : R[r]? = some X) (ho : Own E F wf e' A c xs X) (hlm : l + m = xs.length)
    (k : ∀ w' X', Hp M I w0 wr w' (R.set r X') → Own E F wf e' A c (xs.take l ++ List.replicate m x0) X' → wpList P ops Q rest (st n L σ ds) w') :
    wpList P ops Q (⟨none, .call { callee := .builtin .clear, args := #[x], argTypes := #[t] }, ty, pos, af, none⟩ :: rest) (st n L σ ds) w := by
  refine s_clear x0 h hx hu hz hzc hrep hi ho (by have := ho.le; omega) (.inl hlm) fun w' X' h' o' => k w' X' h' ?_
  by_cases hl : xs.length ≤ l
  · rw [if_pos hl] at o'
    have hm : m = 0 := by omega
    subst hm
    rw [List.take_of_length_le hl]; simpa using o'
  · rwa [if_neg hl] at o'
theorem s_clearOut {t e e' : TypeId} {A : Option Addr} {c r l m : Nat} {xs : List α} {X : Rsc} {zv : Value} {zc : List Value} (x0 : α) (h : Hp M I w0 wr w R)
    (hx : (st n L σ ds).eval x = .slice (vA E.sz A c l) m (c - l)) (hu : P.underlying t = some (.slice e)) (hz : ZR P e zv) (hzc : zv.cells = zc.toArray) (hrep : E.rep F wf x0 zc)
    (hi : R[r]? = some X) (ho : Own E F wf e' A c xs X) (hlm : l + m ≤ c) (hle : xs.length ≤ l)
    (k : ∀ w' X', Hp M I w0 wr w' (R.set r X') → Own E F wf e' A c xs X' → wpList P ops Q rest (st n L σ ds) w') :
    wpList P ops Q (⟨none, .call { callee := .builtin .clear, args := #[x], argTypes := #[t] }, ty, pos, af, none⟩ :: rest) (st n L σ ds) w :=
  s_clear x0 h hx hu hz hzc hrep hi ho hlm (.inr hle) fun w' X' h' o' => k w' X' h' (by rwa [if_pos hle] at o')
theorem view_b {l h : Int} {k c : Nat} (g : 0 ≤ l ∧ l ≤ h ∧ h ≤ (k : Int)) (hc : k ≤ c) : 0 ≤ l ∧ l ≤ h ∧ h ≤ (c : Int) := by omega
theorem r_sleq {xt e : TypeId} {A : Option Addr} {m c : Nat} {x y : Operand} (hu : UT P xt (.slice e)) :
    (do eqGuard .eql xt x y (.slice A m c) (.slice none 0 0); binOp .eql xt (.slice A m c) (.slice none 0 0) : Sem Value).run P w = .ok (.bool A.isNone) w := by
  have h1 : eqGuard .eql xt x y (.slice A m c) (.slice none 0 0) = pure () := rfl
  have h2 : binOp .eql xt (.slice A m c) (.slice none 0 0) = (do pure (.bool (← Op.equal xt (.slice A m c) (.slice none 0 0)))) := rfl
  rw [h1, h2, Sem.run_bind, Sem.run_pure, Result.andThen_ok, Sem.run_bind]
  have h3 : (Op.equal xt (.slice A m c) (.slice none 0 0)).run P w = .ok A.isNone w := by
    unfold Op.equal Op.maxDepth
    rw [Op.equalIn]
    rw [Sem.run_bind, hu w, Result.andThen_ok]
    cases A <;> rfl
  rw [h3]; rfl
theorem nil_xs {A : Option Addr} {c : Nat} {xs : List α} (r : RdS E I wr A c xs) (h : A.isNone = true) : xs = [] := by
  rcases Classical.em (xs = []) with h1 | h1
  · exact h1
  · obtain ⟨a, cs, ha, _⟩ := r.at_ h1
    rw [ha] at h; cases h
theorem view_c {l : Int} {k c : Nat} (g : 0 ≤ l ∧ l ≤ (k : Int)) (hc : k ≤ c) : 0 ≤ l ∧ l ≤ (k : Int) ∧ (k : Int) ≤ (c : Int) := by omega
theorem sl3_b {l h : Int} {k c : Nat} (g : 0 ≤ l ∧ l ≤ h ∧ h ≤ (k : Int)) (hc : k ≤ c) : 0 ≤ l ∧ l ≤ h ∧ h ≤ (k : Int) ∧ (k : Int) ≤ (c : Int) := by omega
theorem e_slice3 {t e : TypeId} {A : Option Addr} {c m sz : Nat} {lo hi mx : Operand} {l h k : Int} {kl kh km : IntKind} (hu : UT P t (.slice e)) (hs : SZ P e sz) (hb : 0 ≤ l ∧ l ≤ h ∧ h ≤ k ∧ k ≤ (c : Int)) :
    ∀ {ac : Act} {w : World}, ac.eval x = .slice A m c → ac.eval lo = .int kl l → ac.eval hi = .int kh h → ac.eval mx = .int km k →
      (execOp ac.eval ⟨dst, .slice t x (some lo) (some hi) (some mx), ty, pos, af, gd⟩).run P w = .ok (.value (.slice (if k.toNat = l.toNat then A else A.map (·.add (l.toNat * sz))) (h.toNat - l.toNat) (k.toNat - l.toNat))) w := by
  intro ac w hx h1 h2 h3
  obtain ⟨b0, b1, b2, b3⟩ := hb
  have e0 : 0 ≤ h := by omega
  have e1 : 0 ≤ k := by omega
  simp only [execOp, hx, Option.map_some]
  simp [Instr.sliceAt, Instr.slice, Instr.sliceBounds, Instr.sliceBound, Sem.run_bind, hu w, hs w, asIntOf, *]
  rw [if_pos (by omega), if_pos (by omega)]
theorem Own.srcV {e : TypeId} {A : Option Addr} {c i l : Nat} {xs : List α} {X : Rsc} (o : Own E F wf e A c xs X) (h : Hp M I w0 wr w R) (hi : R[i]? = some X) : Src E F wf w (vA E.sz A c l) (xs.drop l) := fun hne => by
  have hl : l < xs.length := by
    rcases Nat.lt_or_ge l xs.length with h | h
    · exact h
    · exact absurd (List.drop_eq_nil_of_le h) hne
  rcases o with ⟨_, _, rfl, _⟩ | ⟨g, cur, cs, rfl, rfl, h1, h2, hb, h3, h4, h5⟩
  · simp at hl
  · refine ⟨⟨g, l * E.sz, none⟩, cs.drop (l * E.sz), by simp [vA, add_none]; omega, fun j u hu => ?_, h5.drop l⟩
    rw [add_none]
    refine cell_at (h.get hi (j := 0) rfl) ?_
    rw [List.getElem?_drop, ← h4, List.getElem?_take] at hu
    split at hu
    · rw [← Array.getElem?_toList]; exact hu
    · cases hu
theorem s_appendV {t e e' : TypeId} {ti : TypeInfo} {A A' : Option Addr} {c c' r : Nat} {xs ys : List α} {X : Rsc} (h : Hp M I w0 wr w R)
    (hx : (st n L σ ds).eval x = .slice A xs.length c) (hy : (st n L σ ds).eval y = .slice A' ys.length c')
    (hu : P.underlying t = some (.slice e)) (hi : P.info? e = some ti) (hsz : ti.size = E.sz)
    (hr : R[r]? = some X) (ho : Own E F wf e' A c xs X) (hs : Src E F wf w A' ys) (hroom : xs.length + ys.length ≤ c) (hbig : xs.length + ys.length ≤ 140737488355328) (hn : Nat.blt d n = true)
    (k : ∀ w' X', Hp M I w0 wr w' (R.set r X') → Own E F wf e' A c (xs ++ ys) X' → wpList P ops Q rest (st n ((d, .slice A (xs ++ ys).length c) :: L) σ ds) w') :
    wpList P ops Q (⟨some d, .call { callee := .builtin .append, args := #[x, y], argTypes := #[t, t] }, ty, pos, af, none⟩ :: rest) (st n L σ ds) w := by
  have hex : ∀ {u : Value} {w' : World}, (Builtin.append_ #[t, t] ty #[.slice A xs.length c, .slice A' ys.length c']).run P w = .ok u w' → (execOp (st n L σ ds).eval ⟨some d, .call { callee := .builtin .append, args := #[x, y], argTypes := #[t, t] }, ty, pos, af, none⟩).run P w = .ok (.value u) w' := fun he => by
    simp only [execOp, resolve]
    rw [show (#[x, y] : Array Operand).map (st n L σ ds).eval = #[.slice A xs.length c, .slice A' ys.length c'] by simp [hx, hy]]
    simp only [Sem.run_bind, Sem.run_pure, Result.andThen_ok, invoke, builtin]
    rw [he]; rfl
  by_cases hne : ys = []
  · subst hne
    have hle := ho.le
    have hfc : (Builtin.firstCells E.sz 0 (.slice A' 0 c')).run P w = .ok #[] w := by cases A' <;> simp [Builtin.firstCells, loadCells, loadCellsFrom]
    refine sv (v := .slice A (xs ++ []).length c) (w' := w) rfl rfl hn (hex ?_) (k w X (by rw [set_same hr]; exact h) (by rw [List.append_nil]; exact ho))
    rw [List.append_nil]
    cases A with
    | none => simp [Builtin.append_, run_underlying hu, sizeOf, typeInfo, hi, Builtin.lenOf, hle, hsz, hfc, Sem.run_bind]
    | some a => simp [Builtin.append_, run_underlying hu, sizeOf, typeInfo, hi, Builtin.lenOf, hle, hsz, hfc, Sem.run_bind, storeCells]
  · have hpos : 0 < ys.length := List.length_pos_iff.2 hne
    obtain ⟨a, cy, rfl, hc, hcy⟩ := hs hne
    rcases ho with ⟨rfl, rfl, rfl, rfl⟩ | ⟨g, cur, cs, rfl, rfl, h1, h2, hb, h3, h4, h5⟩
    · exfalso; rw [List.length_nil] at hroom; omega
    have hyl := hcy.len
    have hfc := run_firstCells_some (P := P) w E.sz ys.length a ys.length c' cy hyl hc
    have hown := h.get hr (j := 0) (b := g) (o := .cells cur e' (0, 0)) rfl
    have hfit : xs.length * E.sz + ys.length * E.sz ≤ c * E.sz := by rw [← Nat.add_mul]; exact Nat.mul_le_mul_right _ hroom
    have hcl : cur.toList.length = c * E.sz := by simpa using h3
    obtain ⟨w', hst, a1, a2, a3, a4, a5, a6⟩ := run_storeCells (P := P) (b := g) (e := e') cy 0 (xs.length * E.sz) cur.toList w (by simpa using hown) (fun u hu => one_of (hcy.mem u hu)) (by omega)
    rw [Nat.add_zero, hyl] at a6
    refine sv (v := .slice (some ⟨g, 0, none⟩) (xs ++ ys).length c) (w' := w') rfl rfl hn (hex ?_) (k w' _ (h.upd hr (j := 0) rfl a1 a2 a3 a4 a5 a6) ?_)
    · rw [List.length_append]
      simp [Builtin.append_, run_underlying hu, sizeOf, typeInfo, hi, Builtin.lenOf, hroom, hsz, hfc, Sem.run_bind, add_none, hst]
    · refine .inr ⟨g, _, cs ++ cy, rfl, rfl, by rw [List.length_append]; exact hroom, h2, by rw [List.length_append]; exact hbig, ?_, ?_, h5.append hcy⟩
      · simp only [List.size_toArray, List.length_append, List.length_take, List.length_drop, hyl]; omega
      · rw [← h4, List.length_append, Nat.add_mul]
        show List.take (xs.length * E.sz + ys.length * E.sz) (cur.toList.take (xs.length * E.sz) ++ cy ++ cur.toList.drop (xs.length * E.sz + ys.length * E.sz)) = _
        rw [List.take_left' (by rw [List.length_append, List.length_take, hyl]; omega)]
end
def isnan (b : Nat) : Bool := (Ieee.double.read b).isNaN
def nan64 : Nat := 9221120237041090561
def flt (b : Nat) : Nat := if isnan b = true then nan64 else b
theorem isnan64 : isnan nan64 = true := by decide +kernel
theorem isnan_flt (b : Nat) : isnan (flt b) = isnan b := by
  unfold flt
  by_cases h : isnan b = true
  · rw [if_pos h, isnan64, h]
  · rw [if_neg h]
theorem flt_num {b : Nat} (h : isnan b = false) : flt b = b := by unfold flt; rw [if_neg (by rw [h]; decide)]
theorem ord_l {b : Nat} (h : isnan b = true) (c : Nat) : Ieee.double.order b c = none := by
  unfold Ieee.Format.order
  unfold isnan at h
  cases hd : Ieee.double.read b <;> rw [hd] at h <;> simp [Ieee.Datum.isNaN] at h
  rfl
theorem ord_r {c : Nat} (h : isnan c = true) (b : Nat) : Ieee.double.order b c = none := by
  unfold Ieee.Format.order
  unfold isnan at h
  cases hd : Ieee.double.read c <;> rw [hd] at h <;> simp [Ieee.Datum.isNaN] at h
  cases Ieee.double.read b <;> rfl
theorem ord_flt (b c : Nat) : Ieee.double.order (flt b) (flt c) = Ieee.double.order b c := by
  by_cases hb : isnan b = true
  · rw [ord_l hb, ord_l (by rw [isnan_flt]; exact hb)]
  · by_cases hc : isnan c = true
    · rw [ord_r hc, ord_r (by rw [isnan_flt]; exact hc)]
    · rw [flt_num (by simpa using hb), flt_num (by simpa using hc)]
theorem isnan_lt {b : Nat} (h : 9218868437227405312 < b % 9223372036854775808) : isnan b = true := by
  unfold isnan Ieee.Format.read
  have e1 : Ieee.double.signWeight = 9223372036854775808 := by decide +kernel
  have e2 : Ieee.double.binade = 4503599627370496 := by decide +kernel
  have e3 : Ieee.double.infRung = 9218868437227405312 := by decide +kernel
  simp only [e1, e2, e3]
  rw [if_neg (by omega), if_neg (by omega), if_neg (by omega)]
  rfl
def qf (a b : Nat) : Nat := match Ieee.double.div a b with | some r => flt r | none => nan64
theorem div_l {b : Nat} (h : isnan b = true) (c : Nat) : Ieee.double.div b c = none := by
  unfold Ieee.Format.div
  unfold isnan at h
  cases hd : Ieee.double.read b <;> rw [hd] at h <;> simp [Ieee.Datum.isNaN] at h
  rfl
theorem div_r {c : Nat} (h : isnan c = true) (b : Nat) : Ieee.double.div b c = none := by
  unfold Ieee.Format.div
  unfold isnan at h
  cases hd : Ieee.double.read c <;> rw [hd] at h <;> simp [Ieee.Datum.isNaN] at h
  cases Ieee.double.read b <;> rfl
theorem qf_flt (b c : Nat) : qf (flt b) (flt c) = qf b c := by
  unfold qf
  by_cases hb : isnan b = true
  · rw [div_l hb, div_l (by rw [isnan_flt]; exact hb)]
  · by_cases hc : isnan c = true
    · rw [div_r hc, div_r (by rw [isnan_flt]; exact hc)]
    · rw [flt_num (by simpa using hb), flt_num (by simpa using hc)]
section
variable {P : Program} {w w0 wr : World} {M I : Nat → Prop} {R : List Rsc} {x y : Operand} {xt : TypeId}
theorem Hp.drew (h : Hp M I w0 wr w R) : Hp M I w0 wr w.drew R := ⟨h.os, h.tape, h.output, h.le, h.old, h.imm, h.ilt, h.own, h.fresh, h.nodup⟩
theorem run_quo (a b : Nat) : ∃ r w', (do eqGuard .quo xt x y (.float .f64 a) (.float .f64 b); binOp .quo xt (.float .f64 a) (.float .f64 b) : Sem Value).run P w = .ok (.float .f64 r) w' ∧ flt r = qf a b ∧ (w' = w ∨ w' = w.drew) := by
  have h1 : eqGuard .quo xt x y (.float .f64 a) (.float .f64 b) = pure () := rfl
  rw [h1, Sem.run_bind, Sem.run_pure, Result.andThen_ok]
  unfold qf
  cases hd : Ieee.double.div a b with
  | some r =>
    exact ⟨r, w, run_float_arith w .quo xt .f64 a b r hd, rfl, .inl rfl⟩
  | none =>
    have hr : (binOp .quo xt (.float .f64 a) (.float .f64 b)).run P w = .ok (.float .f64 ((Question.nanBits .f64 a b).cut (w.tape w.drawn (.nanBits .f64 a b)))) w.drew := by
      have h2 : binOp .quo xt (.float .f64 a) (.float .f64 b) = Op.floatArith .quo .f64 a b := rfl
      rw [h2]
      unfold Op.floatArith
      have h3 : FloatKind.f64.format.div a b = none := hd
      simp [h3, Question.forced]
    refine ⟨_, _, hr, ?_, .inr rfl⟩
    unfold flt
    rw [if_pos]
    refine isnan_lt ?_
    simp only [Question.cut]
    generalize w.tape w.drawn (Question.nanBits FloatKind.f64 a b) = t
    have hm : t / 2 % (2 ^ 52 - 1) < 4503599627370495 := Nat.mod_lt _ (by decide)
    generalize t / 2 % (2 ^ 52 - 1) = m at hm
    rcases Nat.mod_two_eq_zero_or_one t with e | e <;> rw [e] <;> omega
end
def i2f (n : Int) : Nat := floatOfInt .f64 n
def feq (a b : Nat) : Bool := Ieee.double.order a b == some .eq
def fls (a b : Nat) : Bool := Ieee.double.order a b == some .lt
theorem flt0 : flt 0 = 0 := flt_num (by decide +kernel)
theorem qf_c {a b x y : Nat} (ha : flt a = x) (hb : flt b = y) : qf a b = qf x y := by subst ha; subst hb; exact (qf_flt a b).symm
def fltE : Enc Nat := ⟨1, fun F w x cs => ∃ b, cs = [.float .f64 b] ∧ flt b = x, Nat.one_pos, fun h => by obtain ⟨b, rfl, _⟩ := h; rfl, fun h u hu => by
  obtain ⟨b, rfl, _⟩ := h
  simp at hu; subst hu; rfl, fun h _ => h⟩
section
variable {P : Program} {ops : Array Oper} {Q : Exit → Act → World → Prop} {n : Nat} {L : Env} {σ : Nat → Value} {ds : List Deferred} {w : World} {rest : List Oper}
variable {d : Nat} {ty : TypeId} {pos : String} {af : Array Edge} {x y : Operand} {M I : Nat → Prop} {w0 wr : World} {R : List Rsc} {xt yt : TypeId}
theorem s_fquo {a b : Nat} (h : Hp M I w0 wr w R) (hx : (st n L σ ds).eval x = .float .f64 a) (hy : (st n L σ ds).eval y = .float .f64 b) (hn : Nat.blt d n = true)
    (k : ∀ r w', flt r = qf a b → Hp M I w0 wr w' R → wpList P ops Q rest (st n ((d, .float .f64 r) :: L) σ ds) w') :
    wpList P ops Q (⟨some d, .binOp .quo xt x y yt, ty, pos, af, none⟩ :: rest) (st n L σ ds) w := by
  obtain ⟨r, w', hr, h1, h2⟩ := run_quo (P := P) (w := w) (x := x) (y := y) (xt := xt) a b
  refine sv (v := .float .f64 r) (w' := w') rfl rfl hn ?_ (k r w' h1 ?_)
  · simp only [execOp, hx, hy]
    rw [Sem.run_bind, hr]
    rfl
  · rcases h2 with rfl | rfl
    · exact h
    · exact h.drew
theorem e_convF {a : Act} {src dt : TypeId} {sd : TypeDesc} {k' : IntKind} {c : Int} {dst : Option Tmp} {gd : Option (Nat × Bool)} (hx : a.eval x = .int k' c) (h1 : UT P src sd) (h2 : UT P dt (.float .f64)) :
    (execOp a.eval ⟨dst, .convert src dt x, ty, pos, af, gd⟩).run P w = .ok (.value (.float .f64 (i2f c))) w := by
  simp only [execOp, hx]
  rw [Sem.run_bind]
  cases sd <;> simp [convert, Sem.run_bind, h1 w, h2 w, Conv.intToFloat, i2f, floatOfInt]
theorem e_f64bits {a : Act} {f : FuncId} {fn : Func} {b : Nat} {ats : Array TypeId} {dst : Option Tmp} {gd : Option (Nat × Bool)} (hf : P.funcs[f]? = some fn) (hname : (fn.name == "runtime.NumGoroutine") = false) (hb : fn.body.isNone = true)
    (hn : Extern.findNext fn = none) (he : Extern.find fn = some Extern.MathFloatBits.float64bits) (hx : a.eval x = .float .f64 b) :
    (execOp a.eval ⟨dst, .call { callee := .value (.func f), args := #[x], argTypes := ats }, ty, pos, af, gd⟩).run P w = .ok (.value (.int .u64 b)) w := by
  have h1 : (callFunc f #[.float .f64 b]).run P w = .ok (.value (.int .u64 b)) w := by
    rw [run_callFunc_extern hf hname hb hn he]; rfl
  simp only [execOp, resolve]
  rw [show (#[x] : Array Operand).map a.eval = #[.float .f64 b] by simp [hx]]
  simp [Act.eval, Deferred.ofValue, Sem.run_bind, invoke, h1]
theorem r_feq {a b p q : Nat} (ha : flt a = p) (hb : flt b = q) (hu : UT P xt (.float .f64)) :
    (do eqGuard .eql xt x y (.float .f64 a) (.float .f64 b); binOp .eql xt (.float .f64 a) (.float .f64 b) : Sem Value).run P w = .ok (.bool (feq p q)) w := by
  subst ha; subst hb
  unfold feq
  rw [ord_flt]
  rfl
theorem r_fls {a b p q : Nat} (ha : flt a = p) (hb : flt b = q) :
    (do eqGuard .lss xt x y (.float .f64 a) (.float .f64 b); binOp .lss xt (.float .f64 a) (.float .f64 b) : Sem Value).run P w = .ok (.bool (fls p q)) w := by
  subst ha; subst hb
  unfold fls
  rw [ord_flt]
  rfl
end

theorem loop_tot {S O : Type} {f : S → Option (S ⊕ O)} (I : S → Prop) (μ : S → Nat) (Q : O → Prop)
    (step : ∀ s, I s → (∃ s', f s = some (.inl s') ∧ I s' ∧ μ s' < μ s) ∨ (∃ o, f s = some (.inr o) ∧ Q o)) (s : S) (h : I s) : ∃ o, loop f s = some o ∧ Q o := by
  suffices H : ∀ n s, μ s ≤ n → I s → ∃ o, loop f s = some o ∧ Q o from H _ s (Nat.le_refl _) h
  intro n
  induction n with
  | zero =>
    intro s hn hs
    rcases step s hs with ⟨s', _, _, hlt⟩ | ⟨o, ho, hq⟩
    · omega
    · exact ⟨o, loop_out ho, hq⟩
  | succ n ih =>
    intro s hn hs
    rcases step s hs with ⟨s', he, hs', hlt⟩ | ⟨o, ho, hq⟩
    · obtain ⟨o, h1, h2⟩ := ih s' (by omega) hs'
      exact ⟨o, (loop_in he).trans h1, h2⟩
    · exact ⟨o, loop_out ho, hq⟩
theorem loop_to {S O : Type} {f : S → Option (S ⊕ O)} (o : O) (I : S → Prop) (μ : S → Nat)
    (step : ∀ s, I s → (∃ s', f s = some (.inl s') ∧ I s' ∧ μ s' < μ s) ∨ f s = some (.inr o)) (s : S) (h : I s) : loop f s = some o := by
  obtain ⟨o', h1, rfl⟩ := loop_tot I μ (fun o' => o' = o) (fun s hs => (step s hs).imp id fun h => ⟨o, h, rfl⟩) s h
  exact h1
def loopF {S O : Type} (f : S → Option (S ⊕ O)) : Nat → S → Option O
  | 0, _ => none
  | n + 1, s => match f s with
    | none => none
    | some (.inl s') => loopF f n s'
    | some (.inr o) => some o
theorem loop_of_F {S O : Type} {f : S → Option (S ⊕ O)} : ∀ (n : Nat) {s : S} {o : O}, loopF f n s = some o → loop f s = some o
  | 0, s, o, h => by cases h
  | n + 1, s, o, h => by
    unfold loopF at h
    split at h
    · cases h
    · rename_i s' hf; exact (loop_in hf).trans (loop_of_F n h)
    · rename_i o' hf; cases h; exact loop_out hf
theorem w64 {x : Int} (h : -9223372036854775808 ≤ x ∧ x < 9223372036854775808) : wrap64 x = x := by unfold wrap64; omega
theorem gi_nat {α : Type} [Inhabited α] (l : List α) (i : Nat) (h : i < l.length) : gi l (i : Int) = l[i] := by simp [gi, h]
theorem gi_append_left {α : Type} [Inhabited α] {l m : List α} {i : Int} (h0 : 0 ≤ i) (h : i < l.length) : gi (l ++ m) i = gi l i := by
  have : i.toNat < l.length := by omega
  simp [gi, List.getD_eq_getElem?_getD, List.getElem?_append_left this]
theorem gi_append_at {α : Type} [Inhabited α] {l : List α} {x : α} {i : Int} (h : i = l.length) : gi (l ++ [x]) i = x := by
  subst h; simp [gi]
theorem gi_mem {α : Type} [Inhabited α] {l : List α} {i : Int} (h0 : 0 ≤ i) (h : i < l.length) : gi l i ∈ l := by
  have : i.toNat < l.length := by omega
  simp [gi, List.getD_eq_getElem?_getD, this]
theorem vg_vp {α : Type} [Inhabited α] {m : Nat} (u : Vector α m) (i j : Int) (x : α) (h0 : 0 ≤ i) (h1 : i < m) (g0 : 0 ≤ j) :
    vg (vp u i x) j = if i = j then x else vg u j := by
  have hi : i.toNat < m := by omega
  simp only [vg, gi, vp_toList, List.getD_eq_getElem?_getD, List.getElem?_set, Vector.length_toList]
  by_cases hij : i = j
  · subst hij; simp [hi]
  · rw [if_neg (by omega), if_neg hij]
def W64 (a : Int) : Prop := 0 ≤ a ∧ a < 18446744073709551616
def bt (a : Int) (k : Nat) : Bool := a.toNat.testBit k
theorem or_W {a b : Int} (ha : W64 a) (hb : W64 b) : W64 (bits .or .u64 a b) := by
  rw [u64_or a b ha.1 ha.2 hb.1 hb.2]
  have : a.toNat ||| b.toNat < 2 ^ 64 := Nat.or_lt_two_pow (by have := ha.1; have := ha.2; omega) (by have := hb.1; have := hb.2; omega)
  exact ⟨by omega, by omega⟩
theorem bt_or {a b : Int} (ha : W64 a) (hb : W64 b) (k : Nat) : bt (bits .or .u64 a b) k = (bt a k || bt b k) := by
  rw [u64_or a b ha.1 ha.2 hb.1 hb.2]
  simp [bt]
theorem W_zero : W64 0 := ⟨by decide, by decide⟩
theorem bt_zero (k : Nat) : bt 0 k = false := by simp [bt]
def b1 (i : Int) : Int := (1 * 2 ^ (min (i % 18446744073709551616).toNat 64)) % 18446744073709551616
theorem b1_eq {i : Nat} (h : i < 64) : b1 (i : Int) = ((2 ^ i : Nat) : Int) := by
  unfold b1
  have h1 : min (((i : Int)) % 18446744073709551616).toNat 64 = i := by omega
  have h2 : 2 ^ i < 2 ^ 64 := Nat.pow_lt_pow_right (by decide) h
  rw [h1, Int.one_mul]
  have h3 : ((2 : Int) ^ i) = ((2 ^ i : Nat) : Int) := by simp
  rw [h3]
  generalize 2 ^ i = m at h2 ⊢
  omega
theorem b1_W (i : Int) : W64 (b1 i) := by unfold b1; exact ⟨by omega, by omega⟩
theorem bt_b1 {i : Nat} (h : i < 64) (k : Nat) : bt (b1 (i : Int)) k = decide (i = k) := by
  rw [b1_eq h]; simp only [bt, Int.toNat_natCast, Nat.testBit_two_pow]
theorem ask_bit {a : Int} (ha : W64 a) {k : Int} (h0 : 0 ≤ k) (h1 : k < 64) : decide (bits .and .u64 (a / 2 ^ (min (k % 18446744073709551616).toNat 64)) 1 = 1) = bt a k.toNat := by
  obtain ⟨n, rfl⟩ := Int.eq_ofNat_of_zero_le ha.1
  obtain ⟨k, rfl⟩ := Int.eq_ofNat_of_zero_le h0
  have hm : min (((k : Int)) % 18446744073709551616).toNat 64 = k := by omega
  have hd : (n : Int) / 2 ^ k = ((n / 2 ^ k : Nat) : Int) := by simp
  have hn : n < 18446744073709551616 := by have := ha.2; omega
  have hle : n / 2 ^ k ≤ n := Nat.div_le_self _ _
  rw [hm, hd]
  have key : bits .and .u64 ((n / 2 ^ k : Nat) : Int) 1 = ((n / 2 ^ k % 2 : Nat) : Int) := by
    generalize n / 2 ^ k = m at hle
    rw [show (1 : Int) = ((1 : Nat) : Int) from rfl, u64_and_nat m 1 (by omega) (by omega), Nat.and_one_is_mod]
  rw [key]
  simp only [bt, Int.toNat_natCast, Nat.testBit, Nat.shiftRight_eq_div_pow]
  have e2 : 1 &&& n / 2 ^ k = n / 2 ^ k % 2 := by rw [Nat.and_comm]; exact Nat.and_one_is_mod _
  rw [e2]
  rcases Nat.mod_two_eq_zero_or_one (n / 2 ^ k) with h | h <;> simp [h]
theorem andNot_zero {a b : Int} (ha : W64 a) (hb : W64 b) (h : ∀ k, bt a k = true → bt b k = true) : bits .andNot .u64 a b = 0 := by
  rw [u64_andNot a b ha.1 ha.2 hb.1 hb.2]
  have : a.toNat &&& (18446744073709551615 - b.toNat) = 0 := by
    apply Nat.eq_of_testBit_eq
    intro k
    rw [Nat.testBit_and, Nat.zero_testBit]
    have hb2 : b.toNat < 2 ^ 64 := by have := hb.1; have := hb.2; omega
    have := Nat.testBit_two_pow_sub_succ hb2 k
    rw [show 2 ^ 64 - (b.toNat + 1) = 18446744073709551615 - b.toNat by omega] at this
    rw [this]
    cases h1 : a.toNat.testBit k
    · simp
    · have := h k h1
      simp only [bt] at this
      simp [this]
  rw [this]; rfl
section
variable {β : Type}
theorem aget_nil (k : Int) : aget ([] : List (Int × β)) k = none := rfl
theorem aget_cons (p : Int × β) (r : List (Int × β)) (k : Int) : aget (p :: r) k = if k = p.1 then some p.2 else aget r k := by
  unfold aget
  simp only [aidx]
  split
  · rfl
  · cases aidx r k <;> rfl
theorem aset_nil (k : Int) (v : β) : aset ([] : List (Int × β)) k v = [(k, v)] := rfl
theorem aset_cons (p : Int × β) (r : List (Int × β)) (k : Int) (v : β) : aset (p :: r) k v = if k = p.1 then (k, v) :: r else p :: aset r k v := by
  by_cases h : k = p.1
  · simp [aset, aidx, h]
  · cases h2 : aidx r k with
    | none => simp [aset, aidx, h, h2]
    | some q => simp [aset, aidx, h, h2]
theorem aget_aset (m : List (Int × β)) (k k' : Int) (v : β) : aget (aset m k v) k' = if k' = k then some v else aget m k' := by
  induction m with
  | nil => rw [aset_nil, aget_cons, aget_nil]
  | cons p r ih =>
    rw [aset_cons]
    split
    · rename_i h
      subst h
      rw [aget_cons, aget_cons]
      simp only []
      split <;> rfl
    · rename_i h
      rw [aget_cons, aget_cons, ih]
      split
      · rename_i h2
        subst h2
        rw [if_neg (fun e => h e.symm)]
      · rfl
end
end Go.Proofs.Ytbdbmklkgjbehaa.B
