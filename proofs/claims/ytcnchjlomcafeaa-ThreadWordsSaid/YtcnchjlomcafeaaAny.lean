/- Regions that draw their order, one operation at a time: what hangs on nothing that turns is taken first; the others follow one another. -/
import Derived.Test.YtcnchjlomcafeaaExtra
set_option linter.unusedVariables false
set_option linter.unusedSimpArgs false
set_option linter.unusedSectionVars false
namespace Go.Proofs.Ytcnchjlomcafeaa.B
open Go Go.RowKit

/-- What stays as it is for a while within a region: what may be read, and some of what is owned. -/
structure Wp (I : Nat → Prop) (wr : World) (S : List Rsc) (mk : List Nat) (w : World) : Prop where
  imm : ∀ k, I k → w.heap[k]? = wr.heap[k]?
  own : ∀ r ∈ mk, ∀ p ∈ S.getD r [], w.heap[p.1]? = some p.2
section
variable {M I : Nat → Prop} {w0 wr w : World} {R S : List Rsc} {mk : List Nat} {α : Type} {E : Enc α}
theorem Wp.of (h : Hp M I w0 wr w R) (idx : List Nat) (hS : idx.map (fun i => R.getD i []) = mk.map (fun i => S.getD i [])) : Wp I wr S mk w := by
  refine ⟨h.imm, fun r hr p hp => ?_⟩
  have : S.getD r [] ∈ mk.map (fun i => S.getD i []) := List.mem_map.2 ⟨r, hr, rfl⟩
  rw [← hS] at this
  obtain ⟨i, _, he⟩ := List.mem_map.1 this
  rw [← he] at hp
  by_cases hi : i < R.length
  · rw [List.getD_eq_getElem?_getD, List.getElem?_eq_getElem hi] at hp
    exact h.own p (List.mem_flatten.2 ⟨R[i], List.getElem_mem hi, hp⟩)
  · rw [List.getD_eq_getElem?_getD, List.getElem?_eq_none (by omega)] at hp; simp at hp
theorem Wp.down {I' : Nat → Prop} {wr' : World} (u : Up I wr I' wr') (h : Wp I' wr' S mk w) : Wp I wr S mk w := ⟨fun k hk => (h.imm k (u k hk).1).trans (u k hk).2, h.own⟩
theorem Wp.sub {mk' : List Nat} (h : Wp I wr S mk w) (hs : mk'.all mk.contains = true) : Wp I wr S mk' w :=
  ⟨h.imm, fun r hr => h.own r (List.contains_iff_mem.1 (List.all_eq_true.1 hs r hr))⟩
theorem Wp.get (h : Wp I wr S mk w) {i j b : Nat} {r : Rsc} {o : Obj} (hi : S[i]? = some r) (hj : r[j]? = some (b, o)) (hb : mk.contains i = true := by decide) : w.heap[b]? = some o :=
  h.own i (List.contains_iff_mem.1 hb) (b, o) (by rw [List.getD_eq_getElem?_getD, hi]; exact List.mem_of_getElem? hj)
theorem Wp.ep {a : Addr} {cs : List Value} (h : Wp I wr S mk w) (e : EP I wr a cs) : CellsAt w a cs := e.cells.block (h.imm _ e.at_)
theorem Hp.ep {a : Addr} {cs : List Value} (h : Hp M I w0 wr w R) (e : EP I wr a cs) : CellsAt w a cs := e.now h
theorem Wp.oa {X : Rsc} {a : Addr} {cs : List Value} {i : Nat} (h : Wp I wr S mk w) (o : OA X a cs) (hi : S[i]? = some X) (hb : mk.contains i = true := by decide) : CellsAt w a cs := o w fun p hq => h.own i (List.contains_iff_mem.1 hb) p (by rw [List.getD_eq_getElem?_getD, hi]; exact hq)
theorem Hp.oa {X : Rsc} {a : Addr} {cs : List Value} {i : Nat} (h : Hp M I w0 wr w R) (o : OA X a cs) (hi : R[i]? = some X) : CellsAt w a cs := o.now h hi
section
variable {β : Type} {kk : IntKind} {ev : β → Value} {A : Option Nat} {m : List (Int × β)} {X : Rsc}
end
end

section
variable {P : Program} {ops : Array Oper} {Q : Exit → Act → World → Prop} {W : Nat → World → Prop} {V : World → Prop}
def wpW (W : Nat → World → Prop) (P : Program) (ops : Array Oper) (Q : Exit → Act → World → Prop) : Nat → Array Bool → Act → World → Prop
  | 0, listed, a, w => Region.ready .any ops listed = [] ∧ Q .normal a w
  | fuel + 1, listed, a, w => (Region.ready .any ops listed = [] → Q .normal a w) ∧
    ∀ i ∈ Region.ready .any ops listed, wpOp P ops Q i (fun a' w' => W i w' ∧ wpW W P ops Q fuel (listed.setIfInBounds i true) a' w') a w
theorem wpW_any : ∀ (fuel : Nat) (listed : Array Bool) (a : Act) (w : World), wpW W P ops Q fuel listed a w → wpAny P .any ops Q fuel listed a w
  | 0, _, _, _, h => h
  | fuel + 1, listed, a, w, h => ⟨h.1, fun i hi => wpOp_mono (fun a' w' h' => wpW_any fuel _ a' w' h'.2) (h.2 i hi)⟩
def YW (V : World → Prop) (P : Program) (ops : Array Oper) (o : Oper) (v : Value) (a : Act) : Prop :=
  (Region.wanted o (yielded ops a.tmps) = true ∧ ∀ w, V w → (execOp a.eval o).run P w = .ok (.value v) w) ∨
  (Region.wanted o (yielded ops a.tmps) = false ∧ v = undef)
theorem YW.op {i : Nat} {o : Oper} {v : Value} {a : Act} {w : World} (hW : V w) (hi : ops[i]? = some o) (hy : YW V P ops o v a) {K : Act → World → Prop} (h : K (a.put o.dst v) w) : wpOp P ops Q i K a w := by
  unfold wpOp
  simp only [hi]
  rcases hy with ⟨hw, hv⟩ | ⟨hw, rfl⟩
  · simp only [hw, if_true, Oper.wp, hv w hW, Oper.upon]; exact .inl h
  · simp only [hw, Bool.false_eq_true, if_false]; exact h
/-- An operation sees the same in both. -/
def Lk (ops : Array Oper) (o : Oper) (a a' : Act) : Prop := execOp a'.eval o = execOp a.eval o ∧ Region.wanted o (yielded ops a'.tmps) = Region.wanted o (yielded ops a.tmps)
theorem YW.lk {o : Oper} {v : Value} {a a' : Act} (hy : YW V P ops o v a) (h : Lk ops o a a') : YW V P ops o v a' := by
  unfold YW at *
  rw [h.1, h.2]; exact hy
theorem wpOp_late {j : Nat} {oi oj : Oper} {v : Value} (hj : ops[j]? = some oj) (hap : oi.apart ops oj = true) (hsi : ∀ cs b, oi.op ≠ .select cs b) (hsj : ∀ cs b, oj.op ≠ .select cs b)
    (hQ : ∀ c a w, Q (.panic c) (a.put oi.dst v) w → Q (.panic c) a w) {K : Act → World → Prop} {a : Act} {w : World} (h : wpOp P ops Q j K (a.put oi.dst v) w) :
    wpOp P ops Q j (fun a' w' => Lk ops oi a a' ∧ K (a'.put oi.dst v) w') a w := by
  obtain ⟨h1, h2, h3⟩ := Oper.apart_spec hap
  have keep : ∀ u, Lk ops oi a (a.put oj.dst u) := fun u => ⟨execOp_put oi hsi a oj.dst u h3, wanted_put oi a oj.dst u h3⟩
  have keepD : ∀ d u, Lk ops oi a ({ a with defers := d :: a.defers }.put oj.dst u) := fun d u =>
    ⟨(execOp_put oi hsi { a with defers := d :: a.defers } oj.dst u h3).trans rfl, (wanted_put oi { a with defers := d :: a.defers } oj.dst u h3).trans rfl⟩
  unfold wpOp at *
  simp only [hj] at *
  rw [wanted_put oj a oi.dst v h1] at h
  split
  · rename_i hw
    simp only [hw, if_true] at h
    rcases h with h | ⟨hasks, hlets⟩
    case inr => exact .inr ⟨by unfold Oper.asks at *; rw [execOp_put oj hsj a oi.dst v h1] at hasks; exact hasks, hlets⟩
    refine .inl ?_
    unfold Oper.wp at *
    rw [execOp_put oj hsj a oi.dst v h1] at h
    generalize (execOp a.eval oj).run P w = r at *
    cases r with
    | ok n w' =>
      cases n <;> simp only [Oper.upon] at h ⊢
      case value u => exact ⟨keep u, by rw [← Act.put_comm a v u h2]; exact h⟩
      case skip => exact ⟨keep _, by rw [← Act.put_comm a v undef h2]; exact h⟩
      case defer d =>
        refine ⟨keepD d _, ?_⟩
        rw [← Act.put_comm _ v undef h2, ← Act.put_defers]
        exact h
      case enter f args =>
        refine Calls.mono h fun e w'' he => ?_
        cases e with
        | returned u => exact ⟨keep u, by rw [← Act.put_comm a v u h2]; exact he⟩
        | panicked c => exact hQ _ _ _ he
        | outgrown => exact he
      case row row args => exact Rows.mono h fun u w'' he => ⟨keep u, by rw [← Act.put_comm a v u h2]; exact he⟩
    | halt x w' =>
      cases x <;> simp only [Oper.upon] at h ⊢
      case panic u => exact hQ _ _ _ h
  · rename_i hw
    simp only [hw] at h
    exact ⟨keep _, by rw [← Act.put_comm a v undef h2]; exact h⟩
/-- One operation hangs on another, perhaps through others. -/
inductive TR (ops : Array Oper) : Nat → Nat → Prop
  | one {j : Nat} {o : Oper} {e : Edge} (h : ops[j]? = some o) (he : e ∈ o.after) (hb : Region.binds .any e = true) : TR ops j e.on
  | step {j i : Nat} {o : Oper} {e : Edge} (h : ops[j]? = some o) (he : e ∈ o.after) (hb : Region.binds .any e = true) (k : TR ops e.on i) : TR ops j i
def Cl (ops : Array Oper) (listed : Array Bool) : Prop := ∀ k o, ops[k]? = some o → listed.getD k false = true → ∀ e ∈ o.after, Region.binds .any e = true → listed.getD e.on false = true
theorem TR.listed {listed : Array Bool} (hc : Cl ops listed) {k i : Nat} (h : TR ops k i) : listed.getD k false = true → listed.getD i false = true := by
  induction h with
  | one h he hb => intro hl; exact hc _ _ h hl _ he hb
  | step h he hb _ ih => intro hl; exact ih (hc _ _ h hl _ he hb)
theorem TR.ready {listed : Array Bool} (hc : Cl ops listed) {j i : Nat} (h : TR ops j i) (hr : j ∈ Region.ready .any ops listed) : listed.getD i false = true := by
  obtain ⟨_, o, ho, hall⟩ := mem_ready.1 hr
  cases h with
  | one h he hb => rw [ho] at h; cases h; exact hall _ he hb
  | step h he hb k => rw [ho] at h; cases h; exact k.listed hc (hall _ he hb)
theorem Cl.set {listed : Array Bool} (hc : Cl ops listed) {j : Nat} (hr : j ∈ Region.ready .any ops listed) : Cl ops (listed.setIfInBounds j true) := by
  intro k o ho hl e he hb
  obtain ⟨_, oj, hoj, hall⟩ := mem_ready.1 hr
  by_cases hkj : k = j
  · subst hkj
    rw [hoj] at ho; cases ho
    exact getD_set_true (hall e he hb)
  · rw [getD_set_ne false (Ne.symm hkj)] at hl
    exact getD_set_true (hc k o ho hl e he hb)
theorem wpW_first {i : Nat} {oi : Oper} {v : Value} (hi : ops[i]? = some oi) (hsel : ∀ (j : Nat) (o : Oper) cs b, ops[j]? = some o → o.op ≠ .select cs b)
    (hQ : ∀ c a w, Q (.panic c) (a.put oi.dst v) w → Q (.panic c) a w) :
    ∀ (fuel : Nat) (listed : Array Bool) (a : Act) (w : World), V w → Cl ops listed →
      (∀ j oj, ops[j]? = some oj → j ≠ i → listed.getD j true = false → ¬ TR ops j i → oi.apart ops oj = true ∧ ∀ w', W j w' → V w') →
      i ∈ Region.ready .any ops listed → YW V P ops oi v a → W i w →
      wpW W P ops Q fuel (listed.setIfInBounds i true) (a.put oi.dst v) w → (∀ w', V w' → W i w') → wpW W P ops Q (fuel + 1) listed a w := by
  intro fuel
  induction fuel with
  | zero =>
    intro listed a w hV hcl hfree hr hy hWi H hVW
    refine ⟨fun h => (by rw [h] at hr; cases hr), fun j hj => ?_⟩
    by_cases hji : j = i
    · subst hji; exact hy.op hV hi ⟨hWi, H⟩
    · have := ready_mono hj hji
      rw [H.1] at this
      cases this
  | succ fuel ih =>
    intro listed a w hV hcl hfree hr hy hWi H hVW
    refine ⟨fun h => (by rw [h] at hr; cases hr), fun j hj => ?_⟩
    by_cases hji : j = i
    · subst hji; exact hy.op hV hi ⟨hWi, H⟩
    · have h1 := H.2 j (ready_mono hj hji)
      obtain ⟨hjun, oj, hoj, hall⟩ := mem_ready.1 hj
      have hnot : ¬ TR ops j i := fun ht => by
        have h1 := ht.ready hcl hj
        have h0 := (mem_ready.1 hr).1
        rcases Nat.lt_or_ge i listed.size with h' | h'
        · simp [h'] at h0 h1; rw [h0] at h1; cases h1
        · simp [Array.getElem?_eq_none h'] at h1
      have h2 := wpOp_late hoj (hfree j oj hoj hji hjun hnot).1 (fun cs b => hsel i oi cs b hi) (fun cs b => hsel j oj cs b hoj) hQ h1
      have hfree' : ∀ k ok, ops[k]? = some ok → k ≠ i → (listed.setIfInBounds j true).getD k true = false → ¬ TR ops k i → oi.apart ops ok = true ∧ ∀ w', W k w' → V w' := fun k ok hk hki hun hno => by
        refine hfree k ok hk hki ?_ hno
        by_cases hjk : j = k
        · subst hjk; exact hjun
        · rw [getD_set_ne true hjk] at hun; exact hun
      refine wpOp_mono (fun a' w' h3 => ?_) h2
      have hV' := (hfree j oj hoj hji hjun hnot).2 w' h3.2.1
      refine ⟨h3.2.1, ih (listed.setIfInBounds j true) a' w' hV' (hcl.set hj) hfree' (ready_mono hr (Ne.symm hji)) (hy.lk h3.1) (hVW w' hV') ?_ hVW⟩
      rw [Array.setIfInBounds_comm _ _ hji]
      exact h3.2.2
end

/-! ### in use -/
def lb (n m : Nat) : Array Bool := ((List.range n).map fun i => Nat.testBit m i).toArray
/-- The ways out by a panic do not look at the slots. -/
def PanOk (d : Nat) (Q : Exit → Act → World → Prop) : Prop := ∀ c (a : Act) v w, Q (.panic c) (a.put (some d) v) w → Q (.panic c) a w
section
variable {P : Program} {ol : List Oper} {N : Act → World → Prop} {Q : Exit → Act → World → Prop} {n : Nat} {L : Env} {σ : Nat → Value} {ds : List Deferred} {w : World} {W : Nat → World → Prop} {V : World → Prop}
theorem q_then {c : List PanicEntry} {a : Act} (h : Q (.panic c) a w) : Exit.then N Q (.panic c) a w := h
theorem po_body {d : Nat} {fn : Func} {R : Ending → World → Prop} : PanOk d (bodyPost P fn R) := fun c a v w h => by simpa [bodyPost, Act.put] using h
def rFree (d : Nat) (rs : List ResultVar) : Bool := rs.all fun r => match r with | .tmp t => !(Nat.beq t d) | .cell a _ => !(Nat.beq a d)
theorem mapM_cong {α β : Type} {f g : α → Sem β} : ∀ l : List α, (∀ x ∈ l, f x = g x) → l.mapM f = l.mapM g
  | [], _ => rfl
  | a :: r, h => by rw [List.mapM_cons, List.mapM_cons, h a List.mem_cons_self, mapM_cong r fun x hx => h x (List.mem_cons_of_mem _ hx)]
theorem getD_set {t : Array Value} {d j : Nat} {v u : Value} (h : Nat.beq j d = false) : (t.setIfInBounds d v).getD j u = t.getD j u := by
  have : d ≠ j := fun e => by subst e; simp [Nat.beq_refl] at h
  simp [Array.getD_eq_getD_getElem?, this]
theorem results_put {fn : Func} {rs : List ResultVar} {d : Nat} {t : Array Value} {v : Value} (hr : fn.results = rs.toArray) (h : rFree d rs = true) : results fn (t.setIfInBounds d v) = results fn t := by
  rw [results_eq, results_eq, hr]
  simp only [List.mapM_toArray]
  rw [mapM_cong (g := rv t)]
  intro x hx
  have := List.all_eq_true.1 h x hx
  cases x <;> simp only [Bool.not_eq_true'] at this <;> simp only [rv, getD_set this]
theorem leaves_eq {P' : Program} {fn : Func} {t t' : Array Value} {R : Ending → World → Prop} (h : results fn t = results fn t') : ∀ ds, Leaves P' fn t R ds = Leaves P' fn t' R ds
  | [] => by funext u w; cases u <;> simp [Leaves, h]
  | d :: ds => by funext u w; simp only [Leaves, leaves_eq h ds]
theorem po_bodyD {d : Nat} {fn : Func} {rs : List ResultVar} {R : Ending → World → Prop} (hr : fn.results = rs.toArray) (h : rFree d rs = true) : PanOk d (bodyPostD P fn R) := fun c a v w hq => by
  have e := leaves_eq (P' := P) (R := R) (results_put (t := a.tmps) (v := v) hr h)
  simp only [bodyPostD, Act.put] at hq ⊢
  rw [← e]
  exact hq
theorem po_x {d id : Nat} (h : PanOk d Q) : PanOk d (Qx id N Q) := fun c a v w hq => h c a v w hq
theorem po_then {d : Nat} (h : PanOk d Q) : PanOk d (Exit.then N Q) := fun c a v w hq => h c a v w hq
theorem k_any {M I : Nat → Prop} {w0 wr : World} {R : List Rsc} {id : Nat} (W : Nat → World → Prop) (hm : P.follows .mixedOrders = true) (h : Hp M I w0 wr w R) (len : Nat) (hl : ol.length = len)
    (k : ∀ w', Hp M I w0 wr w' R → wpW W P ol.toArray (Exit.then N Q) len (lb len 0) (st n L σ ds) w') : wk P (.region id ol.toArray true) N Q (st n L σ ds) w := by
  subst hl
  refine wp_region_any hm ?_
  have : Array.replicate ol.toArray.size false = lb ol.length 0 := by
    apply Array.ext
    · simp [lb]
    · intro i h1 h2; simp [lb]
  rw [this]
  have h2 := wpW_any _ _ _ _ (k { w with drawn := w.drawn + 1 } (h.drawn _))
  rw [show ol.toArray.size = ol.length by simp]
  exact h2
def opAt : List Oper → Nat → Option Oper
  | [], _ => none
  | o :: _, 0 => some o
  | _ :: r, j + 1 => opAt r j
theorem opAt_eq : ∀ (l : List Oper) (j : Nat), l[j]? = opAt l j
  | [], j => by simp [opAt]
  | o :: r, 0 => rfl
  | o :: r, j + 1 => by simp only [List.getElem?_cons_succ, opAt]; exact opAt_eq r j
def closedB (ol : List Oper) (m : Nat) : Nat → List Oper → Bool
  | _, [] => true
  | i, o :: r => (!Nat.testBit m i || o.after.all fun e => !Region.binds .any e || Nat.testBit m e.on) && closedB ol m (i + 1) r
/-- Of each operation on which others it hangs, as bits: no more than those are told. -/
def tmUp (o : Oper) (tm : List Nat) : Nat := o.after.toList.foldl (fun m e => bif Region.binds .any e then m ||| ((1 <<< e.on) ||| tm.getD e.on 0) else m) 0
def tmOk (tm : List Nat) : Nat → List Oper → Bool
  | _, [] => true
  | j, o :: r => Nat.beq (tmUp o tm ||| tm.getD j 0) (tmUp o tm) && (o.after.all fun e => !Region.binds .any e || Nat.blt e.on j) && tmOk tm (j + 1) r
/-- Those that may come ahead of i, and do not hang on it, leave what i looks at, and look at nothing of it. -/
def vOk (ol : List Oper) (m i : Nat) (oi : Oper) (mi : List Nat) (ms : List (List Nat)) (tm : List Nat) : Nat → List Oper → Bool
  | _, [] => true
  | j, o :: r => (Nat.beq j i || Nat.testBit m j || Nat.testBit (tm.getD j 0) i || (mi.all (ms.getD j []).contains && oi.apart ol.toArray o)) && vOk ol m i oi mi ms tm (j + 1) r
theorem closedB_get {m : Nat} : ∀ {l : List Oper} {k i : Nat} {o : Oper}, closedB ol m k l = true → l[i]? = some o → Nat.testBit m (k + i) = true → ∀ e ∈ o.after, Region.binds .any e = true → Nat.testBit m e.on = true := by
  intro l
  induction l with
  | nil => intro k i o _ hi; simp at hi
  | cons p r ih =>
    intro k i o h hi ht e he hb
    simp only [closedB, Bool.and_eq_true, Bool.or_eq_true] at h
    cases i with
    | zero =>
      simp at hi; subst hi
      rcases h.1 with h1 | h1
      · rw [Nat.add_zero] at ht; rw [ht] at h1; cases h1
      · have := Array.all_eq_true_iff_forall_mem.1 h1 e he
        rw [hb] at this; simpa using this
    | succ i => simp at hi; exact ih h.2 hi (by rw [show k + 1 + i = k + (i + 1) by omega]; exact ht) e he hb
theorem tmOk_get {tm : List Nat} : ∀ {l : List Oper} {k j : Nat} {o : Oper}, tmOk tm k l = true → l[j]? = some o → (tmUp o tm ||| tm.getD (k + j) 0) = tmUp o tm ∧ ∀ e ∈ o.after, Region.binds .any e = true → e.on < k + j := by
  intro l
  induction l with
  | nil => intro k j o _ hi; simp at hi
  | cons p r ih =>
    intro k j o h hi
    simp only [tmOk, Bool.and_eq_true] at h
    cases j with
    | zero =>
      simp at hi; subst hi
      refine ⟨Nat.eq_of_beq_eq_true h.1.1, fun e he hb => ?_⟩
      have := Array.all_eq_true_iff_forall_mem.1 h.1.2 e he
      rw [hb] at this; simpa [Nat.blt_eq] using this
    | succ j => simp at hi; have := ih h.2 hi; rw [show k + 1 + j = k + (j + 1) by omega] at this; exact this
theorem tm_reach {tm : List Nat} (h : tmOk tm 0 ol = true) {i : Nat} : ∀ j, j < ol.length → Nat.testBit (tm.getD j 0) i = true → TR ol.toArray j i := by
  intro j
  induction j using Nat.strongRecOn with
  | ind j ih =>
    intro hj ht
    obtain ⟨h1, h2⟩ := tmOk_get h (List.getElem?_eq_getElem hj)
    rw [Nat.zero_add] at h1 h2
    have ho : ol.toArray[j]? = some ol[j] := by simp [hj]
    have h3 : Nat.testBit (tmUp ol[j] tm) i = true := by rw [← h1, Nat.testBit_or, ht, Bool.or_true]
    have key : ∀ (es : List Edge) (m : Nat), (∀ e ∈ es, e ∈ ol[j].after) → Nat.testBit (es.foldl (fun m e => bif Region.binds .any e then m ||| ((1 <<< e.on) ||| tm.getD e.on 0) else m) m) i = true → Nat.testBit m i = true ∨ TR ol.toArray j i := by
      intro es
      induction es with
      | nil => intro m _ h; exact .inl h
      | cons e r ihe =>
        intro m hsub h
        rw [List.foldl_cons] at h
        rcases ihe _ (fun e he => hsub e (by simp [he])) h with h4 | h4
        · cases hb : Region.binds .any e with
          | false => rw [hb] at h4; exact .inl h4
          | true =>
            rw [hb] at h4
            simp only [cond_true, Nat.testBit_or, Bool.or_eq_true] at h4
            have he := hsub e (by simp)
            rcases h4 with h4 | h4 | h4
            · exact .inl h4
            · rw [Nat.one_shiftLeft, Nat.testBit_two_pow] at h4
              have : e.on = i := by simpa using h4
              rw [← this]; exact .inr (.one ho he hb)
            · have hlt := h2 e he hb
              exact .inr (.step ho he hb (ih e.on hlt (by omega) h4))
        · exact .inr h4
    rcases key _ 0 (fun e he => by simpa using he) h3 with h4 | h4
    · simp at h4
    · exact h4
theorem vOk_get {m i : Nat} {oi : Oper} {mi : List Nat} {ms : List (List Nat)} {tm : List Nat} : ∀ {l : List Oper} {k j : Nat} {o : Oper}, vOk ol m i oi mi ms tm k l = true → l[j]? = some o →
    (Nat.beq (k + j) i || Nat.testBit m (k + j) || Nat.testBit (tm.getD (k + j) 0) i || (mi.all (ms.getD (k + j) []).contains && oi.apart ol.toArray o)) = true := by
  intro l
  induction l with
  | nil => intro k j o _ hi; simp at hi
  | cons p r ih =>
    intro k j o h hi
    simp only [vOk, Bool.and_eq_true] at h
    cases j with
    | zero => simp at hi; subst hi; exact h.1
    | succ j => simp at hi; have := ih h.2 hi; rw [show k + 1 + j = k + (j + 1) by omega] at this; exact this
abbrev WF (I : Nat → Prop) (wr : World) (S : List Rsc) (ms : List (List Nat)) (tm : List Nat) (j : Nat) (w : World) : Prop := Wp I wr S (ms.getD j []) w
theorem w_take {I : Nat → Prop} {wr : World} {S : List Rsc} {ms : List (List Nat)} {tm : List Nat} {d : Nat} {op : Op} {ty : TypeId} {pos : String} {af : Array Edge} {gd : Option (Nat × Bool)} {v : Value} {f len m m' : Nat} (i : Nat) (hi : opAt ol i = some ⟨some d, op, ty, pos, af, gd⟩) (hn : Nat.blt d n = true) (hs : Region.noSelect ol.toArray = true)
    (hcb : closedB ol m 0 ol = true) (hr : (Region.ready .any ol.toArray (lb len m)).contains i = true) (hm : (lb len m).setIfInBounds i true = lb len m') (hlen : ol.length = len) (hT : tmOk tm 0 ol = true) (hv : vOk ol m i ⟨some d, op, ty, pos, af, gd⟩ (ms.getD i []) ms tm 0 ol = true)
    (hQ : PanOk d Q) (hW : Wp I wr S (ms.getD i []) w) (hy : YW (Wp I wr S (ms.getD i [])) P ol.toArray ⟨some d, op, ty, pos, af, gd⟩ v (st n L σ ds))
    (k : wpW (WF I wr S ms tm) P ol.toArray Q f (lb len m') (st n ((d, v) :: L) σ ds) w) : wpW (WF I wr S ms tm) P ol.toArray Q (f + 1) (lb len m) (st n L σ ds) w := by
  subst hlen
  have hi' : ol.toArray[i]? = some ⟨some d, op, ty, pos, af, gd⟩ := by simpa [opAt_eq] using hi
  have hlb : ∀ i, i < ol.length → ∀ b, (lb ol.length m).getD i b = Nat.testBit m i := fun i h b => by simp [lb, h]
  have hcl : Cl ol.toArray (lb ol.length m) := by
    intro k o ho hl e he hb
    have ho' : ol[k]? = some o := by simpa using ho
    have hk := (List.getElem?_eq_some_iff.1 ho').1
    rw [hlb k hk] at hl
    have h1 := closedB_get hcb ho' (by rw [Nat.zero_add]; exact hl) e he hb
    have h2 := (tmOk_get hT ho').2 e he hb
    rw [hlb _ (by omega)]; exact h1
  refine wpW_first (V := Wp I wr S (ms.getD i [])) hi' (Region.noSelect_spec hs) (fun c a w h => hQ c a v w h) f (lb ol.length m) _ w hW hcl (fun j oj hj hji hun hno => ?_) (by simpa using hr) hy hW ?_ (fun _ h => h)
  · have hol : ol[j]? = some oj := by simpa using hj
    have h1 := vOk_get (ol := ol) hv hol
    rw [Nat.zero_add] at h1
    have hjl := (List.getElem?_eq_some_iff.1 hol).1
    have h2 : Nat.testBit m j = false := by rw [hlb j hjl] at hun; exact hun
    have h3 : Nat.beq j i = false := by
      cases hb : Nat.beq j i
      · rfl
      · exact absurd (Nat.eq_of_beq_eq_true hb) hji
    have h4 : Nat.testBit (tm.getD j 0) i = false := by
      cases ho : Nat.testBit (tm.getD j 0) i
      · rfl
      · exact absurd (tm_reach hT j hjl ho) hno
    rw [h2, h3, h4] at h1
    simp only [Bool.false_or, Bool.and_eq_true] at h1
    exact ⟨h1.2, fun w' hw' => hw'.sub h1.1⟩
  · rw [hm]
    show wpW (WF I wr S ms tm) P ol.toArray Q f (lb ol.length m') ((st n L σ ds).put (some d) v) w
    rw [put_st hn]
    exact k
theorem w_one {o : Oper} {f len m m' : Nat} (i : Nat) (hi : opAt ol i = some o) (hr : Region.ready .any ol.toArray (lb len m) = [i]) (hm : (lb len m).setIfInBounds i true = lb len m')
    (k : wpList P ol.toArray (Exit.then (fun a' w' => W i w' ∧ wpW W P ol.toArray Q f (lb len m') a' w') Q) [o] (st n L σ ds) w) : wpW W P ol.toArray Q (f + 1) (lb len m) (st n L σ ds) w := by
  have hi' : ol.toArray[i]? = some o := by simpa [opAt_eq] using hi
  refine ⟨fun h => (by rw [hr] at h; cases h), fun j hj => ?_⟩
  rw [hr] at hj
  obtain rfl : j = i := by simpa using hj
  refine wpOp_of_list hi' ?_
  rw [hm]
  exact k
theorem w_done {f len m : Nat} {a : Act} (hr : Region.ready .any ol.toArray (lb len m) = []) (k : N a w) : wpW W P ol.toArray (Exit.then N Q) f (lb len m) a w := by
  cases f with
  | zero => exact ⟨hr, k⟩
  | succ f => exact ⟨fun _ => k, by rw [hr]; simp⟩
theorem y_val {d : Nat} {op : Op} {ty : TypeId} {pos : String} {af : Array Edge} {v : Value} (h : ∀ w, V w → (execOp (st n L σ ds).eval ⟨some d, op, ty, pos, af, none⟩).run P w = .ok (.value v) w) :
    YW V P ol.toArray ⟨some d, op, ty, pos, af, none⟩ v (st n L σ ds) := .inl ⟨rfl, h⟩
theorem wanted_g {d : Option Nat} {op : Op} {ty : TypeId} {pos : String} {af : Array Edge} {j dj : Nat} {want b : Bool} (hj : dstAt ol j = some dj) (hn : Nat.blt dj n = true) (hv : ov L σ dj = .bool b) :
    Region.wanted ⟨d, op, ty, pos, af, some (j, want)⟩ (yielded ol.toArray (st n L σ ds).tmps) = (b == want) := by
  have hj' : (ol[j]?).bind (·.dst) = some dj := by rw [dstAt_eq]; exact hj
  simp [Region.wanted, yielded, hj', fr_get (blt hn), hv]
theorem y_on {d : Nat} {op : Op} {ty : TypeId} {pos : String} {af : Array Edge} {j dj : Nat} {want : Bool} {v : Value} (hj : dstAt ol j = some dj) (hn : Nat.blt dj n = true) (hv : ov L σ dj = .bool want)
    (h : ∀ w, V w → (execOp (st n L σ ds).eval ⟨some d, op, ty, pos, af, some (j, want)⟩).run P w = .ok (.value v) w) : YW V P ol.toArray ⟨some d, op, ty, pos, af, some (j, want)⟩ v (st n L σ ds) :=
  .inl ⟨by rw [wanted_g hj hn hv]; simp, h⟩
theorem y_off {d : Nat} {op : Op} {ty : TypeId} {pos : String} {af : Array Edge} {j dj : Nat} {want : Bool} (hj : dstAt ol j = some dj) (hn : Nat.blt dj n = true) (hv : ov L σ dj = .bool (!want)) : YW V P ol.toArray ⟨some d, op, ty, pos, af, some (j, want)⟩ undef (st n L σ ds) :=
  .inr ⟨by rw [wanted_g hj hn hv]; cases want <;> rfl, rfl⟩
end
end Go.Proofs.Ytcnchjlomcafeaa.B
