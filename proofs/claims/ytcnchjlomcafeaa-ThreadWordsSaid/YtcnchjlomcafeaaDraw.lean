/- Regions that draw their order: what is in memory hangs on which operations have been listed, what they yield does not. -/
import Derived.Test.YtcnchjlomcafeaaPure
import Derived.Orders
import Derived.Laws.StructEq
set_option linter.unusedVariables false
set_option linter.unusedSimpArgs false
set_option linter.unusedSectionVars false
namespace Go.Proofs.Ytcnchjlomcafeaa.B
open Go Go.RowKit

/-- What is known of a drawn operation's value: its slot, and the fact. -/
structure DF where
  slot : Option Nat
  fact : Value → World → Prop
/-- Worlds that follow one another within the region. -/
structure Grow (G : World → World → Prop) : Prop where
  refl : ∀ w, G w w
  trans : ∀ {w w' w''}, G w w' → G w' w'' → G w w''
def dval (σ : Nat → Value) : Option Nat → Value
  | some d => σ d
  | none => undef
def DF.at_ (G : World → World → Prop) (f : DF) (σ : Nat → Value) (w : World) : Prop := ∃ w', G w' w ∧ f.fact (dval σ f.slot) w'
def dnth : List DF → Nat → DF
  | [], _ => ⟨none, fun _ _ => True⟩
  | f :: _, 0 => f
  | _ :: r, i + 1 => dnth r i
def Fcs (G : World → World → Prop) (Φ : List DF) (σ : Nat → Value) (w : World) : List Nat → Prop
  | [] => True
  | j :: r => (dnth Φ j).at_ G σ w ∧ Fcs G Φ σ w r
def onDraw (o : Oper) (j : Nat) : Bool := o.after.any fun e => Region.binds .any e && Nat.beq e.on j
def predsOk (o : Oper) (pr : List Nat) : Bool := pr.all (onDraw o)
def opOn : List Oper → Nat → Nat → Bool
  | [], _, _ => false
  | o :: _, 0, i => onDraw o i
  | _ :: r, j + 1, i => opOn r j i
def succsOk (ol : List Oper) (i : Nat) (np : List Nat) : Bool := np.all fun j => opOn ol j i
def Fls (fl : Nat → Bool) (b : Bool) : List Nat → Prop
  | [] => True
  | j :: r => fl j = b ∧ Fls fl b r
def upd (fl : Nat → Bool) (i j : Nat) : Bool := bif Nat.beq i j then true else fl j
def pd (d : Option Nat) (v : Value) (L : Env) : Env := match d with | some d => (d, v) :: L | none => L
def dv (d : Option Nat) (v : Value) : Value := match d with | some _ => v | none => undef
def slotB (n : Nat) : Option Nat → Bool
  | some d => Nat.blt d n
  | none => true

inductive DSteps (P : Program) (ol : List Oper) (n : Nat) (L : Env) (ds : List Deferred) (J : (Nat → Bool) → World → Prop) (G : World → World → Prop) (Q : Exit → Act → World → Prop) (Φ : List DF) : Nat → List Oper → Prop
  | nil {i : Nat} : DSteps P ol n L ds J G Q Φ i []
  | cons {i : Nat} {o : Oper} {r : List Oper} (pr np : List Nat) (hs : (dnth Φ i).slot = o.dst) (hn : slotB n o.dst = true) (hp : predsOk o pr = true) (hq : succsOk ol i np = true)
      (h : ∀ σ fl w, J fl w → fl i = false → Fls fl true pr → Fls fl false np → Fcs G Φ σ w pr → wpList P ol.toArray (Exit.then (fun a w' => ∃ v, a = st n (pd o.dst v L) σ ds ∧ J (upd fl i) w' ∧ G w w' ∧ (dnth Φ i).fact (dv o.dst v) w') Q) [o] (st n L σ ds) w)
      (k : DSteps P ol n L ds J G Q Φ (i + 1) r) : DSteps P ol n L ds J G Q Φ i (o :: r)

section
variable {P : Program} {Q Q' : Exit → Act → World → Prop}
theorem wp_exits {o : Oper} {a : Act} {w : World} {K : Act → World → Prop} (hh : o.wp P a w K (Exit.then K Q)) : o.wp P a w K Q := by
  unfold Oper.wp at *
  generalize (execOp a.eval o).run P w = r at *
  cases r with
  | ok n w' =>
    cases n <;> simp only [Oper.upon] at hh ⊢ <;>
      first
        | exact hh
        | exact Calls.mono hh (fun e w'' he => by cases e <;> first | exact he | (obtain ⟨c, h1, h2⟩ := he; exact ⟨c, h1, h2⟩))
        | exact Rows.mono hh (fun _ _ he => he)
        | exact False.elim hh
  | halt x w' => cases x <;> simp only [Oper.upon] at hh ⊢ <;> first | exact hh | exact False.elim hh
theorem wpOp_of_list {ops : Array Oper} {o : Oper} {i : Nat} {a : Act} {w : World} {K : Act → World → Prop} (hi : ops[i]? = some o)
    (h : wpList P ops (Exit.then K Q) [o] a w) : wpOp P ops Q i K a w := by
  unfold wpOp
  simp only [hi]
  unfold wpList at h
  split
  · rename_i hw
    rw [if_pos hw] at h
    rcases h with h | ⟨h1, a', w', h⟩
    · exact .inl (wp_exits h)
    · exact .inr ⟨h1, a', w', h⟩
  · rename_i hw
    rw [if_neg hw] at h
    exact h
end

def keysNot (d : Nat) : Env → Bool
  | [] => true
  | p :: r => !(Nat.beq p.1 d) && keysNot d r
def keysNotO : Option Nat → Env → Bool
  | some d, L => keysNot d L
  | none, _ => true
theorem keysNot_ov {d : Nat} {v : Value} {L : Env} (h : keysNot d L = true) (σ : Nat → Value) : ov ((d, v) :: L) σ = ov L (fun t => bif Nat.beq d t then v else σ t) := by
  funext t
  simp only [ov]
  cases hb : Nat.beq d t with
  | false =>
    simp only [cond_false]
    induction L with
    | nil => simp [ov, hb]
    | cons p r ih =>
      simp only [keysNot, Bool.and_eq_true] at h
      simp only [ov, ih h.2]
  | true =>
    have := Nat.eq_of_beq_eq_true hb; subst this
    simp only [cond_true]
    induction L with
    | nil => simp [ov]
    | cons p r ih =>
      simp only [keysNot, Bool.and_eq_true, Bool.not_eq_true'] at h
      simp only [ov, h.1, cond_false]
      exact ih h.2
/-- Each edge that binds leads back; each operation from m on hangs on all ahead of it. -/
def backOk (ol : List Oper) : Nat → List Oper → Bool
  | _, [] => true
  | i, o :: r => (o.after.all fun e => !Region.binds .any e || Nat.blt e.on i) && backOk ol (i + 1) r
theorem backOk_get {ol l : List Oper} {k i : Nat} {o : Oper} (h : backOk ol k l = true) (hi : l[i]? = some o) : ∀ e ∈ o.after, Region.binds .any e = true → e.on < k + i := by
  induction l generalizing k i with
  | nil => simp at hi
  | cons p r ih =>
    simp only [backOk, Bool.and_eq_true] at h
    cases i with
    | zero =>
      simp at hi; subst hi
      intro e he hb
      have := Array.all_eq_true_iff_forall_mem.1 h.1 e he
      rw [hb] at this
      simpa [Nat.blt_eq] using this
    | succ i =>
      simp at hi
      intro e he hb
      have := ih h.2 hi e he hb
      omega
theorem onDraw_listed {o : Oper} {j : Nat} {listed : Array Bool} (h : onDraw o j = true) (hl : ∀ e ∈ o.after, Region.binds .any e = true → listed.getD e.on false = true) : listed.getD j false = true := by
  obtain ⟨e, he, hb⟩ := Array.any_eq_true'.1 h
  simp only [Bool.and_eq_true] at hb
  rw [← Nat.eq_of_beq_eq_true hb.2]
  exact hl e he hb.1

theorem opOn_get {ol : List Oper} {j i : Nat} {o : Oper} (h : opOn ol j i = true) (ho : ol[j]? = some o) : onDraw o i = true := by
  induction ol generalizing j with
  | nil => simp at ho
  | cons p r ih => cases j with
    | zero => simp at ho; subst ho; exact h
    | succ j => simp at ho; exact ih h ho
theorem opOn_lt {ol : List Oper} {j i : Nat} (h : opOn ol j i = true) : ∃ o, ol[j]? = some o := by
  induction ol generalizing j with
  | nil => simp [opOn] at h
  | cons p r ih => cases j with
    | zero => exact ⟨p, rfl⟩
    | succ j => obtain ⟨o, ho⟩ := ih h; exact ⟨o, by simpa using ho⟩

section
variable {P : Program} {ol : List Oper} {n : Nat} {L : Env} {ds : List Deferred} {J : (Nat → Bool) → World → Prop} {G : World → World → Prop} {Φ : List DF} {m : Nat} {N : Act → World → Prop} {Q : Exit → Act → World → Prop}

theorem DSteps.get : ∀ {l : List Oper} {k i : Nat} {o : Oper}, DSteps P ol n L ds J G Q Φ k l → l[i]? = some o → ∃ pr np, (dnth Φ (k + i)).slot = o.dst ∧ slotB n o.dst = true ∧ predsOk o pr = true ∧ succsOk ol (k + i) np = true ∧
      ∀ σ fl w, J fl w → fl (k + i) = false → Fls fl true pr → Fls fl false np → Fcs G Φ σ w pr → wpList P ol.toArray (Exit.then (fun a w' => ∃ v, a = st n (pd o.dst v L) σ ds ∧ J (upd fl (k + i)) w' ∧ G w w' ∧ (dnth Φ (k + i)).fact (dv o.dst v) w') Q) [o] (st n L σ ds) w := by
  intro l
  induction l with
  | nil => intro k i o _ hi; simp at hi
  | cons p r ih =>
    intro k i o h hi
    cases h with
    | cons pr np hs hn hp hq h hk =>
      cases i with
      | zero => simp at hi; subst hi; exact ⟨pr, np, hs, hn, hp, hq, h⟩
      | succ i =>
        simp at hi
        have := ih hk hi
        rw [show k + 1 + i = k + (i + 1) by omega] at this
        exact this

/-- What holds at any time within the region: of those that are listed, whoever comes later hangs on nothing of it. -/
structure DJ (ol : List Oper) (n : Nat) (L : Env) (ds : List Deferred) (J : (Nat → Bool) → World → Prop) (G : World → World → Prop) (Φ : List DF) (listed : Array Bool) (a : Act) (w : World) : Prop where
  ex : ∃ σ, a = st n L σ ds ∧ J (fun j => listed.getD j false) w ∧ ∀ i, i < Φ.length → listed.getD i false = true → (dnth Φ i).at_ G σ w
  closed : ∀ i o, ol[i]? = some o → listed.getD i false = true → ∀ e ∈ o.after, Region.binds .any e = true → listed.getD e.on false = true

theorem Fls_of {fl : Nat → Bool} {b : Bool} : ∀ (pr : List Nat), (∀ j ∈ pr, fl j = b) → Fls fl b pr
  | [], _ => trivial
  | j :: r, h => ⟨h j (by simp), Fls_of r fun j hj => h j (by simp [hj])⟩
end
/-! ### '==' of structs of plain fields -/
def Qf (P : Program) (xs ys : Array Value) (fs : List Field) (r : Bool) : Prop := ∀ d w, (Op.eqFields (d + 1) xs ys fs).run P w = .ok r w
section
variable {P : Program} {xs ys : Array Value} {f : Field} {fs : List Field} {a b : Value} {r s : Bool} {w : World}
theorem q_nil : Qf P xs ys [] true := fun d w => by simp [Op.eqFields]
theorem part_one {t : TypeId} {u : TypeDesc} {i : Nat} {cs : Array Value} {v : Value} (hu : P.underlying t = some u) (h : cs[i]? = some v) (hs : (∀ fs, u ≠ .struct fs) ∧ (∀ n e, u ≠ .array n e)) :
    (part t cs i).run P w = .ok v w := by
  have ha : (isAgg t).run P w = .ok false w := by
    cases u <;> first | (simp [isAgg, run_underlying hu]; done) | exact absurd rfl (hs.1 _) | exact absurd rfl (hs.2 _ _)
  unfold part
  rw [Sem.run_bind, ha, Result.andThen_ok]
  simp [h]
def QE (P : Program) (t : TypeId) (a b : Value) (r : Bool) : Prop := (∃ u, P.underlying t = some u ∧ (∀ fs, u ≠ .struct fs) ∧ (∀ n e, u ≠ .array n e)) ∧ ∀ d w, (Op.equalIn (d + 1) t a b).run P w = .ok r w
theorem q_int {t : TypeId} {k k' : IntKind} {a b : Int} (h : P.underlying t = some (.int k')) : QE P t (.int k a) (.int k b) (a == b) := ⟨⟨_, h, (by intro _ h; cases h), (by intro _ _ h; cases h)⟩, fun d w => run_equalIn_int w d t k k' a b h⟩
theorem q_cons (hn : (f.name == "_") = false) (ha : xs[f.offset]? = some a) (hb : ys[f.offset]? = some b) (he : QE P f.type a b r) (hr : Qf P xs ys fs s) : Qf P xs ys (f :: fs) (r && s) := fun d w => by
  obtain ⟨⟨u, hu, hs⟩, hq⟩ := he
  have hn' : f.name ≠ "_" := by simpa using hn
  rw [Op.eqFields]
  simp only [if_pos hn', Sem.run_bind, part_one hu ha hs, part_one hu hb hs, hq, Result.andThen_ok]
  cases r
  · simp
  · simpa using hr d w
theorem r_nes {xt : TypeId} {fs : List Field} {x y : Operand} (hu : P.underlying xt = some (.struct fs.toArray)) (hp : P.stoodInHeld xt = false) (hm : P.eqGuardType P.depth xt = false) (h : Qf P xs ys fs r) :
    (do eqGuard .neq xt x y (.agg xs) (.agg ys); binOp .neq xt (.agg xs) (.agg ys) : Sem Value).run P w = .ok (.bool (!r)) w := by
  rw [Sem.run_bind, run_eqGuard_agg w _ _ _ _ _ _ hm, Result.andThen_ok, run_neq_struct]
  have hf : P.fieldsOf xt = fs.toArray := by simp [Program.fieldsOf, hu]
  rw [run_equalIn_struct (P := P) w 9999 xt xs ys (by rw [hf]; exact hu) hp, hf]
  rw [show fs.toArray.toList = fs by simp, h 9998 w, Result.andThen_ok]
end
theorem pk_same (b : Bool) (v : Value) : (bif b then v else v) = v := by cases b <;> rfl
theorem pk_no {b : Bool} {p : Prop} (h : b = false) (h' : b = true) : p := by rw [h] at h'; cases h'
theorem nf {a : Bool} (h : a = true) : (!a) = false := by subst h; rfl
end Go.Proofs.Ytcnchjlomcafeaa.B
