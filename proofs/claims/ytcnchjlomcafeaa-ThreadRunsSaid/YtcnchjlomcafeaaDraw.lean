/- Regions that draw their order: what is in memory hangs on which operations have been listed, what they yield does not. -/
import Derived.Test.YtcnchjlomcafeaaPure
import Derived.Orders
import Derived.Laws.StructEq
set_option linter.unusedVariables false
set_option linter.unusedSimpArgs false
set_option linter.unusedSectionVars false
namespace Go.Proofs.Ytcnchjlomcafeaa.B
open Go Go.RowKit

/-- What is known of a drawn operation's value: its slot, and the fact. -/
structure DF where
  slot : Option Nat
  fact : Value → World → Prop
/-- Worlds that follow one another within the region. -/
structure Grow (G : World → World → Prop) : Prop where
  refl : ∀ w, G w w
  trans : ∀ {w w' w''}, G w w' → G w' w'' → G w w''
def dval (σ : Nat → Value) : Option Nat → Value
  | some d => σ d
  | none => undef
def DF.at_ (G : World → World → Prop) (f : DF) (σ : Nat → Value) (w : World) : Prop := ∃ w', G w' w ∧ f.fact (dval σ f.slot) w'
def dnth : List DF → Nat → DF
  | [], _ => ⟨none, fun _ _ => True⟩
  | f :: _, 0 => f
  | _ :: r, i + 1 => dnth r i
def Fcs (G : World → World → Prop) (Φ : List DF) (σ : Nat → Value) (w : World) : List Nat → Prop
  | [] => True
  | j :: r => (dnth Φ j).at_ G σ w ∧ Fcs G Φ σ w r
def FcAll (G : World → World → Prop) (σ : Nat → Value) (w : World) : List DF → Prop
  | [] => True
  | f :: r => f.at_ G σ w ∧ FcAll G σ w r
def onDraw (o : Oper) (j : Nat) : Bool := o.after.any fun e => Region.binds .any e && Nat.beq e.on j
def predsOk (o : Oper) (pr : List Nat) : Bool := pr.all (onDraw o)
def opOn : List Oper → Nat → Nat → Bool
  | [], _, _ => false
  | o :: _, 0, i => onDraw o i
  | _ :: r, j + 1, i => opOn r j i
def succsOk (ol : List Oper) (i : Nat) (np : List Nat) : Bool := np.all fun j => opOn ol j i
def Fls (fl : Nat → Bool) (b : Bool) : List Nat → Prop
  | [] => True
  | j :: r => fl j = b ∧ Fls fl b r
def upd (fl : Nat → Bool) (i j : Nat) : Bool := bif Nat.beq i j then true else fl j
def pd (d : Option Nat) (v : Value) (L : Env) : Env := match d with | some d => (d, v) :: L | none => L
def dv (d : Option Nat) (v : Value) : Value := match d with | some _ => v | none => undef
def slotB (n : Nat) : Option Nat → Bool
  | some d => Nat.blt d n
  | none => true

inductive DSteps (P : Program) (ol : List Oper) (n : Nat) (L : Env) (ds : List Deferred) (J : (Nat → Bool) → World → Prop) (G : World → World → Prop) (Q : Exit → Act → World → Prop) (Φ : List DF) : Nat → List Oper → Prop
  | nil {i : Nat} : DSteps P ol n L ds J G Q Φ i []
  | cons {i : Nat} {o : Oper} {r : List Oper} (pr np : List Nat) (hs : (dnth Φ i).slot = o.dst) (hn : slotB n o.dst = true) (hp : predsOk o pr = true) (hq : succsOk ol i np = true)
      (h : ∀ σ fl w, J fl w → fl i = false → Fls fl true pr → Fls fl false np → Fcs G Φ σ w pr → wpList P ol.toArray (Exit.then (fun a w' => ∃ v, a = st n (pd o.dst v L) σ ds ∧ J (upd fl i) w' ∧ G w w' ∧ (dnth Φ i).fact (dv o.dst v) w') Q) [o] (st n L σ ds) w)
      (k : DSteps P ol n L ds J G Q Φ (i + 1) r) : DSteps P ol n L ds J G Q Φ i (o :: r)

section
variable {P : Program} {Q Q' : Exit → Act → World → Prop}
theorem wp_exits {o : Oper} {a : Act} {w : World} {K : Act → World → Prop} (hh : o.wp P a w K (Exit.then K Q)) : o.wp P a w K Q := by
  unfold Oper.wp at *
  generalize (execOp a.eval o).run P w = r at *
  cases r with
  | ok n w' =>
    cases n <;> simp only [Oper.upon] at hh ⊢ <;>
      first
        | exact hh
        | exact Calls.mono hh (fun e w'' he => by cases e <;> first | exact he | (obtain ⟨c, h1, h2⟩ := he; exact ⟨c, h1, h2⟩))
        | exact Rows.mono hh (fun _ _ he => he)
        | exact False.elim hh
  | halt x w' => cases x <;> simp only [Oper.upon] at hh ⊢ <;> first | exact hh | exact False.elim hh
theorem wpOp_of_list {ops : Array Oper} {o : Oper} {i : Nat} {a : Act} {w : World} {K : Act → World → Prop} (hi : ops[i]? = some o)
    (h : wpList P ops (Exit.then K Q) [o] a w) : wpOp P ops Q i K a w := by
  unfold wpOp
  simp only [hi]
  unfold wpList at h
  split
  · rename_i hw
    rw [if_pos hw] at h
    rcases h with h | ⟨h1, a', w', h⟩
    · exact .inl (wp_exits h)
    · exact .inr ⟨h1, a', w', h⟩
  · rename_i hw
    rw [if_neg hw] at h
    exact h
end

def keysNot (d : Nat) : Env → Bool
  | [] => true
  | p :: r => !(Nat.beq p.1 d) && keysNot d r
def keysNotO : Option Nat → Env → Bool
  | some d, L => keysNot d L
  | none, _ => true
def slotNot (d : Nat) : List DF → Bool
  | [] => true
  | f :: r => (match f.slot with | some d' => !(Nat.beq d' d) | none => true) && slotNot d r
def slotNotO : Option Nat → List DF → Bool
  | some d, r => slotNot d r
  | none, _ => true
def slotsOk (L : Env) : List DF → Bool
  | [] => true
  | f :: r => keysNotO f.slot L && slotNotO f.slot r && slotsOk L r
theorem keysNot_ov {d : Nat} {v : Value} {L : Env} (h : keysNot d L = true) (σ : Nat → Value) : ov ((d, v) :: L) σ = ov L (fun t => bif Nat.beq d t then v else σ t) := by
  funext t
  simp only [ov]
  cases hb : Nat.beq d t with
  | false =>
    simp only [cond_false]
    induction L with
    | nil => simp [ov, hb]
    | cons p r ih =>
      simp only [keysNot, Bool.and_eq_true] at h
      simp only [ov, ih h.2]
  | true =>
    have := Nat.eq_of_beq_eq_true hb; subst this
    simp only [cond_true]
    induction L with
    | nil => simp [ov]
    | cons p r ih =>
      simp only [keysNot, Bool.and_eq_true, Bool.not_eq_true'] at h
      simp only [ov, h.1, cond_false]
      exact ih h.2
theorem dnth_get {Φ : List DF} {i : Nat} {f : DF} (h : Φ[i]? = some f) : dnth Φ i = f := by
  induction Φ generalizing i with
  | nil => simp at h
  | cons g r ih => cases i with
    | zero => simpa [dnth] using h
    | succ i => simp at h; simpa [dnth] using ih h
theorem slotsOk_keys {L : Env} {Φ : List DF} (h : slotsOk L Φ = true) {i d : Nat} {f : DF} (hf : Φ[i]? = some f) (hd : f.slot = some d) : keysNot d L = true := by
  induction Φ generalizing i with
  | nil => simp at hf
  | cons g r ih =>
    simp only [slotsOk, Bool.and_eq_true] at h
    cases i with
    | zero => simp at hf; subst hf; rw [hd] at h; exact h.1.1
    | succ i => simp at hf; exact ih h.2 hf
theorem slotNot_ne {d d' : Nat} {Φ : List DF} (h : slotNot d Φ = true) {i : Nat} {f : DF} (hf : Φ[i]? = some f) (hd : f.slot = some d') : d' ≠ d := by
  induction Φ generalizing i with
  | nil => simp at hf
  | cons g r ih =>
    simp only [slotNot, Bool.and_eq_true] at h
    cases i with
    | zero => simp at hf; subst hf; intro e; rw [hd, e] at h; simp at h
    | succ i => simp at hf; exact ih h.2 hf
theorem slotsOk_ne {L : Env} {Φ : List DF} (h : slotsOk L Φ = true) {i j d d' : Nat} {f g : DF} (hf : Φ[i]? = some f) (hg : Φ[j]? = some g) (hd : f.slot = some d) (hd' : g.slot = some d') (hne : i ≠ j) : d ≠ d' := by
  induction Φ generalizing i j with
  | nil => simp at hf
  | cons q r ih =>
    simp only [slotsOk, Bool.and_eq_true] at h
    cases i with
    | zero => cases j with
      | zero => exact absurd rfl hne
      | succ j =>
        simp at hf hg; subst hf
        rw [hd] at h
        exact fun e => slotNot_ne h.1.2 hg hd' e.symm
    | succ i => cases j with
      | zero =>
        simp at hf hg; subst hg
        rw [hd'] at h
        exact slotNot_ne h.1.2 hf hd
      | succ j => simp at hf hg; exact ih h.2 hf hg (by omega)

/-- Each edge that binds leads back; each operation from m on hangs on all ahead of it. -/
def backOk (ol : List Oper) : Nat → List Oper → Bool
  | _, [] => true
  | i, o :: r => (o.after.all fun e => !Region.binds .any e || Nat.blt e.on i) && backOk ol (i + 1) r
def allOn (o : Oper) : Nat → Bool
  | 0 => true
  | j + 1 => onDraw o j && allOn o j
def tailOk (m : Nat) : Nat → List Oper → Bool
  | _, [] => true
  | i, o :: r => (Nat.blt i m || allOn o i) && tailOk m (i + 1) r
theorem backOk_get {ol l : List Oper} {k i : Nat} {o : Oper} (h : backOk ol k l = true) (hi : l[i]? = some o) : ∀ e ∈ o.after, Region.binds .any e = true → e.on < k + i := by
  induction l generalizing k i with
  | nil => simp at hi
  | cons p r ih =>
    simp only [backOk, Bool.and_eq_true] at h
    cases i with
    | zero =>
      simp at hi; subst hi
      intro e he hb
      have := Array.all_eq_true_iff_forall_mem.1 h.1 e he
      rw [hb] at this
      simpa [Nat.blt_eq] using this
    | succ i =>
      simp at hi
      intro e he hb
      have := ih h.2 hi e he hb
      omega
theorem allOn_get {o : Oper} {k j : Nat} (h : allOn o k = true) (hj : j < k) : onDraw o j = true := by
  induction k with
  | zero => omega
  | succ k ih =>
    simp only [allOn, Bool.and_eq_true] at h
    rcases Nat.lt_succ_iff_lt_or_eq.1 hj with h' | h'
    · exact ih h.2 h'
    · subst h'; exact h.1
theorem tailOk_get {m : Nat} {l : List Oper} {k i : Nat} {o : Oper} (h : tailOk m k l = true) (hi : l[i]? = some o) (hm : m ≤ k + i) : ∀ j, j < k + i → onDraw o j = true := by
  induction l generalizing k i with
  | nil => simp at hi
  | cons p r ih =>
    simp only [tailOk, Bool.and_eq_true, Bool.or_eq_true] at h
    cases i with
    | zero =>
      simp at hi; subst hi
      intro j hj
      rcases h.1 with h1 | h1
      · rw [Nat.blt_eq] at h1; omega
      · exact allOn_get h1 (by simpa using hj)
    | succ i =>
      simp at hi
      intro j hj
      exact ih h.2 hi (by omega) j (by omega)
theorem onDraw_listed {o : Oper} {j : Nat} {listed : Array Bool} (h : onDraw o j = true) (hl : ∀ e ∈ o.after, Region.binds .any e = true → listed.getD e.on false = true) : listed.getD j false = true := by
  obtain ⟨e, he, hb⟩ := Array.any_eq_true'.1 h
  simp only [Bool.and_eq_true] at hb
  rw [← Nat.eq_of_beq_eq_true hb.2]
  exact hl e he hb.1

theorem opOn_get {ol : List Oper} {j i : Nat} {o : Oper} (h : opOn ol j i = true) (ho : ol[j]? = some o) : onDraw o i = true := by
  induction ol generalizing j with
  | nil => simp at ho
  | cons p r ih => cases j with
    | zero => simp at ho; subst ho; exact h
    | succ j => simp at ho; exact ih h ho
theorem opOn_lt {ol : List Oper} {j i : Nat} (h : opOn ol j i = true) : ∃ o, ol[j]? = some o := by
  induction ol generalizing j with
  | nil => simp [opOn] at h
  | cons p r ih => cases j with
    | zero => exact ⟨p, rfl⟩
    | succ j => obtain ⟨o, ho⟩ := ih h; exact ⟨o, by simpa using ho⟩

section
variable {P : Program} {ol : List Oper} {n : Nat} {L : Env} {ds : List Deferred} {J : (Nat → Bool) → World → Prop} {G : World → World → Prop} {Φ : List DF} {m : Nat} {N : Act → World → Prop} {Q : Exit → Act → World → Prop}

theorem DSteps.get : ∀ {l : List Oper} {k i : Nat} {o : Oper}, DSteps P ol n L ds J G Q Φ k l → l[i]? = some o → ∃ pr np, (dnth Φ (k + i)).slot = o.dst ∧ slotB n o.dst = true ∧ predsOk o pr = true ∧ succsOk ol (k + i) np = true ∧
      ∀ σ fl w, J fl w → fl (k + i) = false → Fls fl true pr → Fls fl false np → Fcs G Φ σ w pr → wpList P ol.toArray (Exit.then (fun a w' => ∃ v, a = st n (pd o.dst v L) σ ds ∧ J (upd fl (k + i)) w' ∧ G w w' ∧ (dnth Φ (k + i)).fact (dv o.dst v) w') Q) [o] (st n L σ ds) w := by
  intro l
  induction l with
  | nil => intro k i o _ hi; simp at hi
  | cons p r ih =>
    intro k i o h hi
    cases h with
    | cons pr np hs hn hp hq h hk =>
      cases i with
      | zero => simp at hi; subst hi; exact ⟨pr, np, hs, hn, hp, hq, h⟩
      | succ i =>
        simp at hi
        have := ih hk hi
        rw [show k + 1 + i = k + (i + 1) by omega] at this
        exact this

/-- What holds at any time within the region: of those that are listed, whoever comes later hangs on nothing of it. -/
structure DJ (ol : List Oper) (n : Nat) (L : Env) (ds : List Deferred) (J : (Nat → Bool) → World → Prop) (G : World → World → Prop) (Φ : List DF) (listed : Array Bool) (a : Act) (w : World) : Prop where
  ex : ∃ σ, a = st n L σ ds ∧ J (fun j => listed.getD j false) w ∧ ∀ i, i < Φ.length → listed.getD i false = true → (dnth Φ i).at_ G σ w
  closed : ∀ i o, ol[i]? = some o → listed.getD i false = true → ∀ e ∈ o.after, Region.binds .any e = true → listed.getD e.on false = true

theorem Fcs_of {σ : Nat → Value} {w : World} : ∀ (pr : List Nat), (∀ j ∈ pr, (dnth Φ j).at_ G σ w) → Fcs G Φ σ w pr
  | [], _ => trivial
  | j :: r, h => ⟨h j (by simp), Fcs_of r fun j hj => h j (by simp [hj])⟩
theorem Fls_of {fl : Nat → Bool} {b : Bool} : ∀ (pr : List Nat), (∀ j ∈ pr, fl j = b) → Fls fl b pr
  | [], _ => trivial
  | j :: r, h => ⟨h j (by simp), Fls_of r fun j hj => h j (by simp [hj])⟩
theorem FcAll_of {σ : Nat → Value} {w : World} : ∀ (Φ : List DF), (∀ i, i < Φ.length → (dnth Φ i).at_ G σ w) → FcAll G σ w Φ
  | [], _ => trivial
  | f :: r, h => ⟨h 0 (by simp), FcAll_of r fun i hi => h (i + 1) (by simp; omega)⟩

theorem draw_step (hG : Grow G) (hlen : Φ.length = m) (hsl : slotsOk L Φ = true) (steps : DSteps P ol n L ds J G Q Φ 0 (ol.take m)) {i : Nat} (him : i < m) {listed : Array Bool} (hsz : listed.size = ol.length) (hml : m ≤ ol.length)
    {a : Act} {w : World} (hJ : DJ ol n L ds J G Φ listed a w) (hr : i ∈ Region.ready .any ol.toArray listed) (hback : backOk ol 0 ol = true) :
    wpOp P ol.toArray Q i (DJ ol n L ds J G Φ (listed.setIfInBounds i true)) a w := by
  obtain ⟨⟨σ, rfl, hj, hf⟩, hcl⟩ := hJ
  obtain ⟨hun, o, ho, hall⟩ := mem_ready.1 hr
  have hol : ol[i]? = some o := by simpa using ho
  have hiu : listed.getD i false = false := by
    have : listed.getD i true = listed.getD i false := by
      have h1 : i < listed.size := by omega
      simp [h1]
    rw [← this]; exact hun
  have ho' : (ol.take m)[i]? = some o := by
    rw [List.getElem?_take, if_pos him]
    exact hol
  obtain ⟨pr, np, hs, hn, hp, hq, h⟩ := steps.get ho'
  rw [Nat.zero_add] at hs h hq
  obtain ⟨f, hfi⟩ : ∃ f, Φ[i]? = some f := ⟨_, List.getElem?_eq_getElem (by omega)⟩
  have hfe := dnth_get hfi
  have hprl : ∀ j ∈ pr, listed.getD j false = true := fun j hj => onDraw_listed (List.all_eq_true.1 hp j hj) hall
  have h1 := h σ (fun j => listed.getD j false) w hj hiu (Fls_of pr hprl)
    (Fls_of np fun j hj => by
      have h2 := List.all_eq_true.1 hq j hj
      obtain ⟨oj, hoj⟩ := opOn_lt h2
      have h3 := opOn_get h2 hoj
      cases hl : listed.getD j false with
      | false => rfl
      | true =>
        have := onDraw_listed h3 (hcl j oj hoj hl)
        rw [hiu] at this; cases this)
    (Fcs_of pr fun j hj => by
      have hon := List.all_eq_true.1 hp j hj
      refine hf j ?_ (hprl j hj)
      obtain ⟨e, he, hb2⟩ := Array.any_eq_true'.1 hon
      simp only [Bool.and_eq_true] at hb2
      have := backOk_get hback hol e he hb2.1
      rw [Nat.eq_of_beq_eq_true hb2.2] at this
      omega)
  refine wpOp_mono (fun a' w' hq => ?_) (wpOp_of_list ho h1)
  obtain ⟨v, rfl, hJ', hg, hfact⟩ := hq
  have hupd : (fun j => (listed.setIfInBounds i true).getD j false) = upd (fun j => listed.getD j false) i := by
    funext j
    unfold upd
    cases hb : Nat.beq i j with
    | false =>
      have : i ≠ j := fun e => by rw [e, Nat.beq_refl] at hb; cases hb
      simp only [cond_false]
      exact getD_set_ne false this
    | true =>
      have := Nat.eq_of_beq_eq_true hb; subst this
      simp [hsz, show i < ol.length by omega]
  refine ⟨⟨fun t => match o.dst with | some d => bif Nat.beq d t then v else σ t | none => σ t, ?_, by rw [hupd]; exact hJ', fun j hj hlj => ?_⟩, fun j oj hoj hlj e he hb => ?_⟩
  · cases hd : o.dst with
    | none => rfl
    | some d =>
      have hkeys := slotsOk_keys hsl hfi (d := d) (by rw [← hfe, hs, hd])
      simp only [pd, st, keysNot_ov hkeys]
  · by_cases hji : j = i
    · subst hji
      refine ⟨w', hG.refl w', ?_⟩
      rw [hs]
      cases hd : o.dst with
      | none => rw [hd] at hfact; exact hfact
      | some d => rw [hd] at hfact; simpa [dval, dv] using hfact
    · have hlj' : listed.getD j false = true := by
        rw [getD_set_ne false (Ne.symm hji)] at hlj; exact hlj
      obtain ⟨w2, h2, h4⟩ := hf j hj hlj'
      refine ⟨w2, hG.trans h2 hg, ?_⟩
      obtain ⟨g, hgj⟩ : ∃ g, Φ[j]? = some g := ⟨_, List.getElem?_eq_getElem hj⟩
      rw [dnth_get hgj] at h4 ⊢
      cases hd : o.dst with
      | none => exact h4
      | some d =>
        cases hd' : g.slot with
        | none => rw [hd'] at h4; exact h4
        | some d' =>
          have hne := slotsOk_ne hsl hfi hgj (d := d) (d' := d') (by rw [← hfe, hs, hd]) hd' (Ne.symm hji)
          have : Nat.beq d d' = false := by
            cases hbb : Nat.beq d d'
            · rfl
            · exact absurd (Nat.eq_of_beq_eq_true hbb) hne
          rw [hd'] at h4
          simpa [dval, this] using h4
  · by_cases hji : j = i
    · subst hji
      rw [hol] at hoj
      obtain rfl := Option.some.inj hoj
      have hlt := backOk_get hback hol e he hb
      rw [getD_set_ne false (by omega)]
      exact hall e he hb
    · rw [getD_set_ne false (Ne.symm hji)] at hlj
      have := hcl j oj hoj hlj e he hb
      by_cases hei : e.on = i
      · rw [hei]; simp [hsz, show i < ol.length by omega]
      · rw [getD_set_ne false (Ne.symm hei)]; exact this

theorem ready_below {listed : Array Bool} {i : Nat} (hback : backOk ol 0 ol = true) (hi : i < ol.length) (hun : listed.getD i true = false) (hall : ∀ j, j < i → listed.getD j false = true) : i ∈ Region.ready .any ol.toArray listed := by
  rw [mem_ready]
  refine ⟨hun, ol[i], by simp [hi], fun e he hb => hall _ ?_⟩
  have := backOk_get hback (List.getElem?_eq_getElem hi) e he hb
  omega

theorem draw_tail (hback : backOk ol 0 ol = true) (htail : tailOk m 0 ol = true) : ∀ (r t fuel : Nat) (listed : Array Bool) (a : Act) (w : World), t + r = ol.length → m ≤ t → listed.size = ol.length →
    (∀ i, i < ol.length → listed.getD i false = decide (i < t)) → r ≤ fuel → wpList P ol.toArray Q (ol.drop t) a w → wpAny P .any ol.toArray Q fuel listed a w := by
  intro r
  induction r with
  | zero =>
    intro t fuel listed a w hr hm hsz hl hf h
    rw [List.drop_eq_nil_of_le (by omega)] at h
    refine wpAny_done ?_ h fuel
    apply List.eq_nil_iff_forall_not_mem.2
    intro i hi
    obtain ⟨h1, o, ho, _⟩ := mem_ready.1 hi
    have hlt : i < ol.length := by
      have := (Array.getElem?_eq_some_iff.1 ho).1
      simpa using this
    have h2 := hl i hlt
    have : listed.getD i true = listed.getD i false := by simp [hsz, hlt]
    rw [this, h2] at h1
    simp at h1
    omega
  | succ r ih =>
    intro t fuel listed a w hr hm hsz hl hf h
    have hlt : t < ol.length := by omega
    have hun : listed.getD t true = false := by
      have : listed.getD t true = listed.getD t false := by simp [hsz, hlt]
      rw [this, hl t hlt]; simp
    have hready : t ∈ Region.ready .any ol.toArray listed := ready_below hback hlt hun fun j hj => by rw [hl j (by omega)]; simp [hj]
    obtain ⟨f, rfl⟩ : ∃ f, fuel = f + 1 := ⟨fuel - 1, by omega⟩
    refine ⟨fun h0 => (by rw [h0] at hready; cases hready), fun i hi => ?_⟩
    have hit : i = t := by
      obtain ⟨h1, o, ho, hall⟩ := mem_ready.1 hi
      have hilt : i < ol.length := by
        have := (Array.getElem?_eq_some_iff.1 ho).1
        simpa using this
      have h2 := hl i hilt
      have h3 : listed.getD i true = listed.getD i false := by simp [hsz, hilt]
      rw [h3, h2] at h1
      have hge : t ≤ i := by simpa using h1
      rcases Nat.lt_or_ge t i with h' | h'
      · have h4 := onDraw_listed (tailOk_get htail (i := i) (by simpa using ho) (by omega) t (by omega)) hall
        rw [hl t hlt] at h4
        simp at h4
      · omega
    subst hit
    have hoi : ol.toArray[i]? = some ol[i] := by simp [hlt]
    rw [List.drop_eq_getElem_cons hlt] at h
    have h5 : wpOp P ol.toArray Q i (wpList P ol.toArray Q (ol.drop (i + 1))) a w := by
      unfold wpOp
      simp only [hoi]
      unfold wpList at h
      exact h
    refine wpOp_mono (fun a' w' hq => ?_) h5
    refine ih (i + 1) f _ a' w' (by omega) (by omega) (by simpa using hsz) ?_ (by omega) hq
    intro j hj
    by_cases hji : j = i
    · subst hji
      simp [hsz, hlt]
    · rw [getD_set_ne false (Ne.symm hji), hl j hj]
      simp only [decide_eq_decide]
      omega

theorem draw_head (hG : Grow G) (hlen : Φ.length = m) (hml : m ≤ ol.length) (hsl : slotsOk L Φ = true) (hback : backOk ol 0 ol = true) (htail : tailOk m 0 ol = true) (steps : DSteps P ol n L ds J G Q Φ 0 (ol.take m))
    (k : ∀ σ w', J (fun j => Nat.blt j m) w' → FcAll G σ w' Φ → wpList P ol.toArray Q (ol.drop m) (st n L σ ds) w') :
    ∀ (c fuel : Nat) (listed : Array Bool) (a : Act) (w : World), listed.size = ol.length → (∀ i, m ≤ i → listed.getD i false = false) → ((List.range m).filter fun i => !listed.getD i false).length = c →
      c + (ol.length - m) ≤ fuel → DJ ol n L ds J G Φ listed a w → wpAny P .any ol.toArray Q fuel listed a w := by
  intro c
  induction c with
  | zero =>
    intro fuel listed a w hsz htl hc hfu hJ
    have hall : ∀ i, i < m → listed.getD i false = true := by
      intro i hi
      have h0 := List.length_eq_zero_iff.1 hc
      have := (List.filter_eq_nil_iff.1 h0) i (List.mem_range.2 hi)
      simpa using this
    obtain ⟨⟨σ, rfl, hj, hf⟩, _⟩ := hJ
    have hfl : (fun j => listed.getD j false) = fun j => Nat.blt j m := by
      funext j
      by_cases h : j < m
      · rw [hall j h]; symm; rw [Nat.blt_eq]; exact h
      · rw [htl j (by omega)]; symm
        cases hb : Nat.blt j m
        · rfl
        · rw [Nat.blt_eq] at hb; exact absurd hb h
    rw [hfl] at hj
    refine draw_tail hback htail (ol.length - m) m fuel listed _ w (by omega) (Nat.le_refl _) hsz (fun i hi => ?_) (by omega) (k σ w hj (FcAll_of Φ fun i hi => hf i hi (hall i (by omega))))
    rcases Nat.lt_or_ge i m with h | h
    · rw [hall i h]; simp [h]
    · rw [htl i h]; simp; omega
  | succ c ih =>
    intro fuel listed a w hsz htl hc hfu hJ
    obtain ⟨f, rfl⟩ : ∃ f, fuel = f + 1 := ⟨fuel - 1, by omega⟩
    have hsame : ∀ i, i < ol.length → listed.getD i true = listed.getD i false := fun i hi => by simp [hsz, hi]
    -- one that is not listed yet, the least
    have hex : ∃ i, i < m ∧ listed.getD i false = false := by
      have hne : ((List.range m).filter fun i => !listed.getD i false) ≠ [] := by intro e; rw [e] at hc; simp at hc
      obtain ⟨i, hi⟩ := List.exists_mem_of_ne_nil _ hne
      rw [List.mem_filter, List.mem_range] at hi
      exact ⟨i, hi.1, by simpa using hi.2⟩
    have hleast : ∃ i, i < m ∧ listed.getD i false = false ∧ ∀ j, j < i → listed.getD j false = true := by
      obtain ⟨i, hi, hu⟩ := hex
      induction i using Nat.strongRecOn with
      | ind i ihi =>
        by_cases hj : ∃ j, j < i ∧ listed.getD j false = false
        · obtain ⟨j, hj, hju⟩ := hj
          exact ihi j hj (by omega) hju
        · refine ⟨i, hi, hu, fun j hji => ?_⟩
          cases hjj : listed.getD j false
          · exact absurd ⟨j, hji, hjj⟩ hj
          · rfl
    obtain ⟨i0, hi0, hu0, hall0⟩ := hleast
    have hr0 : i0 ∈ Region.ready .any ol.toArray listed := ready_below hback (by omega) (by rw [hsame i0 (by omega)]; exact hu0) hall0
    refine ⟨fun h0 => (by rw [h0] at hr0; cases hr0), fun i hi => ?_⟩
    have him : i < m := by
      rcases Nat.lt_or_ge i m with h | h
      · exact h
      · obtain ⟨h1, o, ho, hall⟩ := mem_ready.1 hi
        have h4 := onDraw_listed (tailOk_get htail (i := i) (by simpa using ho) (by omega) i0 (by omega)) hall
        rw [hu0] at h4; cases h4
    have hiu : listed.getD i false = false := by
      obtain ⟨h1, _⟩ := mem_ready.1 hi
      rw [hsame i (by omega)] at h1; exact h1
    refine wpOp_mono (fun a' w' hq => ?_) (draw_step hG hlen hsl steps him hsz hml hJ hi hback)
    refine ih f _ a' w' (by simpa using hsz) (fun j hj => by rw [getD_set_ne false (by omega)]; exact htl j hj) ?_ (by omega) hq
    have hcount : ∀ (l : List Nat), l.Nodup → i ∈ l → (l.filter fun j => !listed.getD j false).length = ((l.filter fun j => !(listed.setIfInBounds i true).getD j false).length) + 1 := by
      intro l
      induction l with
      | nil => intro _ h; cases h
      | cons x l ihl =>
        intro hn hmem
        simp only [List.nodup_cons] at hn
        by_cases hx : x = i
        · subst hx
          have h1 : (listed.setIfInBounds x true).getD x false = true := by
            have : x < listed.size := by omega
            simp [this]
          have h2 : (l.filter fun j => !listed.getD j false) = (l.filter fun j => !(listed.setIfInBounds x true).getD j false) := by
            apply List.filter_congr
            intro j hj
            rw [getD_set_ne false (fun e : x = j => hn.1 (by rw [e]; exact hj))]
          rw [List.filter_cons, List.filter_cons, h1, hiu, h2]
          simp
        · have hmem' : i ∈ l := by
            rcases List.mem_cons.1 hmem with h | h
            · exact absurd h.symm hx
            · exact h
          have := ihl hn.2 hmem'
          rw [List.filter_cons, List.filter_cons, getD_set_ne false (Ne.symm hx)]
          split
          · simp only [List.length_cons]; omega
          · exact this
    have := hcount (List.range m) List.nodup_range (List.mem_range.2 him)
    omega

/-- A region that draws its order. -/
theorem k_drawn {id : Nat} {L0 : Env} {σ0 : Nat → Value} {w : World} (L : Env) (m : Nat) (J : (Nat → Bool) → World → Prop) (G : World → World → Prop) (Φ : List DF) (hL : AllEq L (ov L0 σ0)) (hG : Grow G)
    (hm : P.follows .mixedOrders = true) (hlen : Φ.length = m) (hml : Nat.ble m ol.length = true) (hsl : slotsOk L Φ = true)
    (hback : backOk ol 0 ol = true) (htail : tailOk m 0 ol = true) (h0 : ∀ m, J (fun _ => false) { w with drawn := m }) (steps : DSteps P ol n L ds J G (Exit.then N Q) Φ 0 (ol.take m))
    (k : ∀ σ w', J (fun j => Nat.blt j m) w' → FcAll G σ w' Φ → wpList P ol.toArray (Exit.then N Q) (ol.drop m) (st n L σ ds) w') :
    wk P (.region id ol.toArray true) N Q (st n L0 σ0 ds) w := by
  rw [seenF hL]
  refine wp_region_any hm ?_
  have hml' : m ≤ ol.length := Nat.le_of_ble_eq_true hml
  have hfalse : ∀ i, (Array.replicate ol.length false).getD i false = false := by
    intro i
    by_cases h : i < ol.length
    · simp [h]
    · simp [h]
  have hsz : ol.toArray.size = ol.length := by simp
  rw [hsz]
  have hfl : (fun j => (Array.replicate ol.length false).getD j false) = fun _ => false := by funext j; exact hfalse j
  refine draw_head hG hlen hml' hsl hback htail steps k m ol.length _ _ _ (by simp) (fun i _ => hfalse i) ?_ (by omega) ⟨⟨_, rfl, by rw [hfl]; exact h0 _, fun i _ h => by rw [hfalse] at h; cases h⟩, fun i o _ h => by rw [hfalse] at h; cases h⟩
  rw [List.filter_eq_self.2 (fun i _ => by rw [hfalse]; rfl)]
  simp
end
theorem seenR {P : Program} {ops : Array Oper} {Q : Exit → Act → World → Prop} {l : List Oper} {n : Nat} {L : Env} {σ : Nat → Value} {ds : List Deferred} {w : World} (L' : Env) (h : AllEq L' (ov L σ))
    (k : wpList P ops Q l (st n L' (ov L σ) ds) w) : wpList P ops Q l (st n L σ ds) w := by
  rw [seenF h]; exact k
/-! ### '==' of structs of plain fields -/
def Qf (P : Program) (xs ys : Array Value) (fs : List Field) (r : Bool) : Prop := ∀ d w, (Op.eqFields (d + 1) xs ys fs).run P w = .ok r w
section
variable {P : Program} {xs ys : Array Value} {f : Field} {fs : List Field} {a b : Value} {r s : Bool} {w : World}
theorem q_nil : Qf P xs ys [] true := fun d w => by simp [Op.eqFields]
theorem part_one {t : TypeId} {u : TypeDesc} {i : Nat} {cs : Array Value} {v : Value} (hu : P.underlying t = some u) (h : cs[i]? = some v) (hs : (∀ fs, u ≠ .struct fs) ∧ (∀ n e, u ≠ .array n e)) :
    (part t cs i).run P w = .ok v w := by
  have ha : (isAgg t).run P w = .ok false w := by
    cases u <;> first | (simp [isAgg, run_underlying hu]; done) | exact absurd rfl (hs.1 _) | exact absurd rfl (hs.2 _ _)
  unfold part
  rw [Sem.run_bind, ha, Result.andThen_ok]
  simp [h]
def QE (P : Program) (t : TypeId) (a b : Value) (r : Bool) : Prop := (∃ u, P.underlying t = some u ∧ (∀ fs, u ≠ .struct fs) ∧ (∀ n e, u ≠ .array n e)) ∧ ∀ d w, (Op.equalIn (d + 1) t a b).run P w = .ok r w
theorem q_int {t : TypeId} {k k' : IntKind} {a b : Int} (h : P.underlying t = some (.int k')) : QE P t (.int k a) (.int k b) (a == b) := ⟨⟨_, h, (by intro _ h; cases h), (by intro _ _ h; cases h)⟩, fun d w => run_equalIn_int w d t k k' a b h⟩
theorem q_bool {t : TypeId} {a b : Bool} (h : P.underlying t = some .bool) : QE P t (.bool a) (.bool b) (a == b) := ⟨⟨_, h, (by intro _ h; cases h), (by intro _ _ h; cases h)⟩, fun d w => run_equalIn_bool' w d t a b h⟩
theorem q_str {t : TypeId} {a b : ByteArray} (h : P.underlying t = some .string) : QE P t (.string a) (.string b) (a.toList == b.toList) := ⟨⟨_, h, (by intro _ h; cases h), (by intro _ _ h; cases h)⟩, fun d w => run_equalIn_string w d t a b h⟩
theorem q_cons (hn : (f.name == "_") = false) (ha : xs[f.offset]? = some a) (hb : ys[f.offset]? = some b) (he : QE P f.type a b r) (hr : Qf P xs ys fs s) : Qf P xs ys (f :: fs) (r && s) := fun d w => by
  obtain ⟨⟨u, hu, hs⟩, hq⟩ := he
  have hn' : f.name ≠ "_" := by simpa using hn
  rw [Op.eqFields]
  simp only [if_pos hn', Sem.run_bind, part_one hu ha hs, part_one hu hb hs, hq, Result.andThen_ok]
  cases r
  · simp
  · simpa using hr d w
theorem r_eqs {xt : TypeId} {fs : List Field} {x y : Operand} (hu : P.underlying xt = some (.struct fs.toArray)) (hp : P.stoodInHeld xt = false) (hm : P.eqGuardType P.depth xt = false) (h : Qf P xs ys fs r) :
    (do eqGuard .eql xt x y (.agg xs) (.agg ys); binOp .eql xt (.agg xs) (.agg ys) : Sem Value).run P w = .ok (.bool r) w := by
  rw [Sem.run_bind, run_eqGuard_agg w _ _ _ _ _ _ hm, Result.andThen_ok, run_eql_struct]
  have hf : P.fieldsOf xt = fs.toArray := by simp [Program.fieldsOf, hu]
  rw [run_equalIn_struct (P := P) w 9999 xt xs ys (by rw [hf]; exact hu) hp, hf]
  rw [show fs.toArray.toList = fs by simp, h 9998 w, Result.andThen_ok]
theorem r_nes {xt : TypeId} {fs : List Field} {x y : Operand} (hu : P.underlying xt = some (.struct fs.toArray)) (hp : P.stoodInHeld xt = false) (hm : P.eqGuardType P.depth xt = false) (h : Qf P xs ys fs r) :
    (do eqGuard .neq xt x y (.agg xs) (.agg ys); binOp .neq xt (.agg xs) (.agg ys) : Sem Value).run P w = .ok (.bool (!r)) w := by
  rw [Sem.run_bind, run_eqGuard_agg w _ _ _ _ _ _ hm, Result.andThen_ok, run_neq_struct]
  have hf : P.fieldsOf xt = fs.toArray := by simp [Program.fieldsOf, hu]
  rw [run_equalIn_struct (P := P) w 9999 xt xs ys (by rw [hf]; exact hu) hp, hf]
  rw [show fs.toArray.toList = fs by simp, h 9998 w, Result.andThen_ok]
end
theorem pk_same (b : Bool) (v : Value) : (bif b then v else v) = v := by cases b <;> rfl
theorem pk_no {b : Bool} {p : Prop} (h : b = false) (h' : b = true) : p := by rw [h] at h'; cases h'
theorem nf {a : Bool} (h : a = true) : (!a) = false := by subst h; rfl
end Go.Proofs.Ytcnchjlomcafeaa.B
