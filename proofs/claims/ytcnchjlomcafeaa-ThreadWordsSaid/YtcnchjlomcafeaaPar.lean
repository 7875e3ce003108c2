/- Operations of a region that come in any order: what is in memory hangs on which of them have been listed, and on what they have made. -/
import Derived.Test.YtcnchjlomcafeaaAny
set_option linter.unusedVariables false
set_option linter.unusedSimpArgs false
set_option linter.unusedSectionVars false
namespace Go.Proofs.Ytcnchjlomcafeaa.B
open Go Go.RowKit

def updb (g : Nat → Nat) (i b j : Nat) : Nat := bif Nat.beq i j then b else g j
def updx (g : Nat → Rsc) (i : Nat) (X : Rsc) (j : Nat) : Rsc := bif Nat.beq i j then X else g j
/-- What is known of an operation's value: b and X are what it has made. -/
structure PF where
  i : Nat
  slot : Option Nat
  fact : Nat → Rsc → Value → Prop
def pfAt : List PF → Nat → PF
  | [], i => ⟨i, none, fun _ _ _ => True⟩
  | f :: r, i => bif Nat.beq f.i i then f else pfAt r i
abbrev Jt := (Nat → Bool) → (Nat → Nat) → (Nat → Rsc) → World → Prop
def PF.at_ (f : PF) (gb : Nat → Nat) (gx : Nat → Rsc) (σ : Nat → Value) : Prop := f.fact (gb f.i) (gx f.i) (dval σ f.slot)
def Pcs (Φ : List PF) (gb : Nat → Nat) (gx : Nat → Rsc) (σ : Nat → Value) : List Nat → Prop
  | [] => True
  | j :: r => (pfAt Φ j).at_ gb gx σ ∧ Pcs Φ gb gx σ r
def PAll (gb : Nat → Nat) (gx : Nat → Rsc) (σ : Nat → Value) : List PF → Prop
  | [] => True
  | f :: r => f.at_ gb gx σ ∧ PAll gb gx σ r
inductive PSteps (P : Program) (ol : List Oper) (n : Nat) (L : Env) (ds : List Deferred) (J : Jt) (Q : Exit → Act → World → Prop) (Φ : List PF) : List PF → Prop
  | nil : PSteps P ol n L ds J Q Φ []
  | cons {f : PF} {o : Oper} {r : List PF} (pr pt np : List Nat) (ho : opAt ol f.i = some o) (hs : f.slot = o.dst) (hn : slotB n o.dst = true) (hp : predsOk o pr = true) (ht : predsOk o pt = true) (hq : succsOk ol f.i np = true)
      (h : ∀ σ fl gb gx w, J fl gb gx w → fl f.i = false → Fls fl true pt → Fls fl false np → Pcs Φ gb gx σ pr →
        wpList P ol.toArray (Exit.then (fun a w' => ∃ v b X, a = st n (pd o.dst v L) σ ds ∧ J (upd fl f.i) (updb gb f.i b) (updx gx f.i X) w' ∧ f.fact b X (dv o.dst v)) Q) [o] (st n L σ ds) w)
      (k : PSteps P ol n L ds J Q Φ r) : PSteps P ol n L ds J Q Φ (f :: r)

def pslotNot (d : Nat) : List PF → Bool
  | [] => true
  | f :: r => (match f.slot with | some d' => !(Nat.beq d' d) | none => true) && pslotNot d r
def pslotNotO : Option Nat → List PF → Bool
  | some d, r => pslotNot d r
  | none, _ => true
def pOk (L : Env) : List PF → Bool
  | [] => true
  | f :: r => keysNotO f.slot L && pslotNotO f.slot r && r.all (fun g => !(Nat.beq g.i f.i)) && pOk L r
/-- Of those that are not listed: who is of the set hangs on the set and what is listed alone; who is not hangs on all of it. -/
def setOk (ol : List Oper) (bs : List Nat) (m : Nat) : Nat → List Oper → Bool
  | _, [] => true
  | i, o :: r => (Nat.testBit m i || (if bs.contains i then o.after.all (fun e => !Region.binds .any e || Nat.testBit m e.on || bs.contains e.on) else bs.all (onDraw o))) && setOk ol bs m (i + 1) r
def addAll (m : Nat) : List Nat → Nat
  | [] => m
  | i :: r => addAll (m ||| (1 <<< i)) r

section
variable {P : Program} {ol : List Oper} {n : Nat} {L : Env} {ds : List Deferred} {J : Jt} {Φ : List PF} {N : Act → World → Prop} {Q : Exit → Act → World → Prop} {W : Nat → World → Prop}
theorem setOk_get {bs : List Nat} {m : Nat} : ∀ {l : List Oper} {k i : Nat} {o : Oper}, setOk ol bs m k l = true → l[i]? = some o →
    Nat.testBit m (k + i) = true ∨ (if bs.contains (k + i) then o.after.all (fun e => !Region.binds .any e || Nat.testBit m e.on || bs.contains e.on) else bs.all (onDraw o)) = true := by
  intro l
  induction l with
  | nil => intro k i o _ hi; simp at hi
  | cons p r ih =>
    intro k i o h hi
    simp only [setOk, Bool.and_eq_true, Bool.or_eq_true] at h
    cases i with
    | zero => simp at hi; subst hi; exact h.1
    | succ i => simp at hi; have := ih h.2 hi; rw [show k + 1 + i = k + (i + 1) by omega] at this; exact this
theorem PSteps.get : ∀ {l : List PF} {f : PF}, PSteps P ol n L ds J Q Φ l → f ∈ l → ∃ o pr pt np, opAt ol f.i = some o ∧ f.slot = o.dst ∧ slotB n o.dst = true ∧ predsOk o pr = true ∧ predsOk o pt = true ∧ succsOk ol f.i np = true ∧
      ∀ σ fl gb gx w, J fl gb gx w → fl f.i = false → Fls fl true pt → Fls fl false np → Pcs Φ gb gx σ pr →
        wpList P ol.toArray (Exit.then (fun a w' => ∃ v b X, a = st n (pd o.dst v L) σ ds ∧ J (upd fl f.i) (updb gb f.i b) (updx gx f.i X) w' ∧ f.fact b X (dv o.dst v)) Q) [o] (st n L σ ds) w := by
  intro l
  induction l with
  | nil => intro f _ h; cases h
  | cons g r ih =>
    intro f h hf
    cases h with
    | cons pr pt np ho hs hn hp ht hq h hk =>
      rcases List.mem_cons.1 hf with rfl | hf
      · exact ⟨_, pr, pt, np, ho, hs, hn, hp, ht, hq, h⟩
      · exact ih hk hf
theorem pfAt_mem {Φ : List PF} {j : Nat} (h : j ∈ Φ.map (·.i)) : pfAt Φ j ∈ Φ ∧ (pfAt Φ j).i = j := by
  induction Φ with
  | nil => simp at h
  | cons f r ih =>
    unfold pfAt
    cases hb : Nat.beq f.i j with
    | true => exact ⟨List.mem_cons_self .., Nat.eq_of_beq_eq_true hb⟩
    | false =>
      simp only [List.map_cons, List.mem_cons] at h
      have hne : f.i ≠ j := fun e => by rw [e, Nat.beq_refl] at hb; cases hb
      obtain ⟨h1, h2⟩ := ih (h.resolve_left fun e => hne e.symm)
      exact ⟨List.mem_cons_of_mem _ h1, h2⟩
theorem pslotNot_ne {d d' : Nat} {Φ : List PF} (h : pslotNot d Φ = true) {f : PF} (hf : f ∈ Φ) (hd : f.slot = some d') : d' ≠ d := by
  induction Φ with
  | nil => cases hf
  | cons g r ih =>
    simp only [pslotNot, Bool.and_eq_true] at h
    rcases List.mem_cons.1 hf with rfl | hf
    · intro e; rw [hd, e] at h; simp at h
    · exact ih h.2 hf
theorem pOk_keys {Φ : List PF} (h : pOk L Φ = true) {f : PF} (hf : f ∈ Φ) {d : Nat} (hd : f.slot = some d) : keysNot d L = true := by
  induction Φ with
  | nil => cases hf
  | cons g r ih =>
    simp only [pOk, Bool.and_eq_true] at h
    rcases List.mem_cons.1 hf with rfl | hf
    · rw [hd] at h; exact h.1.1.1
    · exact ih h.2 hf
theorem pOk_inj {Φ : List PF} (h : pOk L Φ = true) {f g : PF} (hf : f ∈ Φ) (hg : g ∈ Φ) (he : f.i = g.i) : f = g := by
  induction Φ with
  | nil => cases hf
  | cons p r ih =>
    simp only [pOk, Bool.and_eq_true, List.all_eq_true] at h
    rcases List.mem_cons.1 hf with hf1 | hf1 <;> rcases List.mem_cons.1 hg with hg1 | hg1
    · rw [hf1, hg1]
    · have := h.1.2 g hg1; rw [← he, hf1, Nat.beq_refl] at this; simp at this
    · have := h.1.2 f hf1; rw [he, hg1, Nat.beq_refl] at this; simp at this
    · exact ih h.2 hf1 hg1
theorem pOk_ne {Φ : List PF} (h : pOk L Φ = true) {f g : PF} (hf : f ∈ Φ) (hg : g ∈ Φ) (hne : f.i ≠ g.i) {d d' : Nat} (hd : f.slot = some d) (hd' : g.slot = some d') : d ≠ d' := by
  induction Φ with
  | nil => cases hf
  | cons p r ih =>
    simp only [pOk, Bool.and_eq_true] at h
    rcases List.mem_cons.1 hf with hf1 | hf1 <;> rcases List.mem_cons.1 hg with hg1 | hg1
    · rw [hf1, hg1] at hne; exact absurd rfl hne
    · subst hf1; rw [hd] at h; exact fun e => pslotNot_ne h.1.1.2 hg1 hd' e.symm
    · subst hg1; rw [hd'] at h; exact pslotNot_ne h.1.1.2 hf1 hd
    · exact ih h.2 hf1 hg1
theorem Pcs_of {gb : Nat → Nat} {gx : Nat → Rsc} {σ : Nat → Value} : ∀ (pr : List Nat), (∀ j ∈ pr, (pfAt Φ j).at_ gb gx σ) → Pcs Φ gb gx σ pr
  | [], _ => trivial
  | j :: r, h => ⟨h j (by simp), Pcs_of r fun j hj => h j (by simp [hj])⟩
theorem PAll_of {gb : Nat → Nat} {gx : Nat → Rsc} {σ : Nat → Value} : ∀ (l : List PF), (∀ f ∈ l, f.at_ gb gx σ) → PAll gb gx σ l
  | [], _ => trivial
  | f :: r, h => ⟨h f (by simp), PAll_of r fun g hg => h g (by simp [hg])⟩

structure PJ (ol : List Oper) (n : Nat) (L : Env) (ds : List Deferred) (J : Jt) (Φ : List PF) (m : Nat) (listed : Array Bool) (a : Act) (w : World) : Prop where
  ex : ∃ σ gb gx, a = st n L σ ds ∧ J (fun j => listed.getD j false) gb gx w ∧ ∀ f ∈ Φ, listed.getD f.i false = true → f.at_ gb gx σ
  closed : ∀ i o, ol[i]? = some o → listed.getD i false = true → ∀ e ∈ o.after, Region.binds .any e = true → listed.getD e.on false = true
  base : ∀ i, Nat.testBit m i = true → i < ol.length → listed.getD i false = true
  only : ∀ i, listed.getD i false = true → Nat.testBit m i = true ∨ i ∈ Φ.map (·.i)
theorem par_step {m : Nat} (hsl : pOk L Φ = true) (hback : backOk ol 0 ol = true) (steps : PSteps P ol n L ds J Q Φ Φ) (hset : setOk ol (Φ.map (·.i)) m 0 ol = true) {f : PF} (hf : f ∈ Φ) {listed : Array Bool} (hsz : listed.size = ol.length)
    {a : Act} {w : World} (hJ : PJ ol n L ds J Φ m listed a w) (hr : f.i ∈ Region.ready .any ol.toArray listed) (hm : ∀ f ∈ Φ, Nat.testBit m f.i = false) :
    wpOp P ol.toArray Q f.i (PJ ol n L ds J Φ m (listed.setIfInBounds f.i true)) a w := by
  obtain ⟨⟨σ, gb, gx, rfl, hj, hfa⟩, hcl, hbase, honly⟩ := hJ
  obtain ⟨hun, o, ho, hall⟩ := mem_ready.1 hr
  have hol : ol[f.i]? = some o := by simpa using ho
  have hil : f.i < ol.length := (List.getElem?_eq_some_iff.1 hol).1
  have hiu : listed.getD f.i false = false := by
    have : listed.getD f.i true = listed.getD f.i false := by
      have h1 : f.i < listed.size := by omega
      simp [h1]
    rw [← this]; exact hun
  obtain ⟨o', pr, pt, np, ho', hs, hn, hp, ht, hq, h⟩ := steps.get hf
  rw [← opAt_eq, hol] at ho'
  obtain rfl := Option.some.inj ho'
  have hprl : ∀ {l : List Nat}, predsOk o l = true → ∀ j ∈ l, listed.getD j false = true := fun hl j hj => onDraw_listed (List.all_eq_true.1 hl j hj) hall
  have h1 := h σ (fun j => listed.getD j false) gb gx w hj hiu (Fls_of pt (hprl ht))
    (Fls_of np fun j hj => by
      have h2 := List.all_eq_true.1 hq j hj
      obtain ⟨oj, hoj⟩ := opOn_lt h2
      have h3 := opOn_get h2 hoj
      cases hl : listed.getD j false with
      | false => rfl
      | true =>
        have := onDraw_listed h3 (hcl j oj hoj hl)
        rw [hiu] at this; cases this)
    (Pcs_of pr fun j hj => by
      by_cases hmem : j ∈ Φ.map (·.i)
      · obtain ⟨h2, h3⟩ := pfAt_mem hmem
        exact hfa _ h2 (by rw [h3]; exact hprl hp j hj)
      · have hdef : pfAt Φ j = ⟨j, none, fun _ _ _ => True⟩ := by
          clear hfa hsl steps hset h hf hm honly
          induction Φ with
          | nil => rfl
          | cons g r ih =>
            simp only [List.map_cons, List.mem_cons, not_or] at hmem
            unfold pfAt
            have : Nat.beq g.i j = false := by
              cases hb : Nat.beq g.i j
              · rfl
              · exact absurd (Nat.eq_of_beq_eq_true hb).symm hmem.1
            rw [this]; exact ih hmem.2
        rw [hdef]; trivial)
  refine wpOp_mono (fun a' w' hq' => ?_) (wpOp_of_list ho h1)
  obtain ⟨v, b, X, rfl, hJ', hfact⟩ := hq'
  have hupd : (fun j => (listed.setIfInBounds f.i true).getD j false) = upd (fun j => listed.getD j false) f.i := by
    funext j
    unfold upd
    cases hb : Nat.beq f.i j with
    | false =>
      have : f.i ≠ j := fun e => by rw [e, Nat.beq_refl] at hb; cases hb
      simp only [cond_false]
      exact getD_set_ne false this
    | true =>
      have := Nat.eq_of_beq_eq_true hb; rw [← this]
      simp [hsz, hil]
  refine ⟨⟨fun t => match o.dst with | some d => bif Nat.beq d t then v else σ t | none => σ t, updb gb f.i b, updx gx f.i X, ?_, by rw [hupd]; exact hJ', fun g hg hlg => ?_⟩, fun j oj hoj hlj e he hb => ?_, fun j hj hjl => ?_, fun j hj => ?_⟩
  · cases hd : o.dst with
    | none => rfl
    | some d =>
      have hkeys := pOk_keys hsl hf (d := d) (by rw [hs, hd])
      simp only [pd, st, keysNot_ov hkeys]
  · by_cases hgi : g.i = f.i
    · have := pOk_inj hsl hg hf hgi
      subst this
      have hb1 : updb gb g.i b g.i = b := by simp [updb]
      have hb2 : updx gx g.i X g.i = X := by simp [updx]
      unfold PF.at_
      rw [hb1, hb2, hs]
      cases hd : o.dst with
      | none => rw [hd] at hfact; exact hfact
      | some d => rw [hd] at hfact; simpa [dval, dv] using hfact
    · have hlg' : listed.getD g.i false = true := by
        rw [getD_set_ne false (Ne.symm hgi)] at hlg; exact hlg
      have h4 := hfa g hg hlg'
      have hbq : Nat.beq f.i g.i = false := by
        cases hbb : Nat.beq f.i g.i
        · rfl
        · exact absurd (Nat.eq_of_beq_eq_true hbb).symm hgi
      have hb1 : updb gb f.i b g.i = gb g.i := by simp [updb, hbq]
      have hb2 : updx gx f.i X g.i = gx g.i := by simp [updx, hbq]
      unfold PF.at_ at h4 ⊢
      rw [hb1, hb2]
      cases hd : o.dst with
      | none => exact h4
      | some d =>
        cases hd' : g.slot with
        | none => rw [hd'] at h4; exact h4
        | some d' =>
          have hne := pOk_ne hsl hf hg (Ne.symm hgi) (d := d) (d' := d') (by rw [hs, hd]) hd'
          have : Nat.beq d d' = false := by
            cases hbb : Nat.beq d d'
            · rfl
            · exact absurd (Nat.eq_of_beq_eq_true hbb) hne
          rw [hd'] at h4
          simpa [dval, this] using h4
  · by_cases hji : j = f.i
    · subst hji
      rw [hol] at hoj
      obtain rfl := Option.some.inj hoj
      have hlt := backOk_get hback hol e he hb
      rw [getD_set_ne false (by omega)]
      exact hall e he hb
    · rw [getD_set_ne false (Ne.symm hji)] at hlj
      have := hcl j oj hoj hlj e he hb
      by_cases hei : e.on = f.i
      · rw [hei]; simp [hsz, hil]
      · rw [getD_set_ne false (Ne.symm hei)]; exact this
  · exact getD_set_true (hbase j hj hjl)
  · by_cases hji : j = f.i
    · exact .inr (List.mem_map.2 ⟨f, hf, hji.symm⟩)
    · rw [getD_set_ne false (Ne.symm hji)] at hj; exact honly j hj

theorem w_par {σ : Nat → Value} {w : World} {len m m' f : Nat} (J : Jt) (Φ : List PF) (hJW : ∀ i ∈ Φ.map (·.i), ∀ fl gb gx w, fl i = true → J fl gb gx w → W i w) (is : List Nat) (his : Φ.map (·.i) = is) (c : Nat) (hc : Φ.length = c) (hlen : ol.length = len) (hsl : pOk L Φ = true) (hback : backOk ol 0 ol = true)
    (hset : setOk ol is m 0 ol = true) (hcl : closedB ol m 0 ol = true) (hm : is.all (fun i => !(Nat.testBit m i) && Nat.blt i len) = true) (hmb : lb len (addAll m is) = lb len m')
    (h0 : J (fun j => Nat.testBit m j && Nat.blt j len) (fun _ => 0) (fun _ => []) w) (steps : PSteps P ol n L ds J Q Φ Φ)
    (k : ∀ σ gb gx w, J (fun j => Nat.testBit m' j && Nat.blt j len) gb gx w → PAll gb gx σ Φ → wpW W P ol.toArray Q f (lb len m') (st n L σ ds) w) :
    wpW W P ol.toArray Q (f + c) (lb len m) (st n L σ ds) w := by
  rw [Nat.add_comm]
  subst his hlen hc
  have hlb : ∀ m i, (lb ol.length m).getD i false = (Nat.testBit m i && Nat.blt i ol.length) := by
    intro m i
    by_cases h : i < ol.length
    · have : Nat.blt i ol.length = true := by rw [Nat.blt_eq]; exact h
      rw [this]; simp [lb, h]
    · have : Nat.blt i ol.length = false := by
        cases hb : Nat.blt i ol.length
        · rfl
        · rw [Nat.blt_eq] at hb; exact absurd hb h
      rw [this]; simp [lb, h]
  have hmf : ∀ f ∈ Φ, Nat.testBit m f.i = false ∧ f.i < ol.length := by
    intro f hf
    have := List.all_eq_true.1 hm f.i (List.mem_map_of_mem hf)
    simp only [Bool.and_eq_true, Bool.not_eq_true', Nat.blt_eq] at this
    exact this
  have hmt : ∀ (bs : List Nat) (m i : Nat), Nat.testBit (addAll m bs) i = (Nat.testBit m i || bs.contains i) := by
    intro bs
    induction bs with
    | nil => intro m i; simp [addAll]
    | cons b r ih =>
      intro m i
      rw [addAll, ih, Nat.testBit_or, Nat.one_shiftLeft, Nat.testBit_two_pow]
      by_cases h : b = i
      · subst h; simp
      · have h2 : ¬ i = b := fun e => h e.symm
        simp [h, h2]
  have hbit : ∀ i, i < ol.length → Nat.testBit m' i = Nat.testBit (addAll m (Φ.map (·.i))) i := by
    intro i hi
    have h1 : Nat.blt i ol.length = true := by rw [Nat.blt_eq]; exact hi
    have h2 := hlb m' i
    rw [← hmb, hlb, h1, Bool.and_true, Bool.and_true] at h2
    exact h2.symm
  have main : ∀ (c : Nat) (listed : Array Bool) (a : Act) (w : World), listed.size = ol.length → (Φ.filter fun g => !listed.getD g.i false).length = c → PJ ol n L ds J Φ m listed a w → wpW W P ol.toArray Q (c + f) listed a w := by
    intro c
    induction c with
    | zero =>
      intro listed a w hsz hc hJ
      have hall : ∀ g ∈ Φ, listed.getD g.i false = true := by
        intro g hg
        have h0 := List.length_eq_zero_iff.1 hc
        have := (List.filter_eq_nil_iff.1 h0) g hg
        simpa using this
      have hle : listed = lb ol.length m' := by
        apply Array.ext
        · simp [lb, hsz]
        · intro i h1 h2
          have e1 : listed[i] = listed.getD i false := by simp [h1]
          have e2 : (lb ol.length m')[i] = (lb ol.length m').getD i false := by rw [Array.getD_eq_getD_getElem?, Array.getElem?_eq_getElem h2]; rfl
          have hil : Nat.blt i ol.length = true := by rw [Nat.blt_eq]; omega
          rw [e1, e2, hlb, hil, Bool.and_true, hbit i (by omega), hmt]
          cases hl : listed.getD i false with
          | true =>
            rcases hJ.only i hl with h3 | h3
            · rw [h3]; rfl
            · simp [h3]
          | false =>
            symm
            rw [Bool.or_eq_false_iff]
            constructor
            · cases ht : Nat.testBit m i
              · rfl
              · have := hJ.base i ht (by omega); rw [hl] at this; cases this
            · cases hcn : (Φ.map (·.i)).contains i
              · rfl
              · rw [List.contains_iff_mem] at hcn
                obtain ⟨g, hg, rfl⟩ := List.mem_map.1 hcn
                have := hall g hg; rw [hl] at this; cases this
      obtain ⟨σ, gb, gx, rfl, hj, hfa⟩ := hJ.ex
      rw [Nat.zero_add]
      have hfl : (fun j => listed.getD j false) = fun j => Nat.testBit m' j && Nat.blt j ol.length := by funext j; rw [hle, hlb]
      rw [hfl] at hj
      rw [hle]
      exact k σ gb gx w hj (PAll_of Φ fun g hg => hfa g hg (hall g hg))
    | succ c ih =>
      intro listed a w hsz hc hJ
      have hsame : ∀ i, i < ol.length → listed.getD i true = listed.getD i false := fun i hi => by
        have h1 : i < listed.size := by omega
        simp [h1]
      have hex : ∃ i, i ∈ Φ.map (·.i) ∧ listed.getD i false = false := by
        have hne : (Φ.filter fun g => !listed.getD g.i false) ≠ [] := by intro e; rw [e] at hc; simp at hc
        obtain ⟨g, hg⟩ := List.exists_mem_of_ne_nil _ hne
        rw [List.mem_filter] at hg
        exact ⟨g.i, List.mem_map.2 ⟨g, hg.1, rfl⟩, by simpa using hg.2⟩
      have hleast : ∃ i, i ∈ Φ.map (·.i) ∧ listed.getD i false = false ∧ ∀ j, j < i → j ∈ Φ.map (·.i) → listed.getD j false = true := by
        obtain ⟨i, hi, hu⟩ := hex
        induction i using Nat.strongRecOn with
        | ind i ihi =>
          by_cases hj : ∃ j, j < i ∧ j ∈ Φ.map (·.i) ∧ listed.getD j false = false
          · obtain ⟨j, hj, hjm, hju⟩ := hj
            exact ihi j hj hjm hju
          · refine ⟨i, hi, hu, fun j hji hjm => ?_⟩
            cases hjj : listed.getD j false
            · exact absurd ⟨j, hji, hjm, hjj⟩ hj
            · rfl
      obtain ⟨i0, hi0, hu0, hall0⟩ := hleast
      obtain ⟨g0, hg0, hgi0⟩ := List.mem_map.1 hi0
      have hl0 : i0 < ol.length := by rw [← hgi0]; exact (hmf g0 hg0).2
      have hr0 : i0 ∈ Region.ready .any ol.toArray listed := by
        rw [mem_ready]
        refine ⟨by rw [hsame i0 hl0]; exact hu0, ol[i0], by simp [hl0], fun e he hb => ?_⟩
        have h1 := setOk_get hset (i := i0) (List.getElem?_eq_getElem hl0)
        have h1f : Nat.testBit m i0 = false := by rw [← hgi0]; exact (hmf g0 hg0).1
        rw [Nat.zero_add, h1f] at h1
        simp only [Bool.false_eq_true, false_or] at h1
        rw [if_pos (List.contains_iff_mem.2 hi0)] at h1
        have h2 := Array.all_eq_true_iff_forall_mem.1 h1 e he
        rw [hb] at h2
        simp only [Bool.not_true, Bool.false_or, Bool.or_eq_true] at h2
        have hlt := backOk_get hback (List.getElem?_eq_getElem hl0) e he hb
        rcases h2 with h2 | h2
        · exact hJ.base _ h2 (by omega)
        · exact hall0 _ (by omega) (List.contains_iff_mem.1 h2)
      rw [Nat.succ_add]
      refine ⟨fun h0 => (by rw [h0] at hr0; cases hr0), fun i hi => ?_⟩
      have him : i ∈ Φ.map (·.i) := by
        obtain ⟨h1, o, ho, hall⟩ := mem_ready.1 hi
        have hol : ol[i]? = some o := by simpa using ho
        have hil := (List.getElem?_eq_some_iff.1 hol).1
        have h2 := setOk_get hset hol
        rw [Nat.zero_add] at h2
        rcases h2 with h2 | h2
        · have := hJ.base i h2 hil
          rw [hsame i hil, this] at h1; cases h1
        · by_cases hcn : (Φ.map (·.i)).contains i = true
          · exact List.contains_iff_mem.1 hcn
          · rw [if_neg hcn] at h2
            have h3 := onDraw_listed (List.all_eq_true.1 h2 i0 hi0) hall
            rw [hu0] at h3; cases h3
      obtain ⟨g, hg, rfl⟩ := List.mem_map.1 him
      have hiu : listed.getD g.i false = false := by
        obtain ⟨h1, _⟩ := mem_ready.1 hi
        rw [hsame g.i (hmf g hg).2] at h1; exact h1
      refine wpOp_mono (fun a' w' hq => ⟨?_, ih _ a' w' (by simpa using hsz) ?_ hq⟩) (par_step hsl hback steps hset hg hsz hJ hi (fun f hf => (hmf f hf).1))
      · obtain ⟨σ, gb, gx, _, hj, _⟩ := hq.ex
        refine hJW _ (List.mem_map.2 ⟨g, hg, rfl⟩) _ _ _ _ ?_ hj
        have : g.i < listed.size := by rw [hsz]; exact (hmf g hg).2
        simp [this]
      · have hcount : ∀ (l : List PF), (∀ f ∈ l, f ∈ Φ) → l.Nodup → g ∈ l → (l.filter fun f => !listed.getD f.i false).length = ((l.filter fun f => !(listed.setIfInBounds g.i true).getD f.i false).length) + 1 := by
          intro l
          induction l with
          | nil => intro _ _ h; cases h
          | cons x l ihl =>
            intro hsub hnd hmem
            rw [List.nodup_cons] at hnd
            by_cases hx : x.i = g.i
            · have hxg := pOk_inj hsl (hsub x (by simp)) hg hx
              subst hxg
              have h1 : (listed.setIfInBounds x.i true).getD x.i false = true := by
                have : x.i < listed.size := by rw [hsz]; exact (hmf x hg).2
                simp [this]
              have h2 : (l.filter fun f => !listed.getD f.i false) = (l.filter fun f => !(listed.setIfInBounds x.i true).getD f.i false) := by
                apply List.filter_congr
                intro y hy
                rw [getD_set_ne false (fun e : x.i = y.i => hnd.1 (by rw [pOk_inj hsl (hsub x (by simp)) (hsub y (by simp [hy])) e]; exact hy))]
              rw [List.filter_cons, List.filter_cons, h1, hiu, h2]
              simp
            · have hmem' : g ∈ l := by
                rcases List.mem_cons.1 hmem with h | h
                · exact absurd (by rw [h]) hx
                · exact h
              have := ihl (fun f hf => hsub f (by simp [hf])) hnd.2 hmem'
              rw [List.filter_cons, List.filter_cons, getD_set_ne false (Ne.symm hx)]
              split
              · simp only [List.length_cons]; omega
              · exact this
        have hndΦ : Φ.Nodup := by
          clear ih hJ hi him hg hiu hcount hex hc hsz steps hset hm hmf h0 k hmb hbit
          have : ∀ l : List PF, pOk L l = true → l.Nodup := by
            intro l
            induction l with
            | nil => intro _; simp
            | cons p r ih2 =>
              intro h
              simp only [pOk, Bool.and_eq_true, List.all_eq_true] at h
              rw [List.nodup_cons]
              refine ⟨fun hp => ?_, ih2 h.2⟩
              have := h.1.2 p hp
              rw [Nat.beq_refl] at this; simp at this
          exact this Φ hsl
        have := hcount Φ (fun _ h => h) hndΦ hg
        omega
  refine main Φ.length (lb ol.length m) _ w (by simp [lb]) ?_ ⟨⟨σ, _, _, rfl, by simpa only [hlb] using h0, fun g hg hl => ?_⟩, fun i o ho hl e he hb => ?_, fun i hi hil => ?_, fun i hl => ?_⟩
  · rw [List.filter_eq_self.2 (fun g hg => ?_)]
    rw [hlb, (hmf g hg).1]; rfl
  · rw [hlb, (hmf g hg).1] at hl; cases hl
  · rw [hlb] at hl ⊢
    simp only [Bool.and_eq_true] at hl ⊢
    have h1 := closedB_get hcl ho (by rw [Nat.zero_add]; exact hl.1) e he hb
    have h2 := backOk_get hback ho e he hb
    have h3 := (List.getElem?_eq_some_iff.1 ho).1
    refine ⟨h1, ?_⟩
    rw [Nat.blt_eq]; omega
  · rw [hlb, hi]; rw [Bool.true_and, Nat.blt_eq]; exact hil
  · rw [hlb] at hl; simp only [Bool.and_eq_true] at hl; exact .inl hl.1
end
theorem seenW {P : Program} {ol : List Oper} {Q : Exit → Act → World → Prop} {W : Nat → World → Prop} {f : Nat} {lst : Array Bool} {n : Nat} {L : Env} {σ : Nat → Value} {ds : List Deferred} {w : World} (L' : Env) (h : AllEq L' (ov L σ))
    (k : wpW W P ol.toArray Q f lst (st n L' (ov L σ) ds) w) : wpW W P ol.toArray Q f lst (st n L σ ds) w := by
  rw [seenF h]; exact k
theorem Hp.cong {M I : Nat → Prop} {w0 wr w : World} {R R' : List Rsc} (h : Hp M I w0 wr w R) (e : R = R') : Hp M I w0 wr w R' := e ▸ h
end Go.Proofs.Ytcnchjlomcafeaa.B
