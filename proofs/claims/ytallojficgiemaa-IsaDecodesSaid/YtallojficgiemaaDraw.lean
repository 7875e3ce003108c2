/- Regions that draw their order: operations that only read or grow memory come in any order; what must come last comes last. -/
import Derived.Test.YtallojficgiemaaPure
import Derived.Orders
import Derived.Laws.StructEq
set_option linter.unusedVariables false
set_option linter.unusedSimpArgs false
set_option linter.unusedSectionVars false
namespace Go.Proofs.Ytallojficgiemaa.B
open Go Go.RowKit

theorem below_refl (w : World) : Below w.heap.size w w := ⟨rfl, rfl, rfl, Nat.le_refl _, fun _ _ => rfl⟩
theorem below_trans {w w' w'' : World} (h : Below w.heap.size w w') (k : Below w'.heap.size w' w'') : Below w.heap.size w w'' :=
  ⟨k.os.trans h.os, k.tape.trans h.tape, k.output.trans h.output, Nat.le_trans h.size k.size, fun i hi => (k.block i (Nat.lt_of_lt_of_le hi h.size)).trans (h.block i hi)⟩

/-- What is known of a drawn operation's value: its slot, and the fact. -/
structure DF where
  slot : Nat
  fact : Value → World → Prop
def DF.at_ (f : DF) (σ : Nat → Value) (w0 w : World) : Prop := ∃ w', Below w0.heap.size w0 w' ∧ Below w'.heap.size w' w ∧ f.fact (σ f.slot) w'
def dnth : List DF → Nat → DF
  | [], _ => ⟨0, fun _ _ => True⟩
  | f :: _, 0 => f
  | _ :: r, i + 1 => dnth r i
def Fcs (Φ : List DF) (σ : Nat → Value) (w0 w : World) : List Nat → Prop
  | [] => True
  | j :: r => (dnth Φ j).at_ σ w0 w ∧ Fcs Φ σ w0 w r
def FcAll (σ : Nat → Value) (w0 w : World) : List DF → Prop
  | [] => True
  | f :: r => f.at_ σ w0 w ∧ FcAll σ w0 w r
def onDraw (o : Oper) (j : Nat) : Bool := o.after.any fun e => Region.binds .any e && Nat.beq e.on j
def predsOk (o : Oper) (pr : List Nat) : Bool := pr.all (onDraw o)

inductive DSteps (P : Program) (ol : List Oper) (n : Nat) (L : Env) (ds : List Deferred) (w0 : World) (Φ : List DF) : Nat → List Oper → Prop
  | nil {i : Nat} : DSteps P ol n L ds w0 Φ i []
  | cons {i d : Nat} {o : Oper} {r : List Oper} (pr : List Nat) (hd : o.dst = some d) (hs : (dnth Φ i).slot = d) (hn : Nat.blt d n = true) (hp : predsOk o pr = true)
      (h : ∀ σ w, Below w0.heap.size w0 w → Fcs Φ σ w0 w pr → wpList P ol.toArray (Exit.then (fun a w' => ∃ v, a = st n ((d, v) :: L) σ ds ∧ Below w.heap.size w w' ∧ (dnth Φ i).fact v w') (fun _ _ _ => False)) [o] (st n L σ ds) w)
      (k : DSteps P ol n L ds w0 Φ (i + 1) r) : DSteps P ol n L ds w0 Φ i (o :: r)

section
variable {P : Program} {Q Q' : Exit → Act → World → Prop}
theorem wp_exits {o : Oper} {a : Act} {w : World} {K : Act → World → Prop} (hh : o.wp P a w K (Exit.then K (fun _ _ _ => False))) : o.wp P a w K Q := by
  unfold Oper.wp at *
  generalize (execOp a.eval o).run P w = r at *
  cases r with
  | ok n w' =>
    cases n <;> simp only [Oper.upon] at hh ⊢ <;>
      first
        | exact hh
        | exact Calls.mono hh (fun e w'' he => by cases e <;> first | exact he | exact (False.elim he) | (obtain ⟨_, _, h⟩ := he; exact False.elim h))
        | exact Rows.mono hh (fun _ _ he => he)
        | exact False.elim hh
  | halt x w' => cases x <;> simp only [Oper.upon] at hh ⊢ <;> first | exact hh | exact False.elim hh
theorem wpOp_of_list {ops : Array Oper} {o : Oper} {i : Nat} {a : Act} {w : World} {K : Act → World → Prop} (hi : ops[i]? = some o)
    (h : wpList P ops (Exit.then K (fun _ _ _ => False)) [o] a w) : wpOp P ops Q i K a w := by
  unfold wpOp
  simp only [hi]
  unfold wpList at h
  split
  · rename_i hw
    rw [if_pos hw] at h
    rcases h with h | ⟨_, ⟨a', w', h⟩⟩
    · exact .inl (wp_exits h)
    · exact False.elim h
  · rename_i hw
    rw [if_neg hw] at h
    exact h
end

def keysNot (d : Nat) : Env → Bool
  | [] => true
  | p :: r => !(Nat.beq p.1 d) && keysNot d r
def slotNot (d : Nat) : List DF → Bool
  | [] => true
  | f :: r => !(Nat.beq f.slot d) && slotNot d r
def slotsOk (L : Env) : List DF → Bool
  | [] => true
  | f :: r => keysNot f.slot L && slotNot f.slot r && slotsOk L r

theorem keysNot_ov {d : Nat} {v : Value} {L : Env} (h : keysNot d L = true) (σ : Nat → Value) : ov ((d, v) :: L) σ = ov L (fun t => bif Nat.beq d t then v else σ t) := by
  funext t
  simp only [ov]
  cases hb : Nat.beq d t with
  | false =>
    simp only [cond_false]
    induction L with
    | nil => simp [ov, hb]
    | cons p r ih =>
      simp only [keysNot, Bool.and_eq_true] at h
      simp only [ov, ih h.2]
  | true =>
    have := Nat.eq_of_beq_eq_true hb; subst this
    simp only [cond_true]
    induction L with
    | nil => simp [ov]
    | cons p r ih =>
      simp only [keysNot, Bool.and_eq_true, Bool.not_eq_true'] at h
      simp only [ov, h.1, cond_false]
      exact ih h.2
theorem dnth_get {Φ : List DF} {i : Nat} {f : DF} (h : Φ[i]? = some f) : dnth Φ i = f := by
  induction Φ generalizing i with
  | nil => simp at h
  | cons g r ih => cases i with
    | zero => simpa [dnth] using h
    | succ i => simp at h; simpa [dnth] using ih h
theorem slotsOk_keys {L : Env} {Φ : List DF} (h : slotsOk L Φ = true) {i : Nat} {f : DF} (hf : Φ[i]? = some f) : keysNot f.slot L = true := by
  induction Φ generalizing i with
  | nil => simp at hf
  | cons g r ih =>
    simp only [slotsOk, Bool.and_eq_true] at h
    cases i with
    | zero => simp at hf; subst hf; exact h.1.1
    | succ i => simp at hf; exact ih h.2 hf
theorem slotNot_ne {d : Nat} {Φ : List DF} (h : slotNot d Φ = true) {i : Nat} {f : DF} (hf : Φ[i]? = some f) : f.slot ≠ d := by
  induction Φ generalizing i with
  | nil => simp at hf
  | cons g r ih =>
    simp only [slotNot, Bool.and_eq_true, Bool.not_eq_true'] at h
    cases i with
    | zero => simp at hf; subst hf; intro e; rw [e] at h; simp at h
    | succ i => simp at hf; exact ih h.2 hf
theorem slotsOk_ne {L : Env} {Φ : List DF} (h : slotsOk L Φ = true) {i j : Nat} {f g : DF} (hf : Φ[i]? = some f) (hg : Φ[j]? = some g) (hne : i ≠ j) : f.slot ≠ g.slot := by
  induction Φ generalizing i j with
  | nil => simp at hf
  | cons q r ih =>
    simp only [slotsOk, Bool.and_eq_true] at h
    cases i with
    | zero => cases j with
      | zero => exact absurd rfl hne
      | succ j => simp at hf hg; subst hf; exact fun e => slotNot_ne h.1.2 hg e.symm
    | succ i => cases j with
      | zero => simp at hf hg; subst hg; exact slotNot_ne h.1.2 hf
      | succ j => simp at hf hg; exact ih h.2 hf hg (by omega)

/-- Each edge that binds leads back; each operation from m on hangs on all ahead of it. -/
def backOk (ol : List Oper) : Nat → List Oper → Bool
  | _, [] => true
  | i, o :: r => (o.after.all fun e => !Region.binds .any e || Nat.blt e.on i) && backOk ol (i + 1) r
def allOn (o : Oper) : Nat → Bool
  | 0 => true
  | j + 1 => onDraw o j && allOn o j
def tailOk (m : Nat) : Nat → List Oper → Bool
  | _, [] => true
  | i, o :: r => (Nat.blt i m || allOn o i) && tailOk m (i + 1) r
theorem backOk_get {ol l : List Oper} {k i : Nat} {o : Oper} (h : backOk ol k l = true) (hi : l[i]? = some o) : ∀ e ∈ o.after, Region.binds .any e = true → e.on < k + i := by
  induction l generalizing k i with
  | nil => simp at hi
  | cons p r ih =>
    simp only [backOk, Bool.and_eq_true] at h
    cases i with
    | zero =>
      simp at hi; subst hi
      intro e he hb
      have := Array.all_eq_true_iff_forall_mem.1 h.1 e he
      rw [hb] at this
      simpa [Nat.blt_eq] using this
    | succ i =>
      simp at hi
      intro e he hb
      have := ih h.2 hi e he hb
      omega
theorem allOn_get {o : Oper} {k j : Nat} (h : allOn o k = true) (hj : j < k) : onDraw o j = true := by
  induction k with
  | zero => omega
  | succ k ih =>
    simp only [allOn, Bool.and_eq_true] at h
    rcases Nat.lt_succ_iff_lt_or_eq.1 hj with h' | h'
    · exact ih h.2 h'
    · subst h'; exact h.1
theorem tailOk_get {m : Nat} {l : List Oper} {k i : Nat} {o : Oper} (h : tailOk m k l = true) (hi : l[i]? = some o) (hm : m ≤ k + i) : ∀ j, j < k + i → onDraw o j = true := by
  induction l generalizing k i with
  | nil => simp at hi
  | cons p r ih =>
    simp only [tailOk, Bool.and_eq_true, Bool.or_eq_true] at h
    cases i with
    | zero =>
      simp at hi; subst hi
      intro j hj
      rcases h.1 with h1 | h1
      · rw [Nat.blt_eq] at h1; omega
      · exact allOn_get h1 (by simpa using hj)
    | succ i =>
      simp at hi
      intro j hj
      exact ih h.2 hi (by omega) j (by omega)
theorem onDraw_listed {o : Oper} {j : Nat} {listed : Array Bool} (h : onDraw o j = true) (hl : ∀ e ∈ o.after, Region.binds .any e = true → listed.getD e.on false = true) : listed.getD j false = true := by
  obtain ⟨e, he, hb⟩ := Array.any_eq_true'.1 h
  simp only [Bool.and_eq_true] at hb
  rw [← Nat.eq_of_beq_eq_true hb.2]
  exact hl e he hb.1

section
variable {P : Program} {ol : List Oper} {n : Nat} {L : Env} {ds : List Deferred} {w0 : World} {Φ : List DF} {m : Nat} {N : Act → World → Prop} {Q : Exit → Act → World → Prop}

theorem DSteps.get : ∀ {l : List Oper} {k i : Nat} {o : Oper}, DSteps P ol n L ds w0 Φ k l → l[i]? = some o → ∃ d pr, o.dst = some d ∧ (dnth Φ (k + i)).slot = d ∧ Nat.blt d n = true ∧ predsOk o pr = true ∧
      ∀ σ w, Below w0.heap.size w0 w → Fcs Φ σ w0 w pr → wpList P ol.toArray (Exit.then (fun a w' => ∃ v, a = st n ((d, v) :: L) σ ds ∧ Below w.heap.size w w' ∧ (dnth Φ (k + i)).fact v w') (fun _ _ _ => False)) [o] (st n L σ ds) w := by
  intro l
  induction l with
  | nil => intro k i o _ hi; simp at hi
  | cons p r ih =>
    intro k i o h hi
    cases h with
    | cons pr hd hs hn hp h hk =>
      cases i with
      | zero => simp at hi; subst hi; exact ⟨_, pr, hd, hs, hn, hp, h⟩
      | succ i =>
        simp at hi
        have := ih hk hi
        rw [show k + 1 + i = k + (i + 1) by omega] at this
        exact this

def DJ (n : Nat) (L : Env) (ds : List Deferred) (w0 : World) (Φ : List DF) (listed : Array Bool) (a : Act) (w : World) : Prop :=
  ∃ σ, a = st n L σ ds ∧ Below w0.heap.size w0 w ∧ ∀ i, i < Φ.length → listed.getD i false = true → (dnth Φ i).at_ σ w0 w

theorem Fcs_of {σ : Nat → Value} {w : World} : ∀ (pr : List Nat), (∀ j ∈ pr, (dnth Φ j).at_ σ w0 w) → Fcs Φ σ w0 w pr
  | [], _ => trivial
  | j :: r, h => ⟨h j (by simp), Fcs_of r fun j hj => h j (by simp [hj])⟩
theorem FcAll_of {σ : Nat → Value} {w : World} : ∀ (Φ : List DF), (∀ i, i < Φ.length → (dnth Φ i).at_ σ w0 w) → FcAll σ w0 w Φ
  | [], _ => trivial
  | f :: r, h => ⟨h 0 (by simp), FcAll_of r fun i hi => h (i + 1) (by simp; omega)⟩

theorem draw_step (hlen : Φ.length = m) (hsl : slotsOk L Φ = true) (steps : DSteps P ol n L ds w0 Φ 0 (ol.take m)) {i : Nat} (him : i < m) {listed : Array Bool} (hsz : listed.size = ol.length) (hml : m ≤ ol.length)
    {a : Act} {w : World} (hJ : DJ n L ds w0 Φ listed a w) (hr : i ∈ Region.ready .any ol.toArray listed) (hhead : ∀ o e, ol[i]? = some o → e ∈ o.after → Region.binds .any e = true → e.on < i) :
    wpOp P ol.toArray Q i (DJ n L ds w0 Φ (listed.setIfInBounds i true)) a w := by
  obtain ⟨σ, rfl, hb, hf⟩ := hJ
  obtain ⟨hun, o, ho, hall⟩ := mem_ready.1 hr
  have ho' : (ol.take m)[i]? = some o := by
    rw [List.getElem?_take, if_pos him]
    simpa using ho
  obtain ⟨d, pr, hd, hs, hn, hp, h⟩ := steps.get ho'
  rw [Nat.zero_add] at hs h
  have hfi : ∃ f, Φ[i]? = some f := ⟨_, List.getElem?_eq_getElem (by omega)⟩
  obtain ⟨f, hfi⟩ := hfi
  have hfe := dnth_get hfi
  have hkeys := slotsOk_keys hsl hfi
  have hol : ol[i]? = some o := by simpa using ho
  have h1 := h σ w hb (Fcs_of pr fun j hj => by
    have hon := List.all_eq_true.1 hp j hj
    have hl := onDraw_listed hon hall
    refine hf j ?_ hl
    obtain ⟨e, he, hb2⟩ := Array.any_eq_true'.1 hon
    simp only [Bool.and_eq_true] at hb2
    have := hhead o e hol he hb2.1
    rw [Nat.eq_of_beq_eq_true hb2.2] at this
    omega)
  refine wpOp_mono (fun a' w' hq => ?_) (wpOp_of_list ho h1)
  obtain ⟨v, rfl, hbw, hfact⟩ := hq
  refine ⟨fun t => bif Nat.beq d t then v else σ t, ?_, below_trans hb hbw, fun j hj hlj => ?_⟩
  · rw [hfe] at hs
    subst hs
    simp only [st, keysNot_ov hkeys]
  · by_cases hji : j = i
    · subst hji
      refine ⟨w', below_trans hb hbw, below_refl w', ?_⟩
      rw [hs]
      simpa using hfact
    · have hlj' : listed.getD j false = true := by
        rw [getD_set_ne false (Ne.symm hji)] at hlj; exact hlj
      obtain ⟨w2, h2, h3, h4⟩ := hf j hj hlj'
      refine ⟨w2, h2, below_trans h3 hbw, ?_⟩
      obtain ⟨g, hg⟩ : ∃ g, Φ[j]? = some g := ⟨_, List.getElem?_eq_getElem hj⟩
      have hne := slotsOk_ne hsl hfi hg (Ne.symm hji)
      rw [hfe] at hs
      rw [dnth_get hg] at h4 ⊢
      have : Nat.beq d g.slot = false := by
        cases hbb : Nat.beq d g.slot
        · rfl
        · exact absurd (hs.trans (Nat.eq_of_beq_eq_true hbb)) hne
      simpa [this] using h4

theorem ready_below {listed : Array Bool} {i : Nat} (hback : backOk ol 0 ol = true) (hi : i < ol.length) (hun : listed.getD i true = false) (hall : ∀ j, j < i → listed.getD j false = true) : i ∈ Region.ready .any ol.toArray listed := by
  rw [mem_ready]
  refine ⟨hun, ol[i], by simp [hi], fun e he hb => hall _ ?_⟩
  have := backOk_get hback (List.getElem?_eq_getElem hi) e he hb
  omega

theorem draw_tail (hback : backOk ol 0 ol = true) (htail : tailOk m 0 ol = true) : ∀ (r t fuel : Nat) (listed : Array Bool) (a : Act) (w : World), t + r = ol.length → m ≤ t → listed.size = ol.length →
    (∀ i, i < ol.length → listed.getD i false = decide (i < t)) → r ≤ fuel → wpList P ol.toArray Q (ol.drop t) a w → wpAny P .any ol.toArray Q fuel listed a w := by
  intro r
  induction r with
  | zero =>
    intro t fuel listed a w hr hm hsz hl hf h
    rw [List.drop_eq_nil_of_le (by omega)] at h
    refine wpAny_done ?_ h fuel
    apply List.eq_nil_iff_forall_not_mem.2
    intro i hi
    obtain ⟨h1, o, ho, _⟩ := mem_ready.1 hi
    have hlt : i < ol.length := by
      have := (Array.getElem?_eq_some_iff.1 ho).1
      simpa using this
    have h2 := hl i hlt
    have : listed.getD i true = listed.getD i false := by simp [hsz, hlt]
    rw [this, h2] at h1
    simp at h1
    omega
  | succ r ih =>
    intro t fuel listed a w hr hm hsz hl hf h
    have hlt : t < ol.length := by omega
    have hun : listed.getD t true = false := by
      have : listed.getD t true = listed.getD t false := by simp [hsz, hlt]
      rw [this, hl t hlt]; simp
    have hready : t ∈ Region.ready .any ol.toArray listed := ready_below hback hlt hun fun j hj => by rw [hl j (by omega)]; simp [hj]
    obtain ⟨f, rfl⟩ : ∃ f, fuel = f + 1 := ⟨fuel - 1, by omega⟩
    refine ⟨fun h0 => (by rw [h0] at hready; cases hready), fun i hi => ?_⟩
    have hit : i = t := by
      obtain ⟨h1, o, ho, hall⟩ := mem_ready.1 hi
      have hilt : i < ol.length := by
        have := (Array.getElem?_eq_some_iff.1 ho).1
        simpa using this
      have h2 := hl i hilt
      have h3 : listed.getD i true = listed.getD i false := by simp [hsz, hilt]
      rw [h3, h2] at h1
      have hge : t ≤ i := by simpa using h1
      rcases Nat.lt_or_ge t i with h' | h'
      · have h4 := onDraw_listed (tailOk_get htail (i := i) (by simpa using ho) (by omega) t (by omega)) hall
        rw [hl t hlt] at h4
        simp at h4
      · omega
    subst hit
    have hoi : ol.toArray[i]? = some ol[i] := by simp [hlt]
    rw [List.drop_eq_getElem_cons hlt] at h
    have h5 : wpOp P ol.toArray Q i (wpList P ol.toArray Q (ol.drop (i + 1))) a w := by
      unfold wpOp
      simp only [hoi]
      unfold wpList at h
      exact h
    refine wpOp_mono (fun a' w' hq => ?_) h5
    refine ih (i + 1) f _ a' w' (by omega) (by omega) (by simpa using hsz) ?_ (by omega) hq
    intro j hj
    by_cases hji : j = i
    · subst hji
      simp [hsz, hlt]
    · rw [getD_set_ne false (Ne.symm hji), hl j hj]
      simp only [decide_eq_decide]
      omega

theorem draw_head (hlen : Φ.length = m) (hml : m ≤ ol.length) (hsl : slotsOk L Φ = true) (hback : backOk ol 0 ol = true) (htail : tailOk m 0 ol = true) (steps : DSteps P ol n L ds w0 Φ 0 (ol.take m))
    (k : ∀ σ w', Below w0.heap.size w0 w' → FcAll σ w0 w' Φ → wpList P ol.toArray Q (ol.drop m) (st n L σ ds) w') :
    ∀ (c fuel : Nat) (listed : Array Bool) (a : Act) (w : World), listed.size = ol.length → (∀ i, m ≤ i → listed.getD i false = false) → ((List.range m).filter fun i => !listed.getD i false).length = c →
      c + (ol.length - m) ≤ fuel → DJ n L ds w0 Φ listed a w → wpAny P .any ol.toArray Q fuel listed a w := by
  intro c
  induction c with
  | zero =>
    intro fuel listed a w hsz htl hc hfu hJ
    have hall : ∀ i, i < m → listed.getD i false = true := by
      intro i hi
      have h0 := List.length_eq_zero_iff.1 hc
      have := (List.filter_eq_nil_iff.1 h0) i (List.mem_range.2 hi)
      simpa using this
    obtain ⟨σ, rfl, hb, hf⟩ := hJ
    refine draw_tail hback htail (ol.length - m) m fuel listed _ w (by omega) (Nat.le_refl _) hsz (fun i hi => ?_) (by omega) (k σ w hb (FcAll_of Φ fun i hi => hf i hi (hall i (by omega))))
    rcases Nat.lt_or_ge i m with h | h
    · rw [hall i h]; simp [h]
    · rw [htl i h]; simp; omega
  | succ c ih =>
    intro fuel listed a w hsz htl hc hfu hJ
    obtain ⟨f, rfl⟩ : ∃ f, fuel = f + 1 := ⟨fuel - 1, by omega⟩
    have hsame : ∀ i, i < ol.length → listed.getD i true = listed.getD i false := fun i hi => by simp [hsz, hi]
    -- one that is not listed yet, the least
    have hex : ∃ i, i < m ∧ listed.getD i false = false := by
      have hne : ((List.range m).filter fun i => !listed.getD i false) ≠ [] := by intro e; rw [e] at hc; simp at hc
      obtain ⟨i, hi⟩ := List.exists_mem_of_ne_nil _ hne
      rw [List.mem_filter, List.mem_range] at hi
      exact ⟨i, hi.1, by simpa using hi.2⟩
    have hleast : ∃ i, i < m ∧ listed.getD i false = false ∧ ∀ j, j < i → listed.getD j false = true := by
      obtain ⟨i, hi, hu⟩ := hex
      induction i using Nat.strongRecOn with
      | ind i ihi =>
        by_cases hj : ∃ j, j < i ∧ listed.getD j false = false
        · obtain ⟨j, hj, hju⟩ := hj
          exact ihi j hj (by omega) hju
        · refine ⟨i, hi, hu, fun j hji => ?_⟩
          cases hjj : listed.getD j false
          · exact absurd ⟨j, hji, hjj⟩ hj
          · rfl
    obtain ⟨i0, hi0, hu0, hall0⟩ := hleast
    have hr0 : i0 ∈ Region.ready .any ol.toArray listed := ready_below hback (by omega) (by rw [hsame i0 (by omega)]; exact hu0) hall0
    refine ⟨fun h0 => (by rw [h0] at hr0; cases hr0), fun i hi => ?_⟩
    have him : i < m := by
      rcases Nat.lt_or_ge i m with h | h
      · exact h
      · obtain ⟨h1, o, ho, hall⟩ := mem_ready.1 hi
        have h4 := onDraw_listed (tailOk_get htail (i := i) (by simpa using ho) (by omega) i0 (by omega)) hall
        rw [hu0] at h4; cases h4
    have hiu : listed.getD i false = false := by
      obtain ⟨h1, _⟩ := mem_ready.1 hi
      rw [hsame i (by omega)] at h1; exact h1
    refine wpOp_mono (fun a' w' hq => ?_) (draw_step hlen hsl steps him hsz hml hJ hi fun o e ho he hb => by have := backOk_get hback ho e he hb; omega)
    refine ih f _ a' w' (by simpa using hsz) (fun j hj => by rw [getD_set_ne false (by omega)]; exact htl j hj) ?_ (by omega) hq
    have hcount : ∀ (l : List Nat), l.Nodup → i ∈ l → (l.filter fun j => !listed.getD j false).length = ((l.filter fun j => !(listed.setIfInBounds i true).getD j false).length) + 1 := by
      intro l
      induction l with
      | nil => intro _ h; cases h
      | cons x l ihl =>
        intro hn hmem
        simp only [List.nodup_cons] at hn
        by_cases hx : x = i
        · subst hx
          have h1 : (listed.setIfInBounds x true).getD x false = true := by
            have : x < listed.size := by omega
            simp [this]
          have h2 : (l.filter fun j => !listed.getD j false) = (l.filter fun j => !(listed.setIfInBounds x true).getD j false) := by
            apply List.filter_congr
            intro j hj
            rw [getD_set_ne false (fun e : x = j => hn.1 (by rw [e]; exact hj))]
          rw [List.filter_cons, List.filter_cons, h1, hiu, h2]
          simp
        · have hmem' : i ∈ l := by
            rcases List.mem_cons.1 hmem with h | h
            · exact absurd h.symm hx
            · exact h
          have := ihl hn.2 hmem'
          rw [List.filter_cons, List.filter_cons, getD_set_ne false (Ne.symm hx)]
          split
          · simp only [List.length_cons]; omega
          · exact this
    have := hcount (List.range m) List.nodup_range (List.mem_range.2 him)
    omega

/-- A region that draws its order. -/
theorem k_draw {id : Nat} {σ : Nat → Value} {w : World} (m : Nat) (Φ : List DF) (hm : P.follows .mixedOrders = true) (hlen : Φ.length = m) (hml : Nat.ble m ol.length = true) (hsl : slotsOk L Φ = true)
    (hback : backOk ol 0 ol = true) (htail : tailOk m 0 ol = true) (steps : DSteps P ol n L ds w Φ 0 (ol.take m))
    (k : ∀ σ w', Below w.heap.size w w' → FcAll σ w w' Φ → wpList P ol.toArray (Exit.then N Q) (ol.drop m) (st n L σ ds) w') :
    wk P (.region id ol.toArray true) N Q (st n L σ ds) w := by
  refine wp_region_any hm ?_
  have hml' : m ≤ ol.length := Nat.le_of_ble_eq_true hml
  have hfalse : ∀ i, (Array.replicate ol.length false).getD i false = false := by
    intro i
    by_cases h : i < ol.length
    · simp [h]
    · simp [h]
  have hsz : ol.toArray.size = ol.length := by simp
  rw [hsz]
  refine draw_head hlen hml' hsl hback htail steps k m ol.length _ _ _ (by simp) (fun i _ => hfalse i) ?_ (by omega) ⟨σ, rfl, ⟨rfl, rfl, rfl, Nat.le_refl _, fun _ _ => rfl⟩, fun i _ h => by rw [hfalse] at h; cases h⟩
  rw [List.filter_eq_self.2 (fun i _ => by rw [hfalse]; rfl)]
  simp
end
theorem k_drawn {P : Program} {ol : List Oper} {n : Nat} {ds : List Deferred} {N : Act → World → Prop} {Q : Exit → Act → World → Prop} {L0 : Env} {σ0 : Nat → Value} {id : Nat} {w : World} (L : Env) (m : Nat) (Φ : List DF) (hL : AllEq L (ov L0 σ0))
    (hm : P.follows .mixedOrders = true) (hlen : Φ.length = m) (hml : Nat.ble m ol.length = true) (hsl : slotsOk L Φ = true)
    (hback : backOk ol 0 ol = true) (htail : tailOk m 0 ol = true) (steps : DSteps P ol n L ds w Φ 0 (ol.take m))
    (k : ∀ σ w', Below w.heap.size w w' → FcAll σ w w' Φ → wpList P ol.toArray (Exit.then N Q) (ol.drop m) (st n L σ ds) w') :
    wk P (.region id ol.toArray true) N Q (st n L0 σ0 ds) w := by
  rw [seenF hL]
  exact k_draw m Φ hm hlen hml hsl hback htail steps k
theorem seenR {P : Program} {ops : Array Oper} {Q : Exit → Act → World → Prop} {l : List Oper} {n : Nat} {L : Env} {σ : Nat → Value} {ds : List Deferred} {w : World} (L' : Env) (h : AllEq L' (ov L σ))
    (k : wpList P ops Q l (st n L' (ov L σ) ds) w) : wpList P ops Q l (st n L σ ds) w := by
  rw [seenF h]; exact k
theorem Fresh.up {w0 w w' : World} {X : Rsc} (h : Fresh w0 w X) (hb : Below w.heap.size w w') : Fresh w0 w' X :=
  ⟨fun p hp => ⟨(h.at_ p hp).1, (hb.block _ (hlt (h.at_ p hp).2)).trans (h.at_ p hp).2⟩, h.nodup⟩
theorem Fresh.back {w0 w w' : World} {X : Rsc} (h : Fresh w w' X) (hb : Below w0.heap.size w0 w) : Fresh w0 w' X :=
  ⟨fun p hp => ⟨Nat.le_trans hb.size (h.at_ p hp).1, (h.at_ p hp).2⟩, h.nodup⟩
theorem CellsAt.up {w w' : World} {a : Addr} {vs : List Value} (h : CellsAt w a vs) (hb : Below w.heap.size w w') : CellsAt w' a vs := by
  intro j u hu
  have hc := h j u hu
  rw [World.cell?_of_block (w := w) (hb.block _ (World.block_lt_of_cell? w _ hc))]
  exact hc

/-! ### '==' of structs of plain fields -/
def Qf (P : Program) (xs ys : Array Value) (fs : List Field) (r : Bool) : Prop := ∀ d w, (Op.eqFields (d + 1) xs ys fs).run P w = .ok r w
section
variable {P : Program} {xs ys : Array Value} {f : Field} {fs : List Field} {a b : Value} {r s : Bool} {w : World}
theorem q_nil : Qf P xs ys [] true := fun d w => by simp [Op.eqFields]
theorem part_one {t : TypeId} {u : TypeDesc} {i : Nat} {cs : Array Value} {v : Value} (hu : P.underlying t = some u) (h : cs[i]? = some v) (hs : (∀ fs, u ≠ .struct fs) ∧ (∀ n e, u ≠ .array n e)) :
    (part t cs i).run P w = .ok v w := by
  have ha : (isAgg t).run P w = .ok false w := by
    cases u <;> first | (simp [isAgg, run_underlying hu]; done) | exact absurd rfl (hs.1 _) | exact absurd rfl (hs.2 _ _)
  unfold part
  rw [Sem.run_bind, ha, Result.andThen_ok]
  simp [h]
def QE (P : Program) (t : TypeId) (a b : Value) (r : Bool) : Prop := (∃ u, P.underlying t = some u ∧ (∀ fs, u ≠ .struct fs) ∧ (∀ n e, u ≠ .array n e)) ∧ ∀ d w, (Op.equalIn (d + 1) t a b).run P w = .ok r w
theorem q_int {t : TypeId} {k k' : IntKind} {a b : Int} (h : P.underlying t = some (.int k')) : QE P t (.int k a) (.int k b) (a == b) := ⟨⟨_, h, (by intro _ h; cases h), (by intro _ _ h; cases h)⟩, fun d w => run_equalIn_int w d t k k' a b h⟩
theorem q_bool {t : TypeId} {a b : Bool} (h : P.underlying t = some .bool) : QE P t (.bool a) (.bool b) (a == b) := ⟨⟨_, h, (by intro _ h; cases h), (by intro _ _ h; cases h)⟩, fun d w => run_equalIn_bool' w d t a b h⟩
theorem q_str {t : TypeId} {a b : ByteArray} (h : P.underlying t = some .string) : QE P t (.string a) (.string b) (a.toList == b.toList) := ⟨⟨_, h, (by intro _ h; cases h), (by intro _ _ h; cases h)⟩, fun d w => run_equalIn_string w d t a b h⟩
theorem q_cons (hn : (f.name == "_") = false) (ha : xs[f.offset]? = some a) (hb : ys[f.offset]? = some b) (he : QE P f.type a b r) (hr : Qf P xs ys fs s) : Qf P xs ys (f :: fs) (r && s) := fun d w => by
  obtain ⟨⟨u, hu, hs⟩, hq⟩ := he
  have hn' : f.name ≠ "_" := by simpa using hn
  rw [Op.eqFields]
  simp only [if_pos hn', Sem.run_bind, part_one hu ha hs, part_one hu hb hs, hq, Result.andThen_ok]
  cases r
  · simp
  · simpa using hr d w
theorem r_eqs {xt : TypeId} {fs : List Field} {x y : Operand} (hu : P.underlying xt = some (.struct fs.toArray)) (hp : P.stoodInHeld xt = false) (hm : P.eqGuardType P.depth xt = false) (h : Qf P xs ys fs r) :
    (do eqGuard .eql xt x y (.agg xs) (.agg ys); binOp .eql xt (.agg xs) (.agg ys) : Sem Value).run P w = .ok (.bool r) w := by
  rw [Sem.run_bind, run_eqGuard_agg w _ _ _ _ _ _ hm, Result.andThen_ok, run_eql_struct]
  have hf : P.fieldsOf xt = fs.toArray := by simp [Program.fieldsOf, hu]
  rw [run_equalIn_struct (P := P) w 9999 xt xs ys (by rw [hf]; exact hu) hp, hf]
  rw [show fs.toArray.toList = fs by simp, h 9998 w, Result.andThen_ok]
theorem r_nes {xt : TypeId} {fs : List Field} {x y : Operand} (hu : P.underlying xt = some (.struct fs.toArray)) (hp : P.stoodInHeld xt = false) (hm : P.eqGuardType P.depth xt = false) (h : Qf P xs ys fs r) :
    (do eqGuard .neq xt x y (.agg xs) (.agg ys); binOp .neq xt (.agg xs) (.agg ys) : Sem Value).run P w = .ok (.bool (!r)) w := by
  rw [Sem.run_bind, run_eqGuard_agg w _ _ _ _ _ _ hm, Result.andThen_ok, run_neq_struct]
  have hf : P.fieldsOf xt = fs.toArray := by simp [Program.fieldsOf, hu]
  rw [run_equalIn_struct (P := P) w 9999 xt xs ys (by rw [hf]; exact hu) hp, hf]
  rw [show fs.toArray.toList = fs by simp, h 9998 w, Result.andThen_ok]
end
theorem RdS.any {α : Type} {E : Enc α} {F : Nat → Prop} {w : World} {A : Option Addr} {c : Nat} {xs : List α} (h : RdS E F w A c xs) : RdS E (fun _ => True) w A c xs := h.move (fun _ _ => rfl) fun _ _ => trivial
end Go.Proofs.Ytallojficgiemaa.B
