/- LE: several texts in one. -/
import Derived.Test.YtbdbmklkgjbehaaLD
import Derived.Laws.Externs
import Derived.Test.YtbdbmklkgjbehaaLB
set_option linter.unusedVariables false
set_option linter.unusedSimpArgs false
set_option linter.unusedSectionVars false
namespace Go.Proofs.Ytbdbmklkgjbehaa.X
open Go Go.RowKit Go.Proofs.Ytbdbmklkgjbehaa.B

theorem upC_at {C C' : Nat → AO} : ∀ {u : List (Nat × AO)} {h : Nat}, (C h = C' h ∨ ∃ p ∈ u, p.1 = h) → upC C u h = upC C' u h
  | [], h, k => by
    rcases k with k | ⟨p, hp, _⟩
    · exact k
    · simp at hp
  | p :: r, h, k => by
    simp only [upC]
    refine upC_at ?_
    by_cases e : p.1 = h
    · subst e; left; simp [Nat.beq_refl]
    · rcases k with k | ⟨q, hq, hqe⟩
      · left
        have : Nat.beq h p.1 = false := by
          cases hb : Nat.beq h p.1
          · rfl
          · exact absurd (Nat.eq_of_beq_eq_true hb).symm e
        simp [this, k]
      · rcases List.mem_cons.1 hq with rfl | hq
        · exact absurd hqe e
        · exact .inr ⟨q, hq, hqe⟩
structure Ent where
  o : Oper
  L : Fr
  H : List AO
  A : List (List AV)
  E : Ef
  sk : Bool
def guardSlot (ops : Array Oper) (o : Oper) : Option Tmp := match o.guard with
  | some (j, _) => (ops[j]?).bind (·.dst)
  | none => none
structure EntOk (P : Program) (ops : Array Oper) (e : Ent) : Prop where
  ok : e.sk = false → (∀ j want, e.o.guard = some (j, want) → ∃ d, guardSlot ops e.o = some d ∧ lk e.L d = some (.v (.bool want))) ∧ Sim P e.o e.L e.H e.A e.E
  no : e.sk = true → ∃ j want d x, e.o.guard = some (j, want) ∧ guardSlot ops e.o = some d ∧ lk e.L d = some (.v x) ∧ x ≠ .bool want ∧ e.E = ⟨.v undef, [], none, [], false⟩
structure Chain (P : Program) (ops : Array Oper) (g : Nat → Ent) (n : Nat) : Prop where
  op : ∀ i, i < n → ops[i]? = some (g i).o
  ok : ∀ i, i < n → EntOk P ops (g i)
  L : ∀ i, i < n → ∀ t, lk (g (i + 1)).L t = if (g i).o.dst = some t then some (g i).E.val else lk (g i).L t
  H : ∀ i, i < n → ∀ h, hget (g (i + 1)).H h = upC (hget (g i).H) (g i).E.upd h
  len : ∀ i, i < n → (g i).H.length ≤ (g (i + 1)).H.length
  new : ∀ i, i < n → ∀ p ∈ (g i).E.upd, p.1 < (g (i + 1)).H.length
  A : ∀ i, i < n → (g (i + 1)).A = (g i).E.ar.getD (g i).A
section
variable {P : Program} {ops : Array Oper} {g : Nat → Ent} {n : Nat}
abbrev Dn := Nat → Bool
def Cd (g : Nat → Ent) (D : Dn) : Nat → Nat → AO
  | 0 => hget (g 0).H
  | m + 1 => fun h => bif D m then upC (Cd g D m) (g m).E.upd h else Cd g D m h
def Ld (g : Nat → Ent) (D : Dn) : Nat → Nat → Option AV
  | 0 => lk (g 0).L
  | m + 1 => fun t => bif D m then (if (g m).o.dst = some t then some (g m).E.val else Ld g D m t) else Ld g D m t
def Ad (g : Nat → Ent) (D : Dn) : Nat → List (List AV)
  | 0 => (g 0).A
  | m + 1 => bif D m then (g m).E.ar.getD (Ad g D m) else Ad g D m
theorem Cd_frame {D D' : Dn} {h : Nat} : ∀ {m : Nat}, (∀ i, i < m → (∃ p ∈ (g i).E.upd, p.1 = h) → D i = D' i) → Cd g D m h = Cd g D' m h
  | 0, _ => rfl
  | m + 1, k => by
    have ih := Cd_frame (m := m) fun i hi => k i (by omega)
    simp only [Cd]
    by_cases hp : ∃ p ∈ (g m).E.upd, p.1 = h
    · rw [k m (by omega) hp]
      cases D' m
      · exact ih
      · exact upC_at (.inl ih)
    · have ho : ∀ p ∈ (g m).E.upd, p.1 ≠ h := fun p hp' e => hp ⟨p, hp', e⟩
      cases D m <;> cases D' m <;> simp [upC_out ho, ih]
theorem Ld_frame {D D' : Dn} {t : Nat} : ∀ {m : Nat}, (∀ i, i < m → (g i).o.dst = some t → D i = D' i) → Ld g D m t = Ld g D' m t
  | 0, _ => rfl
  | m + 1, k => by
    have ih := Ld_frame (m := m) fun i hi => k i (by omega)
    simp only [Ld]
    by_cases hp : (g m).o.dst = some t
    · rw [k m (by omega) hp]
      cases D' m <;> simp [hp, ih]
    · cases D m <;> cases D' m <;> simp [hp, ih]
theorem Ad_frame {D D' : Dn} : ∀ {m : Nat}, (∀ i, i < m → (g i).E.ar ≠ none → D i = D' i) → Ad g D m = Ad g D' m
  | 0, _ => rfl
  | m + 1, k => by
    have ih := Ad_frame (m := m) fun i hi => k i (by omega)
    simp only [Ad]
    by_cases hp : (g m).E.ar = none
    · cases D m <;> cases D' m <;> simp [hp, ih]
    · rw [k m (by omega) hp, ih]
def lt_ (j : Nat) : Dn := fun i => Nat.blt i j
theorem lt_iff {i j : Nat} : lt_ j i = true ↔ i < j := ⟨fun h => blt h, fun h => Nat.ble_eq_true_of_le (show i + 1 ≤ j from h)⟩
theorem lt_eq {i j : Nat} {b : Bool} (h : b = true ↔ i < j) : b = lt_ j i := by
  cases b <;> cases hl : lt_ j i <;> first | rfl | skip
  · exact absurd (lt_iff.1 hl) (fun hh => by have := h.2 hh; cases this)
  · exact absurd (h.1 rfl) (fun hh => by rw [lt_iff.2 hh] at hl; cases hl)
theorem Cd_lt (c : Chain P ops g n) {j : Nat} (hj : j ≤ n) : ∀ m, j ≤ m → m ≤ n → ∀ h, Cd g (lt_ j) m h = hget (g j).H h := by
  have low : ∀ m, m ≤ j → ∀ h, Cd g (lt_ j) m h = hget (g m).H h := by
    intro m
    induction m with
    | zero => intro _ h; rfl
    | succ m ih =>
      intro hm h
      simp only [Cd]
      rw [lt_iff.2 (by omega), c.H m (by omega)]
      exact upC_at (.inl (ih (by omega) h))
  intro m
  induction m with
  | zero =>
    intro h1 _ h
    have e : j = 0 := by omega
    subst e
    exact low 0 h1 h
  | succ m ih =>
    intro h1 h2 h
    by_cases e : j = m + 1
    · subst e; exact low (m + 1) (Nat.le_refl _) h
    · simp only [Cd]
      have : lt_ j m = false := by
        cases hl : lt_ j m
        · rfl
        · have := lt_iff.1 hl; omega
      rw [this]
      exact ih (by omega) (by omega) h
theorem Ld_lt (c : Chain P ops g n) {j : Nat} (hj : j ≤ n) : ∀ m, j ≤ m → m ≤ n → ∀ t, Ld g (lt_ j) m t = lk (g j).L t := by
  have low : ∀ m, m ≤ j → ∀ t, Ld g (lt_ j) m t = lk (g m).L t := by
    intro m
    induction m with
    | zero => intro _ t; rfl
    | succ m ih =>
      intro hm t
      simp only [Ld]
      rw [lt_iff.2 (by omega), c.L m (by omega), ih (by omega)]
      rfl
  intro m
  induction m with
  | zero =>
    intro h1 _ t
    have e : j = 0 := by omega
    subst e
    exact low 0 h1 t
  | succ m ih =>
    intro h1 h2 t
    by_cases e : j = m + 1
    · subst e; exact low (m + 1) (Nat.le_refl _) t
    · simp only [Ld]
      have : lt_ j m = false := by
        cases hl : lt_ j m
        · rfl
        · have := lt_iff.1 hl; omega
      rw [this]
      exact ih (by omega) (by omega) t
theorem Ad_lt (c : Chain P ops g n) {j : Nat} (hj : j ≤ n) : ∀ m, j ≤ m → m ≤ n → Ad g (lt_ j) m = (g j).A := by
  have low : ∀ m, m ≤ j → Ad g (lt_ j) m = (g m).A := by
    intro m
    induction m with
    | zero => intro _; rfl
    | succ m ih =>
      intro hm
      simp only [Ad]
      rw [lt_iff.2 (by omega), c.A m (by omega), ih (by omega)]
      rfl
  intro m
  induction m with
  | zero =>
    intro h1 _
    have e : j = 0 := by omega
    subst e
    exact low 0 h1
  | succ m ih =>
    intro h1 h2
    by_cases e : j = m + 1
    · subst e; exact low (m + 1) (Nat.le_refl _)
    · simp only [Ad]
      have : lt_ j m = false := by
        cases hl : lt_ j m
        · rfl
        · have := lt_iff.1 hl; omega
      rw [this]
      exact ih (by omega) (by omega)

def Conf (ops : Array Oper) (x y : Ent) : Prop :=
  (∃ p ∈ x.E.upd, p.1 ∈ y.E.fp ∨ ∃ r ∈ y.E.upd, r.1 = p.1) ∨ (x.E.ar ≠ none ∧ (y.E.fa = true ∨ y.E.ar ≠ none)) ∨
  (∃ d, x.o.dst = some d ∧ (y.o.dst = some d ∨ Operand.tmp d ∈ y.o.op.operands.toList ∨ guardSlot ops y.o = some d))
structure Inv (g : Nat → Ent) (n N : Nat) (ds : List Deferred) (s0 : Ms) (w0 : World) (D : Dn) (s : Ms) (w : World) (a : Act) : Prop where
  wd : Wd s w
  stp : Stp s0 w0 s w
  C : ∀ h, s.C h = Cd g D n h
  A : s.A = Ad g D n
  L : ∀ t x, Ld g D n t = some x → V s x (a.tmps.getD t undef)
  new : ∀ i, i < n → D i = false → ∀ p ∈ (g i).E.upd, (g i).H.length ≤ p.1 → s.ρ p.1 = .unborn
  b : Born s (g n).H
  size : a.tmps.size = N
  defers : a.defers = ds
theorem eval_tmp (a : Act) (t : Nat) : a.eval (.tmp t) = a.tmps.getD t undef := rfl
theorem put_getD {a : Act} {d : Option Tmp} {v : Value} {t : Nat} (hN : ∀ x, d = some x → x < a.tmps.size) : (a.put d v).tmps.getD t undef = if d = some t then v else a.tmps.getD t undef := by
  cases d with
  | none => simp [Act.put]
  | some x =>
    have := hN x rfl
    simp only [Act.put, Option.some.injEq]
    by_cases e : x = t
    · subst e; simp [this]
    · rw [if_neg e]
      simp only [Array.getD_eq_getD_getElem?]
      rw [Array.getElem?_setIfInBounds_ne e]
theorem put_defers (a : Act) (d : Option Tmp) (v : Value) : (a.put d v).defers = a.defers := by cases d <;> rfl
theorem put_size (a : Act) (d : Option Tmp) (v : Value) : (a.put d v).tmps.size = a.tmps.size := by cases d <;> simp [Act.put]
structure Same (ops : Array Oper) (g : Nat → Ent) (n : Nat) (D : Dn) (i : Nat) : Prop where
  lo : ∀ k, k < i → Conf ops (g k) (g i) → D k = true
  hi : ∀ k, i < k → k < n → Conf ops (g k) (g i) → D k = false
  me : D i = false
theorem tmps_bool {a : Act} {t : Tmp} {b : Bool} (h : a.tmps.getD t undef = .bool b) : a.tmps[t]? = some (.bool b) := by
  simp only [Array.getD_eq_getD_getElem?] at h
  cases hq : a.tmps[t]? with
  | none => rw [hq] at h; cases h
  | some v => rw [hq] at h; exact congrArg some h
theorem guard_slot {o : Oper} {d : Tmp} {j : Nat} {want : Bool} (hg : o.guard = some (j, want)) (h : guardSlot ops o = some d) : (ops[j]?).bind (·.dst) = some d := by simpa [guardSlot, hg] using h
theorem step_inv {N : Nat} {ds : List Deferred} {s0 s : Ms} {w0 w : World} {a : Act} {D : Dn} {i : Nat} {Q : Exit → Act → World → Prop} {K : Act → World → Prop} (c : Chain P ops g n) (hi : i < n) (I : Inv g n N ds s0 w0 D s w a) (hs : Same ops g n D i)
    (hN : ∀ d, (g i).o.dst = some d → d < N)
    (k : ∀ s' w' a', Inv g n N ds s0 w0 (fun m => D m || Nat.beq m i) s' w' a' → K a' w') : wpOp P ops Q i K a w := by
  have hlo : ∀ m, m < n → Conf ops (g m) (g i) → D m = lt_ i m := by
    intro m hm hc
    refine lt_eq ⟨fun hd => ?_, fun hl => hs.lo m hl hc⟩
    rcases Nat.lt_trichotomy m i with h | h | h
    · exact h
    · subst h; rw [hs.me] at hd; cases hd
    · rw [hs.hi m h hm hc] at hd; cases hd
  have sC : ∀ h, h ∈ (g i).E.fp ∨ (∃ p ∈ (g i).E.upd, p.1 = h) → s.C h = hget (g i).H h := by
    intro h hh
    rw [I.C h, ← Cd_lt c (Nat.le_of_lt hi) n (Nat.le_of_lt hi) (Nat.le_refl _) h]
    refine Cd_frame fun m hm ⟨p, hp, e⟩ => hlo m hm (.inl ⟨p, hp, ?_⟩)
    rcases hh with hh | ⟨r, hr, hre⟩
    · exact .inl (by rw [e]; exact hh)
    · exact .inr ⟨r, hr, by rw [hre, e]⟩
  have sL : ∀ t x, (Operand.tmp t ∈ (g i).o.op.operands.toList ∨ guardSlot ops (g i).o = some t) → lk (g i).L t = some x → V s x (a.tmps.getD t undef) := by
    intro t x ht hx
    refine I.L t x ?_
    rw [← hx, ← Ld_lt c (Nat.le_of_lt hi) n (Nat.le_of_lt hi) (Nat.le_refl _) t]
    exact Ld_frame fun m hm hd => hlo m hm (.inr (.inr ⟨t, hd, .inr ht⟩))
  have sA : (g i).E.fa = true ∨ (g i).E.ar ≠ none → s.A = (g i).A := by
    intro ha
    rw [I.A, ← Ad_lt c (Nat.le_of_lt hi) n (Nat.le_of_lt hi) (Nat.le_refl _)]
    exact Ad_frame fun m hm hd => hlo m hm (.inr (.inl ⟨hd, ha⟩))
  have hpre : Pre s w (g i).L (g i).H (g i).A (g i).o a (g i).E := by
    refine ⟨I.wd, fun x hx y hy => ?_, fun h hh => sC h (.inl hh), fun p hp => ⟨fun _ => sC p.1 (.inr ⟨p, hp, rfl⟩), fun hl => I.new i hi hs.me p hp hl⟩, sA⟩
    cases x with
    | tmp t => exact sL t y (.inl hx) hy
    | const v => simp only [rdx, Option.some.injEq] at hy; subst hy; exact .im (cst_ok _ v)
    | func f => simp only [rdx, Option.some.injEq] at hy; subst hy; exact .fn (gf := []) (gc := []) rfl rfl (fun j y g a => by simp at a) (fun j y g a => by simp at a)
    | global _ => cases hy
  -- what is known behind it
  have post : ∀ s' w' g', Post s w (g i).E s' w' g' → K (a.put (g i).o.dst g') w' := by
    intro s' w' g' hp
    refine k s' w' _ ?_
    have hDi : ∀ m, m ≠ i → (D m || Nat.beq m i) = D m := fun m hm => by
      have : Nat.beq m i = false := by
        cases hb : Nat.beq m i
        · rfl
        · exact absurd (Nat.eq_of_beq_eq_true hb) hm
      simp [this]
    have hDi' : (D i || Nat.beq i i) = true := by simp [Nat.beq_refl]
    have up1 : ∀ m, m < n → (m ≠ i → Conf ops (g m) (g i)) → (D m || Nat.beq m i) = lt_ (i + 1) m := by
      intro m hm hc
      by_cases hne : m = i
      · subst hne
        rw [hDi', lt_iff.2 (Nat.lt_succ_self _)]
      · rw [hDi m hne]
        refine lt_eq ⟨fun hd => ?_, fun hl => hs.lo m (by omega) (hc hne)⟩
        rcases Nat.lt_trichotomy m i with h | h | h
        · omega
        · exact absurd h hne
        · rw [hs.hi m h hm (hc hne)] at hd; cases hd
    have hlen : ∀ m, i + 1 ≤ m → m ≤ n → (g (i + 1)).H.length ≤ (g m).H.length := by
      intro m
      induction m with
      | zero => intro h; omega
      | succ m ih =>
        intro h1 h2
        by_cases e : i + 1 = m + 1
        · rw [e]; exact Nat.le_refl _
        · exact Nat.le_trans (ih (by omega) (by omega)) (c.len m (by omega))
    refine ⟨hp.wd, I.stp.trans hp.stp, fun h => ?_, ?_, fun t x hx => ?_, fun m hm hDm p hpm hl => ?_, fun h hh => ?_, (put_size _ _ _).trans I.size, (put_defers _ _ _).trans I.defers⟩
    · rw [hp.C h]
      by_cases hw : ∃ p ∈ (g i).E.upd, p.1 = h
      · rw [upC_at (C' := hget (g i).H) (.inr hw), ← c.H i hi h, ← Cd_lt c (j := i + 1) (by omega) n (by omega) (Nat.le_refl _) h]
        refine (Cd_frame fun m hm ⟨p, hpp, e⟩ => up1 m hm fun _ => .inl ⟨p, hpp, .inr ?_⟩).symm
        obtain ⟨r, hr, hre⟩ := hw
        exact ⟨r, hr, by rw [hre, e]⟩
      · rw [upC_out (fun p hp e => hw ⟨p, hp, e⟩), I.C h]
        refine Cd_frame fun m hm hwm => (hDi m ?_).symm
        rintro rfl; exact hw hwm
    · rw [hp.A]
      cases har : (g i).E.ar with
      | none =>
        simp only [Option.getD_none]
        rw [I.A]
        refine Ad_frame fun m hm hwm => (hDi m ?_).symm
        rintro rfl; exact hwm har
      | some B =>
        have hne : (g i).E.ar ≠ none := by rw [har]; simp
        have e1 : Ad g (fun m => D m || Nat.beq m i) n = Ad g (lt_ (i + 1)) n := Ad_frame fun m hm hwm => up1 m hm fun _ => .inr (.inl ⟨hwm, .inr hne⟩)
        rw [e1, Ad_lt c (j := i + 1) (by omega) n (by omega) (Nat.le_refl _), c.A i hi, har]
        rfl
    · rw [put_getD (fun d hd => by rw [I.size]; exact hN d hd)]
      by_cases hd : (g i).o.dst = some t
      · rw [if_pos hd]
        have e1 : Ld g (fun m => D m || Nat.beq m i) n t = Ld g (lt_ (i + 1)) n t := Ld_frame fun m hm hwm => up1 m hm fun _ => .inr (.inr ⟨t, hwm, .inl hd⟩)
        rw [e1, Ld_lt c (j := i + 1) (by omega) n (by omega) (Nat.le_refl _), c.L i hi, if_pos hd] at hx
        cases hx
        exact hp.val
      · rw [if_neg hd]
        refine (I.L t x ?_).mono hp.stp.le
        rw [← hx]
        refine Ld_frame fun m hm hwm => (hDi m ?_).symm
        rintro rfl; exact hd hwm
    · have hmi : m ≠ i := by rintro rfl; rw [hDi'] at hDm; cases hDm
      rw [hDi m hmi] at hDm
      rw [hp.ρ p.1 fun r hr e => ?_]
      · exact I.new m hm hDm p hpm hl
      · rcases Nat.lt_trichotomy m i with h | h | h
        · have := hs.lo m h (.inl ⟨p, hpm, .inr ⟨r, hr, e⟩⟩)
          rw [this] at hDm; cases hDm
        · exact hmi h
        · have h1 := c.new i hi r hr
          have h2 := hlen m (by omega) (by omega)
          omega
    · rw [hp.ρ h fun r hr e => ?_]
      · exact I.b h hh
      · have h1 := c.new i hi r hr
        have h2 := hlen n (by omega) (Nat.le_refl _)
        omega
  unfold wpOp
  rw [c.op i hi]
  simp only
  have hok := c.ok i hi
  cases hsk : (g i).sk
  · obtain ⟨h1, h2⟩ := hok.ok hsk
    have hw : Region.wanted (g i).o (yielded ops a.tmps) = true := by
      cases hg : (g i).o.guard with
      | none => simp [Region.wanted, hg]
      | some q =>
        obtain ⟨j, want⟩ := q
        obtain ⟨d, hd, hl⟩ := h1 j want hg
        have hv := tmps_bool (sL d _ (.inr hd) hl).vE
        simp [Region.wanted, hg, yielded, guard_slot hg hd, hv]
    rw [hw]
    simp only [if_true]
    exact .inl (h2 s w a hpre K Q post)
  · obtain ⟨j, want, d, x, hg, hd, hl, hx, hE⟩ := hok.no hsk
    have hw : Region.wanted (g i).o (yielded ops a.tmps) = false := by
      have hv := (sL d _ (.inr hd) hl).vE
      have hy : yielded ops a.tmps j ≠ some want := by
        unfold yielded
        rw [guard_slot hg hd]
        simp only [Option.bind_some]
        cases hq : a.tmps[d]? with
        | none => simp
        | some v =>
          have : v = x := by rw [Array.getD_eq_getD_getElem?, hq] at hv; exact hv
          subst this
          cases v <;> simp_all
      simp [Region.wanted, hg, hy]
    rw [hw]
    simp only [Bool.false_eq_true, if_false]
    refine post s w undef ?_
    rw [hE]
    exact .pure I.wd (.im (.v _))

def preds (ops : List Oper) : List (List Nat) := go ops []
where
  go : List Oper → List (List Nat) → List (List Nat)
  | [], acc => acc
  | o :: r, acc =>
    let d := (o.after.toList.filter (Region.binds .any)).map (·.on)
    go r (acc ++ [d ++ d.flatMap fun k => acc.getD k []])
def backB (ops : List Oper) : Bool := go 0 ops
where
  go : Nat → List Oper → Bool
  | _, [] => true
  | i, o :: r => (o.after.toList.all fun e => !(Region.binds .any e) || Nat.blt e.on i) && go (i + 1) r
theorem backB_go : ∀ {l : List Oper} {j i : Nat} {o : Oper} {e : Edge}, backB.go j l = true → l[i]? = some o → e ∈ o.after.toList → Region.binds .any e = true → e.on < j + i
  | [], j, i, o, e, _, h, _, _ => by simp at h
  | x :: r, j, 0, o, e, h, ho, he, hb => by
    simp at ho; subst ho
    simp only [backB.go, Bool.and_eq_true] at h
    have := List.all_eq_true.1 h.1 e he
    rw [hb] at this
    simpa using blt (by simpa using this)
  | x :: r, j, i + 1, o, e, h, ho, he, hb => by
    simp only [backB.go, Bool.and_eq_true] at h
    have := backB_go h.2 (by simpa using ho) he hb
    omega
def Down (ops : List Oper) (D : Dn) : Prop := ∀ i o e, ops[i]? = some o → D i = true → e ∈ o.after.toList → Region.binds .any e = true → D e.on = true
theorem preds_go {ops : List Oper} {D : Dn} (hd : Down ops D) : ∀ {l : List Oper} {acc : List (List Nat)} {pre : List Oper}, ops = pre ++ l → acc.length = pre.length →
    (∀ i k, k ∈ acc.getD i [] → D i = true → D k = true) → (∀ i k, (∀ o e, ops[i]? = some o → e ∈ o.after.toList → Region.binds .any e = true → D e.on = true) → k ∈ (preds.go l acc).getD i [] → acc.length ≤ i → D k = true) ∧
    (∀ i, i < acc.length → (preds.go l acc).getD i [] = acc.getD i [])
  | [], acc, pre, he, hl, h => by
    refine ⟨fun i k _ hk hi => ?_, fun i hi => rfl⟩
    simp [preds.go, List.getD, List.getElem?_eq_none hi] at hk
  | o :: r, acc, pre, he, hl, h => by
    have hopsi : ops[acc.length]? = some o := by rw [he, hl]; simp
    let d := (o.after.toList.filter (Region.binds .any)).map (·.on)
    have hdk : ∀ x ∈ d, ∃ e ∈ o.after.toList, Region.binds .any e = true ∧ e.on = x := by
      intro x hx
      obtain ⟨e, h1, h2⟩ := List.mem_map.1 hx
      obtain ⟨h3, h4⟩ := List.mem_filter.1 h1
      exact ⟨e, h3, h4, h2⟩
    have main : ∀ k, (∀ o' e, ops[acc.length]? = some o' → e ∈ o'.after.toList → Region.binds .any e = true → D e.on = true) → k ∈ d ++ d.flatMap (fun k => acc.getD k []) → D k = true := by
      intro k hk1 hk
      rcases List.mem_append.1 hk with hk | hk
      · obtain ⟨e, h1, h2, rfl⟩ := hdk k hk
        exact hk1 o e hopsi h1 h2
      · obtain ⟨x, hx, hkx⟩ := List.mem_flatMap.1 hk
        obtain ⟨e, h1, h2, rfl⟩ := hdk x hx
        exact h _ k hkx (hk1 o e hopsi h1 h2)
    have ih := preds_go hd (l := r) (acc := acc ++ [d ++ d.flatMap fun k => acc.getD k []]) (pre := pre ++ [o]) (by simp [he]) (by simp [hl]) (by
      intro i k hk hDi
      by_cases hi : i < acc.length
      · refine h i k ?_ hDi
        simpa [List.getD, List.getElem?_append_left hi] using hk
      · by_cases hi2 : i = acc.length
        · subst hi2
          refine main k (fun o' e ho' he' hb => hd _ o' e ho' hDi he' hb) ?_
          simpa [List.getD] using hk
        · have : (acc ++ [d ++ d.flatMap fun k => acc.getD k []])[i]? = none := List.getElem?_eq_none (by simp; omega)
          rw [List.getD, this] at hk
          simp at hk)
    refine ⟨fun i k hk1 hk hi => ?_, fun i hi => ?_⟩
    · by_cases hi2 : i = acc.length
      · subst hi2
        have e := ih.2 acc.length (by simp)
        simp only [preds.go] at hk
        rw [e] at hk
        exact main k hk1 (by simpa [List.getD] using hk)
      · exact ih.1 i k hk1 hk (by simp; omega)
    · have e := ih.2 i (by simp; omega)
      simp only [preds.go]
      rw [e]
      simp [List.getD, List.getElem?_append_left hi]
def Kept (ops : List Oper) (g : Nat → Ent) (n : Nat) : Prop := ∀ i j, i < j → j < n → (Conf ops.toArray (g i) (g j) ∨ Conf ops.toArray (g j) (g i)) → i ∈ (preds ops).getD j []
theorem same_of {ol : List Oper} {D : Dn} {i : Nat} (hk : Kept ol g n) (hi : i < n) (hd : Down ol D) (hr : ∀ o e, ol[i]? = some o → e ∈ o.after.toList → Region.binds .any e = true → D e.on = true) (hDi : D i = false) : Same ol.toArray g n D i := by
  have hp := (preds_go hd (l := ol) (acc := []) (pre := []) rfl rfl (fun i k h => by simp [List.getD] at h)).1
  refine ⟨fun k hki hc => hp i k hr (hk k i hki hi (.inl hc)) (Nat.zero_le _), fun k hik hkn hc => ?_, hDi⟩
  cases hDk : D k with
  | false => rfl
  | true =>
    have := hp k i (fun o e ho he hb => hd k o e ho hDk he hb) (hk i k hik hkn (.inr hc)) (Nat.zero_le _)
    rw [this] at hDi; cases hDi
theorem region_list {N : Nat} {ds : List Deferred} {s0 s : Ms} {w0 w : World} {a : Act} {Q : Exit → Act → World → Prop} {rest : List Nat} (c : Chain P ops g n) (hN : ∀ i, i < n → ∀ d, (g i).o.dst = some d → d < N) (I : Inv g n N ds s0 w0 (lt_ 0) s w a)
    (k : ∀ s' w' a', Inv g n N ds s0 w0 (lt_ n) s' w' a' → wpOps P ops Q rest a' w') : wpOps P ops Q (List.range n ++ rest) a w := by
  have main : ∀ m i, i + m = n → ∀ s w a, Inv g n N ds s0 w0 (lt_ i) s w a → wpOps P ops Q (List.range' i m ++ rest) a w := by
    intro m
    induction m with
    | zero =>
      intro i hi s w a I
      have : i = n := by omega
      subst this
      exact k s w a I
    | succ m ih =>
      intro i hi s w a I
      rw [List.range'_succ, List.cons_append, wpOps_cons]
      refine step_inv c (by omega) I ⟨fun k hk _ => lt_iff.2 hk, fun k hk _ _ => ?_, ?_⟩ (hN i (by omega)) fun s' w' a' I' => ih (i + 1) (by omega) s' w' a' ?_
      · cases hl : lt_ i k
        · rfl
        · have := lt_iff.1 hl; omega
      · cases hl : lt_ i i
        · rfl
        · have := lt_iff.1 hl; omega
      · have e : (fun m => lt_ i m || Nat.beq m i) = lt_ (i + 1) := by
          funext m
          refine lt_eq ⟨fun h => ?_, fun h => ?_⟩
          · rcases Bool.or_eq_true_iff.1 h with h | h
            · have := lt_iff.1 h; omega
            · have := Nat.eq_of_beq_eq_true h; omega
          · by_cases e : m = i
            · subst e; simp [Nat.beq_refl]
            · rw [lt_iff.2 (by omega)]; rfl
        rw [e] at I'; exact I'
  have := main n 0 (by omega) s w a I
  rwa [← List.range_eq_range'] at this
theorem region_any {N : Nat} {ds : List Deferred} {s0 s : Ms} {w0 w : World} {a : Act} {ol : List Oper} {Q : Exit → Act → World → Prop} (c : Chain P ol.toArray g n) (hsz : ol.length = n) (hN : ∀ i, i < n → ∀ d, (g i).o.dst = some d → d < N) (hk : Kept ol g n) (hb : backB ol = true)
    (I : Inv g n N ds s0 w0 (lt_ 0) s w a)
    (k : ∀ s' w' a', Inv g n N ds s0 w0 (lt_ n) s' w' a' → Q .normal a' w') : wpAny P .any ol.toArray Q n (Array.replicate n false) a w := by
  have done : ∀ (l : Array Bool), l.size = n → (∀ i, i < n → l.getD i false = true) → (fun i => l.getD i false) = lt_ n := by
    intro l hl h
    funext i
    refine lt_eq ⟨fun hd => ?_, fun hi => h i hi⟩
    rcases Nat.lt_or_ge i n with h' | h'
    · exact h'
    · simp [Array.getD_eq_getD_getElem?, Array.getElem?_eq_none (by omega : l.size ≤ i)] at hd
  have main : ∀ fuel (l : Array Bool) s w a, l.size = n → Down ol (fun i => l.getD i false) → Inv g n N ds s0 w0 (fun i => l.getD i false) s w a → l.toList.count false ≤ fuel → wpAny P .any ol.toArray Q fuel l a w := by
    intro fuel
    induction fuel with
    | zero =>
      intro l s w a hl hd I hc
      have hall : ∀ i, i < n → l.getD i false = true := by
        intro i hi
        have h0 : l.toList.count false = 0 := by omega
        rw [List.count_eq_zero] at h0
        cases hq : l.getD i false
        · exfalso
          apply h0
          rw [Array.getD_eq_getD_getElem?] at hq
          have hil : i < l.size := by omega
          simp [hil] at hq
          rw [← hq]
          exact Array.getElem_mem_toList hil
        · rfl
      refine ⟨?_, ?_⟩
      · unfold Region.ready
        rw [List.filter_eq_nil_iff]
        intro i hi
        have hi' : i < n := by have := List.mem_range.1 hi; simpa [hsz] using this
        have := hall i hi'
        have hil : i < l.size := by omega
        simp [Array.getD_eq_getD_getElem?, hil] at this
        simp [Array.getD_eq_getD_getElem?, hil, this]
      · rw [done l hl hall] at I; exact k s w a I
    | succ fuel ih =>
      intro l s w a hl hd I hc
      have hget : ∀ i, i < n → l.getD i true = l.getD i false := by
        intro i hi
        have hil : i < l.size := by omega
        simp [Array.getD_eq_getD_getElem?, hil]
      have hready : ∀ i, i ∈ Region.ready .any ol.toArray l ↔ i < n ∧ l.getD i false = false ∧ ∀ o e, ol[i]? = some o → e ∈ o.after.toList → Region.binds .any e = true → l.getD e.on false = true := by
        intro i
        unfold Region.ready
        rw [List.mem_filter, List.mem_range]
        simp only [List.size_toArray, hsz]
        constructor
        · rintro ⟨hi, h⟩
          rw [hget i hi] at h
          have hio : ol[i]? = some ol[i] := by simp [hsz, hi]
          simp only [Bool.and_eq_true, Bool.not_eq_true', List.getElem?_toArray, hio, Option.map_some, Option.getD_some] at h
          refine ⟨hi, h.1, fun o e ho he hb => ?_⟩
          rw [hio] at ho; cases ho
          have := Array.all_eq_true'.1 h.2 e (by simpa using he)
          rw [hb] at this
          simpa using this
        · rintro ⟨hi, h1, h2⟩
          refine ⟨hi, ?_⟩
          rw [hget i hi, h1]
          have hio : ol[i]? = some ol[i] := by simp [hsz, hi]
          simp only [List.getElem?_toArray, hio, Option.map_some, Option.getD_some, Bool.not_false, Bool.true_and]
          rw [Array.all_eq_true']
          intro e he
          cases hb : Region.binds .any e
          · rfl
          · simpa using h2 _ e hio (by simpa using he) hb
      refine ⟨fun hnil => ?_, fun i hi => ?_⟩
      · have hall : ∀ m i, i < m → i < n → l.getD i false = true := by
          intro m
          induction m with
          | zero => intro i h; omega
          | succ m ihm =>
            intro i him hin
            cases hq : l.getD i false
            · exfalso
              have : i ∈ Region.ready .any ol.toArray l := (hready i).2 ⟨hin, hq, fun o e ho he hb' => by
                have hlt := backB_go (j := 0) hb ho he hb'
                exact ihm e.on (by omega) (by omega)⟩
              rw [hnil] at this
              simp at this
            · rfl
        rw [done l hl (fun i hi => hall (i + 1) i (by omega) hi)] at I
        exact k s w a I
      · obtain ⟨hin, hf, hr⟩ := (hready i).1 hi
        refine step_inv c hin I (same_of hk hin hd hr hf) (hN i hin) fun s' w' a' I' => ?_
        have hil : i < l.size := by omega
        have hset : ∀ m, (l.setIfInBounds i true).getD m false = (l.getD m false || Nat.beq m i) := by
          intro m
          simp only [Array.getD_eq_getD_getElem?, Array.getElem?_setIfInBounds]
          by_cases e : i = m
          · subst e; simp [hil, Nat.beq_refl]
          · have : Nat.beq m i = false := by
              cases hq : Nat.beq m i
              · rfl
              · exact absurd (Nat.eq_of_beq_eq_true hq).symm e
            simp [e, this]
        refine ih (l.setIfInBounds i true) s' w' a' (by simp [hl]) ?_ ?_ ?_
        · intro m o e ho hm he hb'
          simp only [hset] at hm ⊢
          rcases Bool.or_eq_true_iff.1 hm with hm | hm
          · have hd' : l.getD e.on false = true := hd m o e ho hm he hb'
            rw [hd']; rfl
          · have := Nat.eq_of_beq_eq_true hm
            subst this
            rw [hr o e ho he hb']; rfl
        · have e1 : (fun m => (l.setIfInBounds i true).getD m false) = fun m => l.getD m false || Nat.beq m i := funext hset
          rw [e1]; exact I'
        · have hcnt : ∀ (L : List Bool) (i : Nat), L[i]? = some false → (L.set i true).count false + 1 = L.count false := by
            intro L
            induction L with
            | nil => intro i h; simp at h
            | cons b L ihL =>
              intro i h
              cases i with
              | zero => simp at h; subst h; simp
              | succ i => simp at h; have := ihL i h; simp only [List.set_cons_succ, List.count_cons]; omega
          have h1 : l.toList[i]? = some false := by
            rw [Array.getD_eq_getD_getElem?] at hf
            simp [hil] at hf
            simp [hil, hf]
          have := hcnt l.toList i h1
          simp only [Array.toList_setIfInBounds]
          omega
  refine main n (Array.replicate n false) s w a (by simp) ?_ ?_ ?_
  · intro i o e ho hD he hb'
    simp only [Array.getD_eq_getD_getElem?, Array.getElem?_replicate] at hD
    split at hD <;> simp at hD
  · have e1 : (fun i => (Array.replicate n false).getD i false) = lt_ 0 := by
      funext i
      refine lt_eq ⟨fun h => ?_, fun h => by omega⟩
      simp only [Array.getD_eq_getD_getElem?, Array.getElem?_replicate] at h
      split at h <;> simp at h
    rw [e1]; exact I
  · simp
theorem region_any_pan {N : Nat} {ds : List Deferred} {s0 s : Ms} {w0 w : World} {a : Act} {ol : List Oper} {Q : Exit → Act → World → Prop} (c : Chain P ol.toArray g n) (hn : n < ol.length) (hN : ∀ i, i < n → ∀ d, (g i).o.dst = some d → d < N) (hk : Kept ol g n) (hb : backB ol = true)
    (I : Inv g n N ds s0 w0 (lt_ 0) s w a) (hlate : ∀ m, n < m → m < ol.length → n ∈ (preds ol).getD m [])
    (k : ∀ D s' w' a', (∀ i, i ∈ (preds ol).getD n [] → D i = true) → Inv g n N ds s0 w0 D s' w' a' → ∀ K, wpOp P ol.toArray Q n K a' w') : wpAny P .any ol.toArray Q ol.length (Array.replicate ol.length false) a w := by
  have main : ∀ fuel (l : Array Bool) s w a, l.size = ol.length → Down ol (fun i => l.getD i false) → l.getD n false = false → Inv g n N ds s0 w0 (fun i => l.getD i false) s w a → l.toList.count false ≤ fuel → wpAny P .any ol.toArray Q fuel l a w := by
    intro fuel
    induction fuel with
    | zero =>
      intro l s w a hl hd hp I hc
      exfalso
      have h0 : l.toList.count false = 0 := by omega
      rw [List.count_eq_zero] at h0
      apply h0
      rw [Array.getD_eq_getD_getElem?] at hp
      have hil : n < l.size := by omega
      simp [hil] at hp
      rw [← hp]
      exact Array.getElem_mem_toList hil
    | succ fuel ih =>
      intro l s w a hl hd hp I hc
      have hget : ∀ i, i < ol.length → l.getD i true = l.getD i false := by
        intro i hi
        have hil : i < l.size := by omega
        simp [Array.getD_eq_getD_getElem?, hil]
      have hready : ∀ i, i ∈ Region.ready .any ol.toArray l ↔ i < ol.length ∧ l.getD i false = false ∧ ∀ o e, ol[i]? = some o → e ∈ o.after.toList → Region.binds .any e = true → l.getD e.on false = true := by
        intro i
        unfold Region.ready
        rw [List.mem_filter, List.mem_range]
        simp only [List.size_toArray]
        constructor
        · rintro ⟨hi, h⟩
          rw [hget i hi] at h
          have hio : ol[i]? = some ol[i] := by simp [hi]
          simp only [Bool.and_eq_true, Bool.not_eq_true', List.getElem?_toArray, hio, Option.map_some, Option.getD_some] at h
          refine ⟨hi, h.1, fun o e ho he hb => ?_⟩
          rw [hio] at ho; cases ho
          have := Array.all_eq_true'.1 h.2 e (by simpa using he)
          rw [hb] at this
          simpa using this
        · rintro ⟨hi, h1, h2⟩
          refine ⟨hi, ?_⟩
          rw [hget i hi, h1]
          have hio : ol[i]? = some ol[i] := by simp [hi]
          simp only [List.getElem?_toArray, hio, Option.map_some, Option.getD_some, Bool.not_false, Bool.true_and]
          rw [Array.all_eq_true']
          intro e he
          cases hb : Region.binds .any e
          · rfl
          · simpa using h2 _ e hio (by simpa using he) hb
      have hpr := (preds_go hd (l := ol) (acc := []) (pre := []) rfl rfl (fun i k h => by simp [List.getD] at h)).1
      refine ⟨fun hnil => ?_, fun i hi => ?_⟩
      · exfalso
        have hall : ∀ m i, i < m → i < ol.length → l.getD i false = true := by
          intro m
          induction m with
          | zero => intro i h; omega
          | succ m ihm =>
            intro i him hin
            cases hq : l.getD i false
            · exfalso
              have : i ∈ Region.ready .any ol.toArray l := (hready i).2 ⟨hin, hq, fun o e ho he hb' => by
                have hlt := backB_go (j := 0) hb ho he hb'
                exact ihm e.on (by omega) (by omega)⟩
              rw [hnil] at this
              simp at this
            · rfl
        have := hall (n + 1) n (by omega) hn
        rw [hp] at this; cases this
      · obtain ⟨hil0, hf, hr⟩ := (hready i).1 hi
        rcases Nat.lt_trichotomy i n with hin | hin | hin
        · refine step_inv c hin I (same_of hk hin hd hr hf) (hN i hin) fun s' w' a' I' => ?_
          have hil : i < l.size := by omega
          have hset : ∀ m, (l.setIfInBounds i true).getD m false = (l.getD m false || Nat.beq m i) := by
            intro m
            simp only [Array.getD_eq_getD_getElem?, Array.getElem?_setIfInBounds]
            by_cases e : i = m
            · subst e; simp [hil, Nat.beq_refl]
            · have : Nat.beq m i = false := by
                cases hq : Nat.beq m i
                · rfl
                · exact absurd (Nat.eq_of_beq_eq_true hq).symm e
              simp [e, this]
          refine ih (l.setIfInBounds i true) s' w' a' (by simp [hl]) ?_ ?_ ?_ ?_
          · intro m o e ho hm he hb'
            simp only [hset] at hm ⊢
            rcases Bool.or_eq_true_iff.1 hm with hm | hm
            · have hd' : l.getD e.on false = true := hd m o e ho hm he hb'
              rw [hd']; rfl
            · have := Nat.eq_of_beq_eq_true hm
              subst this
              rw [hr o e ho he hb']; rfl
          · rw [hset, hp]
            cases hq : Nat.beq n i
            · rfl
            · have := Nat.eq_of_beq_eq_true hq; omega
          · have e1 : (fun m => (l.setIfInBounds i true).getD m false) = fun m => l.getD m false || Nat.beq m i := funext hset
            rw [e1]; exact I'
          · have hcnt : ∀ (L : List Bool) (i : Nat), L[i]? = some false → (L.set i true).count false + 1 = L.count false := by
              intro L
              induction L with
              | nil => intro i h; simp at h
              | cons b L ihL =>
                intro i h
                cases i with
                | zero => simp at h; subst h; simp
                | succ i => simp at h; have := ihL i h; simp only [List.set_cons_succ, List.count_cons]; omega
            have h1 : l.toList[i]? = some false := by
              rw [Array.getD_eq_getD_getElem?] at hf
              simp [hil] at hf
              simp [hil, hf]
            have := hcnt l.toList i h1
            simp only [Array.toList_setIfInBounds]
            omega
        · subst hin
          exact k _ s w a (fun m hm => hpr i m hr hm (Nat.zero_le _)) I _
        · exfalso
          have := hpr i n hr (hlate i hin hil0) (Nat.zero_le _)
          rw [hp] at this; cases this
  refine main ol.length (Array.replicate ol.length false) s w a (by simp) ?_ ?_ ?_ ?_
  · intro i o e ho hD he hb'
    simp only [Array.getD_eq_getD_getElem?, Array.getElem?_replicate] at hD
    split at hD <;> simp at hD
  · simp only [Array.getD_eq_getD_getElem?, Array.getElem?_replicate]
    split <;> rfl
  · have e1 : (fun i => (Array.replicate ol.length false).getD i false) = lt_ 0 := by
      funext i
      refine lt_eq ⟨fun h => ?_, fun h => by omega⟩
      simp only [Array.getD_eq_getD_getElem?, Array.getElem?_replicate] at h
      split at h <;> simp at h
    rw [e1]; exact I
  · rw [Array.toList_replicate]
    exact Nat.le_trans List.count_le_length (by simp)
end

structure It where
  k : IK
  p : Prop
  h : p
inductive EV where
  | n (a : Nat)
  | v (a : Option AV)
  | o (a : Option AO)
  | l (a : List (List AV))
def okP (l : List (EV × EV)) : Prop := ∀ q ∈ l, q.1 = q.2
theorem okP_of : ∀ {l : List (EV × EV)}, l.map (·.1) = l.map (·.2) → okP l
  | [], _ => fun q h => by simp at h
  | a :: r, h => by
    simp only [List.map_cons, List.cons.injEq] at h
    intro q hq
    rcases List.mem_cons.1 hq with rfl | hq
    · exact h.1
    · exact okP_of h.2 q hq
structure Dt where
  ps : List Prop
  es : List (EV × EV)
def Dt.ok (d : Dt) : Prop := (∀ p ∈ d.ps, p) ∧ okP d.es
def Dt.nil : Dt := ⟨[], []⟩
def Dt.app (a b : Dt) : Dt := ⟨a.ps ++ b.ps, a.es ++ b.es⟩
theorem Dt.app_ok {a b : Dt} (h : (a.app b).ok) : a.ok ∧ b.ok :=
  ⟨⟨fun p hp => h.1 p (List.mem_append.2 (.inl hp)), fun q hq => h.2 q (List.mem_append.2 (.inl hq))⟩, ⟨fun p hp => h.1 p (List.mem_append.2 (.inr hp)), fun q hq => h.2 q (List.mem_append.2 (.inr hq))⟩⟩
def natE (l : List (Nat × Nat)) : List (EV × EV) := l.map fun q => (.n q.1, .n q.2)
theorem natE_ok {l : List (Nat × Nat)} (h : okP (natE l)) : ∀ e ∈ l, e.1 = e.2 := by
  intro e he
  have := h (.n e.1, .n e.2) (List.mem_map.2 ⟨e, he, rfl⟩)
  simpa using this
def appU : List AO → List (Nat × AO) → Option (List AO)
  | H, [] => some H
  | H, (h, o) :: r => bif Nat.blt h H.length then appU (H.set h o) r else bif Nat.beq h H.length then appU (H ++ [o]) r else none
theorem hget_set {H : List AO} {h k : Nat} {o : AO} (hl : h < H.length) : hget (H.set h o) k = if k = h then o else hget H k := by
  unfold hget List.getD
  by_cases e : k = h
  · subst e; simp [hl]
  · rw [if_neg e, List.getElem?_set_ne (fun e' => e e'.symm)]
theorem hget_app {H : List AO} {k : Nat} {o : AO} : hget (H ++ [o]) k = if k = H.length then o else hget H k := by
  unfold hget List.getD
  by_cases e : k = H.length
  · subst e; simp
  · rw [if_neg e]
    by_cases hl : k < H.length
    · rw [List.getElem?_append_left hl]
    · rw [List.getElem?_eq_none (by simp; omega), List.getElem?_eq_none (by omega)]
theorem beqF {a b : Nat} (h : a ≠ b) : Nat.beq a b = false := by
  cases hb : Nat.beq a b
  · rfl
  · exact absurd (Nat.eq_of_beq_eq_true hb) h
theorem appU_ok : ∀ {u : List (Nat × AO)} {H H' : List AO}, appU H u = some H' → (∀ h, hget H' h = upC (hget H) u h) ∧ H.length ≤ H'.length ∧ ∀ p ∈ u, p.1 < H'.length
  | [], H, H', h => by cases h; exact ⟨fun _ => rfl, Nat.le_refl _, by simp⟩
  | (h0, o) :: r, H, H', h => by
    simp only [appU] at h
    cases hb : Nat.blt h0 H.length
    · rw [hb] at h
      simp only [cond_false] at h
      have h9 := condE' h
      clear h
      obtain ⟨h1, h⟩ := h9
      have e := Nat.eq_of_beq_eq_true h1
      subst e
      obtain ⟨k1, k2, k3⟩ := appU_ok h
      simp only [List.length_append, List.length_singleton] at k2
      refine ⟨fun k => ?_, by omega, ?_⟩
      · rw [k1 k]
        simp only [upC]
        refine upC_at (.inl ?_)
        rw [hget_app]
        by_cases e : k = H.length
        · subst e; simp [Nat.beq_refl]
        · rw [if_neg e, beqF e]; rfl
      · intro p hp
        rcases List.mem_cons.1 hp with rfl | hp
        · simp; omega
        · exact k3 p hp
    · rw [hb] at h
      simp only [cond_true] at h
      have hl := blt hb
      obtain ⟨k1, k2, k3⟩ := appU_ok h
      simp only [List.length_set] at k2
      refine ⟨fun k => ?_, by omega, ?_⟩
      · rw [k1 k]
        simp only [upC]
        refine upC_at (.inl ?_)
        rw [hget_set hl]
        by_cases e : k = h0
        · subst e; simp [Nat.beq_refl]
        · rw [if_neg e, beqF e]; rfl
      · intro p hp
        rcases List.mem_cons.1 hp with rfl | hp
        · simp; omega
        · exact k3 p hp

def setL (L : Fr) (d : Option Tmp) (v : AV) : Fr := match d with
  | some t => (t, v) :: L
  | none => L
theorem setL_lk {L : Fr} {d : Option Tmp} {v : AV} {t : Nat} : lk (setL L d v) t = if d = some t then some v else lk L t := by
  cases d with
  | none => simp [setL]
  | some x =>
    simp only [setL, lk, Option.some.injEq]
    by_cases e : x = t
    · subst e; simp [Nat.beq_refl]
    · rw [if_neg e, beqF e]; rfl
def dstLt (d : Option Tmp) (N : Nat) : Bool := match d with
  | some t => Nat.blt t N
  | none => true
def headK (o : Oper) (sc : List It) : Option IK := match sc with
  | [] => none
  | i :: _ => (match i.k with
    | .on t k => (match o.dst with
      | some d => bif Nat.beq t d then some k else none
      | none => none)
    | k => some k)
abbrev Dec := List (Nat × Bool)
def dget : Dec → Nat → Option Bool
  | [], _ => none
  | p :: r, t => bif Nat.beq p.1 t then some p.2 else dget r t
def grd (ol : List Oper) (o : Oper) (L : Fr) (dec : Dec) (sc : List It) : Option (Bool × Fr × Dec × List It × Dt) := match o.guard with
  | none => some (true, L, dec, sc, ⟨[], []⟩)
  | some (j, want) => (match (ol[j]?).bind (·.dst) with
    | some d => (match lk L d with
      | some (.v (.bool b)) => (match dget dec d with
        | some c => some (c == want, (d, .v (.bool c)) :: L, dec, sc, ⟨[], [(.v (some (.v (.bool b))), .v (some (.v (.bool c))))]⟩)
        | none => (match sc with
          | i :: r => (match i.k with
            | .br c => some (c == want, (d, .v (.bool c)) :: L, (d, c) :: dec, r, ⟨[b = c], []⟩)
            | .auto => some (b == want, L, (d, b) :: dec, r, ⟨[True], []⟩)
            | _ => none)
          | [] => some (b == want, L, dec, [], ⟨[], []⟩)))
      | some (.v (.tuple _)) => some (false, L, dec, sc, ⟨[], []⟩)
      | _ => none)
    | none => none)
theorem grd_ok {ol : List Oper} {o : Oper} {L L' : Fr} {dec dec' : Dec} {sc sc' : List It} {go : Bool} {d : Dt} (h : grd ol o L dec sc = some (go, L', dec', sc', d)) (hd : d.ok) :
    (∀ t, lk L' t = lk L t) ∧ (go = true → ∀ j want, o.guard = some (j, want) → ∃ d, guardSlot ol.toArray o = some d ∧ lk L' d = some (.v (.bool want))) ∧
    (go = false → ∃ j want d x, o.guard = some (j, want) ∧ guardSlot ol.toArray o = some d ∧ lk L' d = some (.v x) ∧ x ≠ .bool want) := by
  unfold grd at h
  split at h
  · rename_i hg
    cases h
    exact ⟨fun _ => rfl, fun _ j want e => (by rw [hg] at e; cases e), fun e => (by cases e)⟩
  · rename_i j want hg
    split at h
    · rename_i dj hdj
      have hslot : guardSlot ol.toArray o = some dj := by simpa [guardSlot, hg] using hdj
      split at h
      · rename_i b hl
        have main : ∀ {c : Bool} {L' : Fr}, b = c → (L' = (dj, .v (.bool c)) :: L ∨ L' = L) → go = (c == want) → (∀ t, lk L' t = lk L t) ∧ (go = true → ∀ j want, o.guard = some (j, want) → ∃ d, guardSlot ol.toArray o = some d ∧ lk L' d = some (.v (.bool want))) ∧
            (go = false → ∃ j want d x, o.guard = some (j, want) ∧ guardSlot ol.toArray o = some d ∧ lk L' d = some (.v x) ∧ x ≠ .bool want) := by
          intro c L' e hL hgo
          subst e
          have hlk : ∀ t, lk L' t = lk L t := by
            intro t
            rcases hL with rfl | rfl
            · simp only [lk]
              by_cases e : dj = t
              · subst e; simp [Nat.beq_refl, hl]
              · rw [beqF e]; rfl
            · rfl
          refine ⟨hlk, fun e j' want' hg' => ?_, fun e => ⟨j, want, dj, .bool (!want), hg, hslot, ?_, by cases want <;> simp⟩⟩
          · rw [hg] at hg'
            injection hg' with hg'
            injection hg' with h1 h2
            subst h1 h2
            refine ⟨dj, hslot, ?_⟩
            rw [hlk, hl]
            rw [hgo] at e
            rw [eq_of_beq e]
          · rw [hlk, hl]
            rw [hgo] at e
            cases b <;> cases want <;> first | rfl | cases e
        split at h
        · rename_i c hc
          cases h
          have := hd.2 _ (List.mem_singleton.2 rfl)
          simp only [EV.v.injEq, Option.some.injEq, AV.v.injEq, Value.bool.injEq] at this
          exact main this (.inl rfl) rfl
        · split at h
          · split at h
            · cases h
              exact main (hd.1 _ (List.mem_singleton.2 rfl)) (.inl rfl) rfl
            · cases h
              exact main rfl (.inr rfl) rfl
            · cases h
          · cases h
            exact main rfl (.inr rfl) rfl
      · rename_i vs hl
        cases h
        exact ⟨fun _ => rfl, fun e => (by cases e), fun _ => ⟨j, want, dj, _, hg, hslot, hl, by simp⟩⟩
      · cases h
    · cases h
structure R1s where
  e : Ent
  S : ASt
  dec : Dec
  sc : List It
  d : Dt
  pan : Bool
def rop {P : Program} (T : List (TE P)) (N : Nat) (ol : List Oper) (o : Oper) (S : ASt) (dec : Dec) (sc : List It) : Option R1s := match grd ol o S.L dec sc with
  | some (go, L, dec', sc', d) => bif dstLt o.dst N then (match go with
    | true => (match aop T L S.H S.A (headK o sc') o.op with
      | some (pan, (E, p, eq)) => (match appU S.H E.upd with
        | some H' => some ⟨⟨o, L, S.H, S.A, E, false⟩, ⟨setL L o.dst E.val, H', E.ar.getD S.A⟩, dec', (match p with | some _ => sc'.tail | none => sc'), d.app ⟨p.toList, natE eq⟩, pan⟩
        | none => none)
      | none => none)
    | false => some ⟨⟨o, L, S.H, S.A, ⟨.v undef, [], none, [], false⟩, true⟩, ⟨setL L o.dst (.v undef), S.H, S.A⟩, dec', sc', d, false⟩) else none
  | none => none
structure RopOk (P : Program) (N : Nat) (ol : List Oper) (o : Oper) (S : ASt) (r : R1s) : Prop where
  eo : r.e.o = o
  eL : ∀ t, lk r.e.L t = lk S.L t
  eH : r.e.H = S.H
  eA : r.e.A = S.A
  ok : r.pan = false → EntOk P ol.toArray r.e
  no : r.pan = true → r.e.sk = false ∧ (∀ j want, o.guard = some (j, want) → ∃ d, guardSlot ol.toArray o = some d ∧ lk r.e.L d = some (.v (.bool want))) ∧ SimP P o r.e.L r.e.H r.e.A r.e.E
  L : ∀ t, lk r.S.L t = if o.dst = some t then some r.e.E.val else lk r.e.L t
  H : ∀ h, hget r.S.H h = upC (hget S.H) r.e.E.upd h
  len : S.H.length ≤ r.S.H.length
  new : ∀ p ∈ r.e.E.upd, p.1 < r.S.H.length
  A : r.S.A = r.e.E.ar.getD S.A
  N : ∀ d, o.dst = some d → d < N
theorem rop_ok {P : Program} {T : List (TE P)} {N : Nat} {ol : List Oper} {o : Oper} {S : ASt} {dec : Dec} {sc : List It} {r : R1s} (h : rop T N ol o S dec sc = some r) (hd : r.d.ok) : RopOk P N ol o S r := by
  unfold rop at h
  split at h
  · rename_i go L dec' sc' d hg
    obtain ⟨hN, h⟩ := condE' h
    have hN' : ∀ d, o.dst = some d → d < N := by
      intro d e
      rw [e] at hN
      exact blt hN
    split at h
    · split at h
      · rename_i pan E p eq ha
        split at h
        · rename_i H' hH
          cases h
          obtain ⟨d1, d2⟩ := Dt.app_ok hd
          obtain ⟨g1, g2, g3⟩ := grd_ok hg d1
          have hq : okg (E, p, eq) := ⟨fun q e => d2.1 q (by have e' : p = some q := e; simp [e']), natE_ok d2.2⟩
          have hs := aop_ok (dst := o.dst) (ty := o.type) (pos := o.pos) (af := o.after) (gd := o.guard) ha hq
          obtain ⟨u1, u2, u3⟩ := appU_ok hH
          exact ⟨rfl, g1, rfl, rfl, fun e => ⟨fun _ => ⟨g2 rfl, hs.1 e⟩, fun e => (by cases e)⟩, fun e => ⟨rfl, g2 rfl, hs.2 e⟩, fun t => setL_lk, u1, u2, u3, rfl, hN'⟩
        · cases h
      · cases h
    · cases h
      obtain ⟨g1, g2, g3⟩ := grd_ok hg hd
      obtain ⟨j, want, dj, x, k1, k2, k3, k4⟩ := g3 rfl
      exact ⟨rfl, g1, rfl, rfl, fun _ => ⟨fun e => (by cases e), fun _ => ⟨j, want, dj, x, k1, k2, k3, k4, rfl⟩⟩, fun e => (by cases e), fun t => setL_lk, fun _ => rfl, Nat.le_refl _, fun p hp => by simp at hp, rfl, hN'⟩
  · cases h
def rops {P : Program} (T : List (TE P)) (N : Nat) (ol : List Oper) : List Oper → ASt → Dec → List It → Option (List Ent × ASt × List It × Dt × Bool)
  | [], S, _, sc => some ([], S, sc, ⟨[], []⟩, false)
  | o :: r, S, dec, sc => (match rop T N ol o S dec sc with
    | some q => (match q.pan with
      | true => some ([q.e], ⟨q.e.L, q.S.H, q.S.A⟩, q.sc, q.d, true)
      | false => (match rops T N ol r q.S q.dec q.sc with
        | some (es, S', sc', d, pan) => some (q.e :: es, S', sc', q.d.app d, pan)
        | none => none))
    | none => none)
def Links (P : Program) (N : Nat) (ol : List Oper) : List Oper → ASt → List Ent → ASt → Prop
  | [], S, es, S' => es = [] ∧ S' = S
  | o :: r, S, es, S' => ∃ q : R1s, ∃ es', es = q.e :: es' ∧ RopOk P N ol o S q ∧ q.pan = false ∧ Links P N ol r q.S es' S'
theorem rops_ok {P : Program} {T : List (TE P)} {N : Nat} {ol : List Oper} : ∀ {l : List Oper} {S S' : ASt} {dec : Dec} {sc sc' : List It} {es : List Ent} {d : Dt}, rops T N ol l S dec sc = some (es, S', sc', d, false) → d.ok → Links P N ol l S es S'
  | [], S, S', dec, sc, sc', es, d, h, _ => by cases h; exact ⟨rfl, rfl⟩
  | o :: r, S, S', dec, sc, sc', es, d, h, hd => by
    simp only [rops] at h
    split at h
    · rename_i q hq
      split at h
      · cases h
      · rename_i hp
        split at h
        · rename_i es1 S1 sc1 d1 pan hr
          cases h
          obtain ⟨d2, d3⟩ := Dt.app_ok hd
          exact ⟨q, es1, rfl, rop_ok hq d2, hp, rops_ok hr d3⟩
        · cases h
    · cases h
theorem links_chain {P : Program} {N : Nat} {ol : List Oper} : ∀ {l pre : List Oper} {S S' : ASt} {es : List Ent}, Links P N ol l S es S' → (∃ r, ol = pre ++ (l ++ r)) →
    ∃ g : Nat → Ent, (∀ i e, es[i]? = some e → g (pre.length + i) = e) ∧ es.length = l.length ∧ (∀ t, lk (g pre.length).L t = lk S.L t) ∧ (g pre.length).H = S.H ∧ (g pre.length).A = S.A ∧
      (∀ t, lk (g (pre.length + l.length)).L t = lk S'.L t) ∧ (g (pre.length + l.length)).H = S'.H ∧ (g (pre.length + l.length)).A = S'.A ∧
      ∀ i, pre.length ≤ i → i < pre.length + l.length → ol[i]? = some (g i).o ∧ EntOk P ol.toArray (g i) ∧ (∀ d, (g i).o.dst = some d → d < N) ∧
        (∀ t, lk (g (i + 1)).L t = if (g i).o.dst = some t then some (g i).E.val else lk (g i).L t) ∧ (∀ h, hget (g (i + 1)).H h = upC (hget (g i).H) (g i).E.upd h) ∧
        (g i).H.length ≤ (g (i + 1)).H.length ∧ (∀ p ∈ (g i).E.upd, p.1 < (g (i + 1)).H.length) ∧ (g (i + 1)).A = (g i).E.ar.getD (g i).A
  | [], pre, S, S', es, h, he => by
    obtain ⟨rfl, rfl⟩ := h
    refine ⟨fun _ => ⟨default, S'.L, S'.H, S'.A, ⟨.v undef, [], none, [], false⟩, false⟩, fun i e h => by simp at h, rfl, fun _ => rfl, rfl, rfl, fun _ => rfl, rfl, rfl, fun i h1 h2 => by simp only [List.length_nil] at h2; omega⟩
  | o :: r, pre, S, S', es, h, he => by
    obtain ⟨q, es', rfl, hq, hp, hr⟩ := h
    obtain ⟨g, g1, g2, g3, g4, g5, g6, g7, g8, g9⟩ := links_chain (pre := pre ++ [o]) hr (by obtain ⟨r0, he⟩ := he; exact ⟨r0, by simp [he]⟩)
    have hl : (pre ++ [o]).length = pre.length + 1 := by simp
    have hl2 : pre.length + (o :: r).length = pre.length + 1 + r.length := by simp only [List.length_cons]; omega
    rw [hl] at g1 g3 g4 g5 g6 g7 g8 g9
    rw [hl2]
    refine ⟨fun i => if i = pre.length then q.e else g i, ?_, by simp [g2], ?_, ?_, ?_, ?_, ?_, ?_, ?_⟩
    · intro i e h
      cases i with
      | zero => simp at h; subst h; simp
      | succ i =>
        simp only []
        rw [if_neg (by omega)]
        have := g1 i e (by simpa using h)
        rwa [show pre.length + 1 + i = pre.length + (i + 1) by omega] at this
    · intro t; simp only [if_true]; exact hq.eL t
    · simp only [if_true]; exact hq.eH
    · simp only [if_true]; exact hq.eA
    · intro t; simp only []; rw [if_neg (by omega)]; exact g6 t
    · simp only []; rw [if_neg (by omega)]; exact g7
    · simp only []; rw [if_neg (by omega)]; exact g8
    · intro i h1 h2
      simp only []
      by_cases e : i = pre.length
      · subst e
        rw [if_pos rfl, if_neg (by omega : ¬ pre.length + 1 = pre.length)]
        refine ⟨by obtain ⟨r0, he⟩ := he; rw [he, hq.eo]; simp, hq.ok hp, by rw [hq.eo]; exact hq.N, fun t => ?_, fun h => ?_, ?_, fun p hp' => ?_, ?_⟩
        · rw [g3 t, hq.L t, hq.eo]
        · rw [g4, hq.H h, hq.eH]
        · rw [g4, hq.eH]; exact hq.len
        · rw [g4]; exact hq.new p hp'
        · rw [g5, hq.A, hq.eA]
      · rw [if_neg e, if_neg (by omega : ¬ i + 1 = pre.length)]
        exact g9 i (by omega) h2
def memN (l : List Nat) (a : Nat) : Bool := l.any (Nat.beq a)
theorem memN_iff {l : List Nat} {a : Nat} : memN l a = true ↔ a ∈ l := by
  unfold memN
  rw [List.any_eq_true]
  constructor
  · rintro ⟨x, hx, h⟩; rw [Nat.eq_of_beq_eq_true h]; exact hx
  · intro h; exact ⟨a, h, Nat.beq_refl a⟩
def opTmps (ops : Array Oper) (o : Oper) : List Nat := (o.op.operands.toList.filterMap fun | .tmp t => some t | _ => none) ++ (guardSlot ops o).toList ++ o.dst.toList
def confB (ops : Array Oper) (x y : Ent) : Bool :=
  x.E.upd.any (fun p => memN y.E.fp p.1 || y.E.upd.any (fun r => Nat.beq r.1 p.1)) || (x.E.ar.isSome && (y.E.fa || y.E.ar.isSome)) ||
  (match x.o.dst with | some d => memN (opTmps ops y.o) d | none => false)
theorem confB_of {ops : Array Oper} {x y : Ent} (h : Conf ops x y) : confB ops x y = true := by
  unfold confB
  rcases h with ⟨p, hp, h⟩ | ⟨h1, h2⟩ | ⟨d, hd, h⟩
  · have : x.E.upd.any (fun p => memN y.E.fp p.1 || y.E.upd.any (fun r => Nat.beq r.1 p.1)) = true := by
      rw [List.any_eq_true]
      refine ⟨p, hp, ?_⟩
      rcases h with h | ⟨r, hr, e⟩
      · rw [memN_iff.2 h]; rfl
      · rw [Bool.or_eq_true]; right
        rw [List.any_eq_true]
        exact ⟨r, hr, by rw [e]; exact Nat.beq_refl _⟩
    rw [this]; rfl
  · have e1 : x.E.ar.isSome = true := by cases hx : x.E.ar <;> simp_all
    have e2 : (y.E.fa || y.E.ar.isSome) = true := by
      rcases h2 with h2 | h2
      · rw [h2]; rfl
      · have : y.E.ar.isSome = true := by cases hx : y.E.ar <;> simp_all
        rw [this]; simp
    rw [e1, e2]; simp
  · have : memN (opTmps ops y.o) d = true := by
      rw [memN_iff]
      unfold opTmps
      rcases h with h | h | h
      · simp [h]
      · simp only [List.mem_append, List.mem_filterMap]
        exact .inl (.inl ⟨_, h, rfl⟩)
      · simp [h]
    rw [hd]
    simp [this]
def keptB (ol : List Oper) (es : List Ent) : Bool := go 0 es
where
  row (ps : List (List Nat)) (i : Nat) (e : Ent) : Nat → List Ent → Bool
    | _, [] => true
    | j, f :: r => (!(confB ol.toArray e f || confB ol.toArray f e) || memN (ps.getD j []) i) && row ps i e (j + 1) r
  go : Nat → List Ent → Bool
    | _, [] => true
    | i, e :: r => row (preds ol) i e (i + 1) r && go (i + 1) r
theorem row_at {ol : List Oper} {ps : List (List Nat)} {i : Nat} {e : Ent} : ∀ {l : List Ent} {j m : Nat} {f : Ent}, keptB.row ol ps i e j l = true → l[m]? = some f → confB ol.toArray e f = true ∨ confB ol.toArray f e = true → i ∈ ps.getD (j + m) []
  | [], j, m, f, _, h, _ => by simp at h
  | x :: r, j, 0, f, h, hf, hc => by
    simp at hf; subst hf
    simp only [keptB.row, Bool.and_eq_true, Bool.or_eq_true, Bool.not_eq_true'] at h
    rcases h.1 with h1 | h1
    · rcases hc with hc | hc <;> rw [hc] at h1 <;> simp at h1
    · exact memN_iff.1 h1
  | x :: r, j, m + 1, f, h, hf, hc => by
    simp only [keptB.row, Bool.and_eq_true] at h
    have := row_at h.2 (by simpa using hf) hc
    rwa [show j + (m + 1) = j + 1 + m by omega]
theorem go_at {ol : List Oper} : ∀ {l : List Ent} {i a b : Nat} {e f : Ent}, keptB.go ol i l = true → l[a]? = some e → l[b]? = some f → a < b → confB ol.toArray e f = true ∨ confB ol.toArray f e = true → i + a ∈ (preds ol).getD (i + b) []
  | [], i, a, b, e, f, _, h, _, _, _ => by simp at h
  | x :: r, i, 0, b, e, f, h, he, hf, hab, hc => by
    simp at he; subst he
    simp only [keptB.go, Bool.and_eq_true] at h
    cases b with
    | zero => omega
    | succ b =>
      have := row_at h.1 (by simpa using hf) hc
      rwa [show i + (b + 1) = i + 1 + b by omega]
  | x :: r, i, a + 1, b, e, f, h, he, hf, hab, hc => by
    simp only [keptB.go, Bool.and_eq_true] at h
    cases b with
    | zero => omega
    | succ b =>
      have := go_at h.2 (by simpa using he) (by simpa using hf) (by omega) hc
      rwa [show i + (a + 1) = i + 1 + a by omega, show i + (b + 1) = i + 1 + b by omega]

structure SI (N : Nat) (ds : List Deferred) (S : ASt) (s : Ms) (w : World) (a : Act) : Prop where
  wd : Wd s w
  is : Is s S.H S.A
  L : ∀ t x, lk S.L t = some x → V s x (a.tmps.getD t undef)
  size : a.tmps.size = N
  defers : a.defers = ds
section
variable {P : Program} {T : List (TE P)} {N : Nat} {ds : List Deferred} {ol : List Oper}
theorem SI.inv {S S' : ASt} {s : Ms} {w : World} {a : Act} {l : List Oper} {es : List Ent} {r : List Oper} (hl : Links P N ol l S es S') (he : ol = l ++ r) (h : SI N ds S s w a) :
    ∃ g : Nat → Ent, Chain P ol.toArray g l.length ∧ (∀ i e, es[i]? = some e → g i = e) ∧ es.length = l.length ∧ (∀ i, i < l.length → ∀ d, (g i).o.dst = some d → d < N) ∧ Inv g l.length N ds s w (lt_ 0) s w a ∧
      (∀ s' w' a', Inv g l.length N ds s w (lt_ l.length) s' w' a' → SI N ds S' s' w' a' ∧ Stp s w s' w') ∧ (∀ t, lk (g l.length).L t = lk S'.L t) ∧ (g l.length).H = S'.H ∧ (g l.length).A = S'.A := by
  obtain ⟨g, g1, g2, g3, g4, g5, g6, g7, g8, g9⟩ := links_chain (pre := []) hl ⟨r, by simpa using he⟩
  simp only [List.length_nil, Nat.zero_add] at g1 g3 g4 g5 g6 g7 g8 g9
  have c : Chain P ol.toArray g l.length := ⟨fun i hi => by simpa using (g9 i (Nat.zero_le _) hi).1, fun i hi => (g9 i (Nat.zero_le _) hi).2.1, fun i hi => (g9 i (Nat.zero_le _) hi).2.2.2.1, fun i hi => (g9 i (Nat.zero_le _) hi).2.2.2.2.1,
    fun i hi => (g9 i (Nat.zero_le _) hi).2.2.2.2.2.1, fun i hi => (g9 i (Nat.zero_le _) hi).2.2.2.2.2.2.1, fun i hi => (g9 i (Nat.zero_le _) hi).2.2.2.2.2.2.2⟩
  have hmono : ∀ m, m ≤ l.length → (g 0).H.length ≤ (g m).H.length := by
    intro m
    induction m with
    | zero => intro _; exact Nat.le_refl _
    | succ m ih => intro hm; exact Nat.le_trans (ih (by omega)) (c.len m (by omega))
  have hmono0 : ∀ m, m ≤ l.length → (g 0).H.length ≤ (g m).H.length := hmono
  refine ⟨g, c, g1, g2, fun i hi => (g9 i (Nat.zero_le _) hi).2.2.1, ⟨h.wd, Stp.refl s w, fun k => ?_, ?_, fun t x hx => ?_, fun i hi _ p hp hle => ?_, fun k hk => ?_, h.size, h.defers⟩, fun s' w' a' I => ?_, g6, g7, g8⟩
  · rw [Cd_lt c (Nat.zero_le _) _ (Nat.zero_le _) (Nat.le_refl _), h.is.C k, g4]
  · rw [Ad_lt c (Nat.zero_le _) _ (Nat.zero_le _) (Nat.le_refl _), h.is.A, g5]
  · rw [Ld_lt c (Nat.zero_le _) _ (Nat.zero_le _) (Nat.le_refl _), g3] at hx
    exact h.L t x hx
  · refine h.is.b p.1 ?_
    have h1 := hmono i (by omega)
    rw [g4] at h1; omega
  · refine h.is.b k ?_
    have h1 := hmono l.length (Nat.le_refl _)
    rw [g4] at h1; omega
  · refine ⟨⟨I.wd, ⟨fun k => ?_, ?_, fun k hk => I.b k (by rw [g7]; exact hk)⟩, fun t x hx => ?_, I.size, I.defers⟩, I.stp⟩
    · rw [I.C k, Cd_lt c (Nat.le_refl _) _ (Nat.le_refl _) (Nat.le_refl _), g7]
    · rw [I.A, Ad_lt c (Nat.le_refl _) _ (Nat.le_refl _) (Nat.le_refl _), g8]
    · refine I.L t x ?_
      rw [Ld_lt c (Nat.le_refl _) _ (Nat.le_refl _) (Nat.le_refl _), g6]; exact hx
theorem region_ok {id : Nat} {draw : Bool} {S S' : ASt} {es : List Ent} {s : Ms} {w : World} {a : Act} {Q : Exit → Act → World → Prop} (hl : Links P N ol ol S es S') (h : SI N ds S s w a)
    (hd : draw = true → P.follows .mixedOrders = true ∧ keptB ol es = true ∧ backB ol = true) (k : ∀ s' w' a', SI N ds S' s' w' a' → Stp s w s' w' → Q .normal a' w') : (Code.region id ol.toArray draw).wp P Q a w := by
  cases draw
  · obtain ⟨g, c, g1, g2, hN, I, fin, z6, z7, z8⟩ := h.inv hl (by simp : ol = ol ++ [])
    refine wp_region ?_
    have := region_list (Q := Q) (rest := []) c hN I fun s' w' a' I' => by
      obtain ⟨k1, k2⟩ := fin s' w' a' I'
      exact k s' w' a' k1 k2
    simpa using this
  · obtain ⟨hm, hk, hb⟩ := hd rfl
    have h1 : SI N ds S s { w with drawn := w.drawn + 1 } a := ⟨h.wd.drawn _, h.is, h.L, h.size, h.defers⟩
    obtain ⟨g, c, g1, g2, hN, I, fin, z6, z7, z8⟩ := h1.inv hl (by simp : ol = ol ++ [])
    have hkept : Kept ol g ol.length := by
      intro i j hij hj hc
      have hi : i < es.length := by omega
      have hj' : j < es.length := by omega
      have e1 : es[i]? = some es[i] := by simp [hi]
      have e2 : es[j]? = some es[j] := by simp [hj']
      have hc' : confB ol.toArray es[i] es[j] = true ∨ confB ol.toArray es[j] es[i] = true := by
        rw [g1 i _ e1, g1 j _ e2] at hc
        exact hc.imp confB_of confB_of
      have := go_at (ol := ol) (i := 0) hk e1 e2 hij hc'
      simpa using this
    refine wp_region_any hm ?_
    have := region_any (Q := Q) c rfl hN hkept hb I fun s' w' a' I' => by
      obtain ⟨k1, k2⟩ := fin s' w' a' I'
      exact k s' w' a' k1 ((Stp.drawn _).trans k2)
    simpa using this
def LinksP (P : Program) (N : Nat) (ol l : List Oper) (S : ASt) (ea : List Ent) (S' : ASt) (v : AV) : Prop :=
  ∃ (l1 : List Oper) (o : Oper) (r : List Oper) (es : List Ent) (S1 : ASt) (q : R1s), ea = es ++ [q.e] ∧ l = l1 ++ (o :: r) ∧ Links P N ol l1 S es S1 ∧ RopOk P N ol o S1 q ∧ q.pan = true ∧ S' = ⟨q.e.L, q.S.H, q.S.A⟩ ∧ q.e.E.val = v
theorem rops_pan : ∀ {l : List Oper} {S S' : ASt} {dec : Dec} {sc sc' : List It} {es : List Ent} {d : Dt}, rops T N ol l S dec sc = some (es, S', sc', d, true) → d.ok → ∃ v, (es.getLast?.map (·.E.val)) = some v ∧ LinksP P N ol l S es S' v
  | [], S, S', dec, sc, sc', es, d, h, _ => by cases h
  | o :: r, S, S', dec, sc, sc', es, d, h, hd => by
    simp only [rops] at h
    split at h
    · rename_i q hq
      split at h
      · rename_i hp
        cases h
        exact ⟨_, rfl, [], o, r, [], S, q, rfl, rfl, ⟨rfl, rfl⟩, rop_ok hq hd, hp, rfl, rfl⟩
      · rename_i hp
        split at h
        · rename_i es1 S1 sc1 d1 pan hr
          cases h
          obtain ⟨d2, d3⟩ := Dt.app_ok hd
          obtain ⟨v, hv, l1, o1, r1, es2, S2, q2, e0, e1, e2, e3, e4, e5, e6⟩ := rops_pan hr d3
          refine ⟨v, ?_, o :: l1, o1, r1, q.e :: es2, S2, q2, by simp [e0], by simp [e1], ⟨q, es2, rfl, rop_ok hq d2, hp, e2⟩, e3, e4, e5, e6⟩
          cases es1 with
          | nil => simp at hv
          | cons x y => simpa using hv
        · cases h
    · cases h
theorem pan_op {S1 S' : ASt} {v : AV} {o : Oper} {q : R1s} {n : Nat} {s s' : Ms} {w w' : World} {a' : Act} {Q : Exit → Act → World → Prop} {K : Act → World → Prop} (hop : ol.toArray[n]? = some o) (h2 : RopOk P N ol o S1 q) (h3 : q.pan = true) (h4 : S' = ⟨q.e.L, q.S.H, q.S.A⟩) (h5 : q.e.E.val = v) (kst : Stp s w s' w') (kwd : Wd s' w')
    (sL : ∀ t x, (Operand.tmp t ∈ o.op.operands.toList ∨ guardSlot ol.toArray o = some t) → lk S1.L t = some x → V s' x (a'.tmps.getD t undef)) (sC : ∀ h, s'.C h = hget S1.H h) (sA : s'.A = S1.A) (sb : Born s' S1.H) (ksz : a'.tmps.size = N) (kdf : a'.defers = ds)
    (k : ∀ s2 w2 g, Wd s2 w2 → Is s2 S'.H S'.A → Stp s w s2 w2 → (∀ x u, V s' x u → V s2 x u) → V s2 v g → Q (.panic [{ v := g, recovered := false }]) a' w2) : wpOp P ol.toArray Q n K a' w' := by
  obtain ⟨n1, n2, n3⟩ := h2.no h3
  unfold wpOp
  rw [hop]
  simp only
  have hw : Region.wanted o (yielded ol.toArray a'.tmps) = true := by
    cases hg : o.guard with
    | none => simp [Region.wanted, hg]
    | some q' =>
      obtain ⟨j, want⟩ := q'
      obtain ⟨d, hd, hl⟩ := n2 j want hg
      rw [h2.eL] at hl
      have hv := tmps_bool (sL d _ (.inr hd) hl).vE
      have hgs := guard_slot hg hd
      simp only [Region.wanted, hg, yielded]
      rw [hgs]
      simp [hv]
  rw [hw]
  simp only [if_true]
  refine .inl (n3 s' w' a' ?_ _ Q fun s2 w2 g2 hp => ?_)
  · refine ⟨kwd, fun x hx y hy => ?_, fun h hh => by rw [h2.eH]; exact sC h, fun p hp => ⟨fun _ => by rw [h2.eH]; exact sC p.1, fun hle => sb p.1 (by rw [h2.eH] at hle; exact hle)⟩, fun _ => by rw [h2.eA]; exact sA⟩
    cases x with
    | tmp t => exact sL t y (.inl hx) (by have : lk q.e.L t = some y := hy; rw [h2.eL] at this; exact this)
    | const v => simp only [rdx, Option.some.injEq] at hy; subst hy; exact .im (cst_ok _ v)
    | func f => simp only [rdx, Option.some.injEq] at hy; subst hy; exact .fn (gf := []) (gc := []) rfl rfl (fun j y g a => by simp at a) (fun j y g a => by simp at a)
    | global _ => cases hy
  · subst h4
    refine k s2 w2 g2 hp.wd ⟨fun k => ?_, ?_, fun k hk => ?_⟩ (kst.trans hp.stp) (fun x u hv => hv.mono hp.stp.le) (by rw [← h5]; exact hp.val)
    · rw [hp.C k]
      show _ = hget q.S.H k
      rw [h2.H k]
      exact upC_at (.inl (sC k))
    · show s2.A = q.S.A
      rw [hp.A, h2.A, sA]
    · have hk : q.S.H.length ≤ k := hk
      rw [hp.ρ k fun p hp' e => ?_]
      · exact sb k (Nat.le_trans h2.len hk)
      · have := h2.new p hp'; omega
theorem region_pan {id : Nat} {S S' : ASt} {ea : List Ent} {v : AV} {s : Ms} {w : World} {a : Act} {Q : Exit → Act → World → Prop} (hl : LinksP P N ol ol S ea S' v) (h : SI N ds S s w a)
    (k : ∀ s' w' a' g, SI N ds S' s' w' a' → Stp s w s' w' → V s' v g → Q (.panic [{ v := g, recovered := false }]) a' w') :
    (Code.region id ol.toArray false).wp P Q a w := by
  obtain ⟨l1, o, r, es, S1, q, h0, he, h1, h2, h3, h4, h5⟩ := hl
  obtain ⟨g, c, g1, g2, hN, I, fin, z6, z7, z8⟩ := h.inv h1 he
  refine wp_region ?_
  have hr : List.range ol.toArray.size = List.range l1.length ++ (l1.length :: List.range' (l1.length + 1) r.length) := by
    have hsz : ol.toArray.size = l1.length + (r.length + 1) := by rw [List.size_toArray, he, List.length_append, List.length_cons]
    rw [hsz, List.range_eq_range', List.range_eq_range', ← List.range'_append_1, Nat.zero_add, List.range'_succ]
  rw [hr]
  refine region_list c hN I fun s' w' a' I' => ?_
  obtain ⟨k1, k2⟩ := fin s' w' a' I'
  rw [wpOps_cons]
  refine pan_op (ds := ds) (by rw [he]; simp) h2 h3 h4 h5 k2 k1.wd (fun t x _ hx => k1.L t x hx) k1.is.C k1.is.A k1.is.b k1.size k1.defers fun s2 w2 g2 m1 m2 m3 m4 m5 => ?_
  refine k s2 w2 a' g2 ⟨m1, m2, fun t x hx => ?_, k1.size, k1.defers⟩ m3 m5
  subst h4
  have hx : lk q.e.L t = some x := hx
  rw [h2.eL] at hx
  exact m4 _ _ (k1.L t x hx)
def freeD (ps : List Nat) : Nat → List Ent → List Nat
  | _, [] => []
  | i, e :: r => (bif memN ps i then [] else e.o.dst.toList) ++ freeD ps (i + 1) r
def quietB (ps : List Nat) : Nat → List Ent → Bool
  | _, [] => true
  | i, e :: r => (memN ps i || (e.E.upd.isEmpty && e.E.ar.isNone)) && quietB ps (i + 1) r
def lateB (pp : List (List Nat)) (j m : Nat) : Bool := (List.range m).all fun i => Nat.ble i j || memN (pp.getD i []) j
def panB (ol : List Oper) (es : List Ent) : Bool := keptB ol es && backB ol && lateB (preds ol) (es.length - 1) ol.length && quietB ((preds ol).getD (es.length - 1) []) 0 es.dropLast
def dropD (l : List Nat) (L : Fr) : Fr := L.filter fun p => !memN l p.1
theorem dropD_lk {l : List Nat} : ∀ {L : Fr} {t : Nat} {x : AV}, lk (dropD l L) t = some x → lk L t = some x ∧ t ∉ l
  | [], t, x, h => by cases h
  | (u, y) :: r, t, x, h => by
    unfold dropD at h
    rw [List.filter_cons] at h
    cases hm : memN l u
    · rw [hm] at h
      simp only [Bool.not_false, if_true, lk] at h ⊢
      cases hb : Nat.beq u t
      · rw [hb] at h; exact dropD_lk h
      · rw [hb] at h
        have := Nat.eq_of_beq_eq_true hb
        subst this
        exact ⟨h, fun hc => by rw [memN_iff.2 hc] at hm; cases hm⟩
    · rw [hm] at h
      simp only [Bool.not_true, Bool.false_eq_true, if_false] at h
      have ih := dropD_lk (L := r) h
      refine ⟨?_, ih.2⟩
      simp only [lk]
      cases hb : Nat.beq u t
      · exact ih.1
      · have := Nat.eq_of_beq_eq_true hb
        subst this
        exact absurd (memN_iff.1 hm) ih.2
theorem freeD_at {ps : List Nat} : ∀ {l : List Ent} {i m : Nat} {e : Ent} {t : Nat}, l[m]? = some e → e.o.dst = some t → t ∉ freeD ps i l → i + m ∈ ps
  | [], i, m, e, t, h, _, _ => by simp at h
  | x :: r, i, 0, e, t, h, hd, hf => by
    simp at h; subst h
    simp only [freeD, List.mem_append, not_or] at hf
    cases hm : memN ps i
    · rw [hm] at hf; simp [hd] at hf
    · exact memN_iff.1 hm
  | x :: r, i, m + 1, e, t, h, hd, hf => by
    simp only [freeD, List.mem_append, not_or] at hf
    have := freeD_at (by simpa using h) hd hf.2
    rwa [show i + (m + 1) = i + 1 + m by omega]
theorem quietB_at {ps : List Nat} : ∀ {l : List Ent} {i m : Nat} {e : Ent}, quietB ps i l = true → l[m]? = some e → i + m ∈ ps ∨ (e.E.upd = [] ∧ e.E.ar = none)
  | [], i, m, e, _, h => by simp at h
  | x :: r, i, 0, e, hq, h => by
    simp at h; subst h
    simp only [quietB, Bool.and_eq_true, Bool.or_eq_true, List.isEmpty_iff, Option.isNone_iff_eq_none] at hq
    exact hq.1.imp memN_iff.1 id
  | x :: r, i, m + 1, e, hq, h => by
    simp only [quietB, Bool.and_eq_true] at hq
    have := quietB_at hq.2 (by simpa using h)
    rwa [show i + (m + 1) = i + 1 + m by omega]
theorem region_panD {id : Nat} {S S' : ASt} {ea : List Ent} {v : AV} {s : Ms} {w : World} {a : Act} {Q : Exit → Act → World → Prop} (hm : P.follows .mixedOrders = true) (hl : LinksP P N ol ol S ea S' v) (h : SI N ds S s w a) (hB : panB ol ea = true)
    (k : ∀ s' w' a' g, SI N ds ⟨dropD (freeD ((preds ol).getD (ea.length - 1) []) 0 ea.dropLast) S'.L, S'.H, S'.A⟩ s' w' a' → Stp s w s' w' → V s' v g → Q (.panic [{ v := g, recovered := false }]) a' w') :
    (Code.region id ol.toArray true).wp P Q a w := by
  obtain ⟨l1, o, r, es, S1, q, h0, he, h1, h2, h3, h4, h5⟩ := hl
  have hh : SI N ds S s { w with drawn := w.drawn + 1 } a := ⟨h.wd.drawn _, h.is, h.L, h.size, h.defers⟩
  obtain ⟨g, c, g1, g2, hN, I, fin, z6, z7, z8⟩ := hh.inv h1 he
  subst h0
  have hel : (es ++ [q.e]).length - 1 = l1.length := by simp [g2]
  have hdl : (es ++ [q.e]).dropLast = es := by simp
  simp only [panB, Bool.and_eq_true] at hB
  rw [hel, hdl] at hB
  rw [hel, hdl] at k
  obtain ⟨⟨⟨b1, b2⟩, b3⟩, b4⟩ := hB
  refine wp_region_any hm ?_
  have esat : ∀ i, i < l1.length → (es ++ [q.e])[i]? = some (g i) := by
    intro i hi
    have hi' : i < es.length := by omega
    rw [List.getElem?_append_left hi', List.getElem?_eq_getElem hi', g1 i es[i] (by simp [hi'])]
  have eslast : (es ++ [q.e])[l1.length]? = some q.e := by rw [← g2]; simp
  have hkept : Kept ol g l1.length := by
    intro i j hij hj hc
    have := go_at (ol := ol) (i := 0) b1 (esat i (by omega)) (esat j hj) hij (hc.imp confB_of confB_of)
    simpa using this
  have hlen : l1.length < ol.length := by rw [he]; simp
  have hlate : ∀ m, l1.length < m → m < ol.length → l1.length ∈ (preds ol).getD m [] := by
    intro m hm1 hm2
    have := List.all_eq_true.1 b3 m (List.mem_range.2 hm2)
    rcases Bool.or_eq_true_iff.1 this with e | e
    · have := Nat.le_of_ble_eq_true e; omega
    · exact memN_iff.1 e
  have := region_any_pan (Q := Q) c hlen hN hkept b2 I hlate fun D s' w' a' hD I' K => by
    have hconf : ∀ m, m < l1.length → Conf ol.toArray (g m) q.e → D m = lt_ l1.length m := by
      intro m hm1 hc
      rw [lt_iff.2 hm1]
      refine hD m ?_
      have := go_at (ol := ol) (i := 0) b1 (esat m hm1) eslast hm1 (.inl (confB_of hc))
      simpa using this
    have hup : ∀ m, m < l1.length → (g m).E.upd ≠ [] ∨ (g m).E.ar ≠ none → D m = lt_ l1.length m := by
      intro m hm1 hc
      rw [lt_iff.2 hm1]
      refine hD m ?_
      have he' : es[m]? = some (g m) := by have := esat m hm1; rwa [List.getElem?_append_left (by omega)] at this
      rcases quietB_at b4 he' with e | ⟨e1, e2⟩
      · simpa using e
      · rcases hc with hc | hc
        · exact absurd e1 hc
        · exact absurd e2 hc
    have sC : ∀ h, s'.C h = hget S1.H h := by
      intro h
      rw [I'.C h, ← z7, ← Cd_lt c (Nat.le_refl _) _ (Nat.le_refl _) (Nat.le_refl _) h]
      exact Cd_frame fun m hm1 ⟨p, hp, _⟩ => hup m hm1 (.inl fun e => by rw [e] at hp; cases hp)
    have sA : s'.A = S1.A := by
      rw [I'.A, ← z8, ← Ad_lt c (Nat.le_refl _) _ (Nat.le_refl _) (Nat.le_refl _)]
      exact Ad_frame fun m hm1 hp => hup m hm1 (.inr hp)
    refine pan_op (ds := ds) (by rw [he]; simp) h2 h3 h4 h5 ((Stp.drawn _).trans I'.stp) I'.wd (fun t x ht hx => I'.L t x ?_) sC sA (fun k hk => I'.b k (by rw [z7]; exact hk)) I'.size I'.defers fun s2 w2 g2 m1 m2 m3 m4 m5 => ?_
    · rw [← hx, ← z6, ← Ld_lt c (Nat.le_refl _) _ (Nat.le_refl _) (Nat.le_refl _) t]
      refine Ld_frame fun m hm1 hd => hconf m hm1 (.inr (.inr ⟨t, hd, .inr ?_⟩))
      rw [h2.eo]; exact ht
    · refine k s2 w2 a' g2 ⟨m1, m2, fun t x hx => ?_, I'.size, I'.defers⟩ m3 m5
      obtain ⟨hx, hf⟩ := dropD_lk hx
      subst h4
      have hx : lk q.e.L t = some x := hx
      rw [h2.eL] at hx
      refine m4 _ _ (I'.L t x ?_)
      rw [← hx, ← z6, ← Ld_lt c (Nat.le_refl _) _ (Nat.le_refl _) (Nat.le_refl _) t]
      refine Ld_frame fun m hm1 hd => ?_
      rw [lt_iff.2 hm1]
      have he' : es[m]? = some (g m) := by have := esat m hm1; rwa [List.getElem?_append_left (by omega)] at this
      refine hD m ?_
      have := freeD_at he' hd hf
      simpa using this
  simpa using this
end

structure StpK (k : Nat) (s : Ms) (w : World) (s' : Ms) (w' : World) : Prop where
  J : ∀ b gs, s.J b = some gs → s'.J b = some gs
  bs : ∀ (i b : Nat), s.bs[i]? = some b → s'.bs[i]? = some b
  f : ∀ h, h < k → s.ρ h ≠ .unborn → Fate s s' h
  os : w'.os = w.os
  tape : w'.tape = w.tape
  output : w'.output = w.output
  sz : w.heap.size ≤ w'.heap.size
  old : ∀ b, b < w.heap.size → ¬ Own s b → w'.heap[b]? = w.heap[b]?
  own : ∀ b, Own s' b → Own s b ∨ w.heap.size ≤ b
  jn : ∀ b gs, s'.J b = some gs → s.J b = some gs ∨ Own s b ∨ w.heap.size ≤ b
theorem Stp.K {s s' : Ms} {w w' : World} (h : Stp s w s' w') (k : Nat) : StpK k s w s' w' := ⟨h.le.J, h.le.bs, fun x _ hx => h.le.f x hx, h.os, h.tape, h.output, h.sz, h.old, h.own, h.jn⟩
theorem StpK.refl (k : Nat) (s : Ms) (w : World) : StpK k s w s w := (Stp.refl s w).K k
theorem StpK.full {k : Nat} {s s' : Ms} {w w' : World} (h : StpK k s w s' w') (hb : ∀ x, k ≤ x → s.ρ x = .unborn) : Stp s w s' w' :=
  ⟨⟨h.J, h.bs, fun x hx => h.f x (by
    rcases Nat.lt_or_ge x k with c | c
    · exact c
    · exact absurd (hb x c) hx) hx⟩, h.os, h.tape, h.output, h.sz, h.old, h.own, h.jn⟩
theorem StpK.trans {n : Nat} {s s' s'' : Ms} {w w' w'' : World} (h : StpK n s w s' w') (k : StpK n s' w' s'' w'') : StpK n s w s'' w'' := by
  refine ⟨fun b gs e => k.J b gs (h.J b gs e), fun i b e => k.bs i b (h.bs i b e), fun x hn hx => (h.f x hn hx).trans (k.f x hn ((h.f x hn hx).born hx)), k.os.trans h.os, k.tape.trans h.tape, k.output.trans h.output, Nat.le_trans h.sz k.sz, ?_, ?_, ?_⟩
  · intro b hb ho
    refine (k.old b (Nat.lt_of_lt_of_le hb h.sz) fun ho' => ?_).trans (h.old b hb ho)
    rcases h.own b ho' with e | e
    · exact ho e
    · omega
  · intro b ho
    rcases k.own b ho with e | e
    · exact h.own b e
    · exact .inr (Nat.le_trans h.sz e)
  · intro b gs hj
    rcases k.jn b gs hj with e | e | e
    · exact h.jn b gs e
    · rcases h.own b e with e | e
      · exact .inr (.inl e)
      · exact .inr (.inr e)
    · exact .inr (.inr (Nat.le_trans h.sz e))
def End (N k : Nat) (ds : List Deferred) (S : ASt) (x : Ex) (s : Ms) (w : World) : Exit → Act → World → Prop := fun e a' w' => ∃ s', StpK k s w s' w' ∧ (match x, e with
  | .normal, .normal => SI N ds S s' w' a'
  | .exit i, .exit j => i = j ∧ SI N ds S s' w' a'
  | .ret, .ret => SI N ds S s' w' a'
  | .pan v, .panic c => ∃ g, c = [{ v := g, recovered := false }] ∧ V s' v g ∧ SI N ds S s' w' a'
  | _, _ => False)
def Runs (P : Program) (N k : Nat) (c : Code) (S : ASt) (x : Ex) (S' : ASt) : Prop := ∀ ds s w a, SI N ds S s w a → c.wp P (End N k ds S' x s w) a w
theorem End.step {N n : Nat} {ds : List Deferred} {S : ASt} {x : Ex} {s0 s : Ms} {w0 w : World} {e : Exit} {a : Act} {w' : World} (h : StpK n s0 w0 s w) (k : End N n ds S x s w e a w') : End N n ds S x s0 w0 e a w' := by
  obtain ⟨s', h1, h2⟩ := k
  exact ⟨s', h.trans h1, h2⟩

def isDead : AO → Bool
  | .dead => true
  | _ => false
theorem isDead_e {o : AO} (h : isDead o = true) : o = .dead := by cases o <;> first | rfl | cases h
def idk (k : Nat) : Rn := ⟨fun h => bif Nat.blt h k then some h else none, true⟩
def markS (s : Ms) (m : Nat → Bool) : Ms := { s with ρ := fun h => bif m h then .dead else s.ρ h, C := fun h => bif m h then .dead else s.C h }
theorem mark_le {s : Ms} {m : Nat → Bool} : Le s (markS s m) := by
  refine ⟨fun _ _ h => h, fun _ _ h => h, fun h hr => ?_⟩
  cases hm : m h
  · exact .same (by simp [markS, hm]) (by simp only [markS, hm, cond_false]; exact Kin.rfl')
  · exact .died (by simp [markS, hm]) (by simp [markS, hm])
theorem mark_own {s : Ms} {m : Nat → Bool} {h b sz : Nat} (e : (markS s m).ρ h = .at b sz) : s.ρ h = .at b sz ∧ m h = false := by
  cases hm : m h
  · simp only [markS, hm, cond_false] at e; exact ⟨e, rfl⟩
  · simp only [markS, hm, cond_true] at e; cases e
theorem mark_wd {s : Ms} {w : World} {m : Nat → Bool} (hW : Wd s w) : Wd (markS s m) w := by
  refine ⟨fun h b sz e => ?_, fun h h' b sz sz' e e' => hW.inj h h' b sz sz' (mark_own e).1 (mark_own e').1, fun i b e => ?_, hW.len, hW.nodup, hW.imm, fun h b sz e => hW.d1 h b sz (mark_own e).1, hW.d2, fun h b sz e => hW.d3 h b sz (mark_own e).1, fun h e => ?_, hW.cln⟩
  · obtain ⟨e1, e2⟩ := mark_own e
    obtain ⟨o, ho, hO⟩ := hW.obj h b sz e1
    refine ⟨o, ho, ?_⟩
    have : (markS s m).C h = s.C h := by simp [markS, e2]
    rw [this]; exact hO.mono mark_le
  · obtain ⟨gs, te, cs, a1, a0, a2, a3⟩ := hW.node i b e
    exact ⟨gs, te, cs, a1, a0, a2, a3.mono fun x g h => h.mono mark_le⟩
  · cases hm : m h
    · have e2 : s.ρ h = .nl := by simpa [markS, hm] using e
      obtain ⟨te, k, hk⟩ := hW.nl h e2
      exact ⟨te, k, by simpa [markS, hm] using hk⟩
    · simp [markS, hm] at e
theorem mark_stp {s : Ms} {w : World} {m : Nat → Bool} : Stp s w (markS s m) w := by
  refine ⟨mark_le, rfl, rfl, rfl, Nat.le_refl _, fun _ _ _ => rfl, ?_, fun _ _ h => .inl h⟩
  rintro b (⟨h, sz, e⟩ | hb)
  · exact .inl (.inl ⟨h, sz, (mark_own e).1⟩)
  · exact .inl (.inr hb)
def cutS (s : Ms) (H : List AO) : Ms := { s with ρ := fun h => bif Nat.blt h H.length then s.ρ h else .unborn, C := hget H }
theorem nblt {a b : Nat} : Nat.blt a b = true ↔ a < b := ⟨blt, fun h => Nat.ble_eq_true_of_le (show a + 1 ≤ b from h)⟩
theorem cut_own {s : Ms} {H : List AO} {h b sz : Nat} (e : (cutS s H).ρ h = .at b sz) : s.ρ h = .at b sz ∧ h < H.length := by
  cases hb : Nat.blt h H.length
  · simp only [cutS, hb, cond_false] at e; cases e
  · simp only [cutS, hb, cond_true] at e; exact ⟨e, nblt.1 hb⟩
theorem cut_sees {s : Ms} {H : List AO} (hC : ∀ h, h < H.length → s.C h = hget H h) : Sees (idk H.length) s (cutS s H) := by
  refine ⟨rfl, fun h h' e => ?_, fun _ => rfl⟩
  simp only [idk] at e
  cases hb : Nat.blt h H.length
  · rw [hb] at e; cases e
  · rw [hb] at e
    simp only [cond_true, Option.some.injEq] at e
    subst e
    refine ⟨by simp [cutS, hb], ?_⟩
    rw [hC h (nblt.1 hb)]
    exact Kin.rfl'
theorem cut_wd {s : Ms} {w : World} {H : List AO} (hW : Wd s w) (hC : ∀ h, h < H.length → s.C h = hget H h) (ho : ∀ h, h < H.length → renO (idk H.length) (hget H h) = some (hget H h)) (hA : ∀ cs ∈ s.A, renL (idk H.length) cs = some cs) : Wd (cutS s H) w := by
  have hs := cut_sees hC
  refine ⟨fun h b sz e => ?_, fun h h' b sz sz' e e' => hW.inj h h' b sz sz' (cut_own e).1 (cut_own e').1, fun i b e => ?_, hW.len, hW.nodup, hW.imm, fun h b sz e => hW.d1 h b sz (cut_own e).1, hW.d2, fun h b sz e => hW.d3 h b sz (cut_own e).1, fun h e => ?_, hW.cln⟩
  · obtain ⟨e1, e2⟩ := cut_own e
    obtain ⟨o, ho', hO⟩ := hW.obj h b sz e1
    refine ⟨o, ho', ?_⟩
    rw [hC h e2] at hO
    exact renO_ok hs (ho h e2) hO
  · obtain ⟨gs, te, cs, a1, a0, a2, a3⟩ := hW.node i b e
    exact ⟨gs, te, cs, a1, a0, a2, a3.ren hs (hA cs (List.mem_of_getElem? a2))⟩
  · cases hb : Nat.blt h H.length
    · simp [cutS, hb] at e
    · have e2 : s.ρ h = .nl := by simpa [cutS, hb] using e
      obtain ⟨te, k, hk⟩ := hW.nl h e2
      exact ⟨te, k, by rw [← hk, hC h (nblt.1 hb)]; rfl⟩
def lessH (k : Nat) (H : List AO) : Nat → List AO → List (EV × EV)
  | _, [] => []
  | i, o :: r => (match o with
    | .dead => lessH k H (i + 1) r
    | o => (.o (some (hget H i)), .o (some o)) :: (.o (renO (idk k) o), .o (some o)) :: lessH k H (i + 1) r)
def lessL (k : Nat) (L : Fr) : Fr → List (EV × EV)
  | [] => []
  | (t, x) :: r => (.v (lk L t), .v (some x)) :: (.v (ren (idk k) x), .v (some x)) :: lessL k L r
def lessD (m0 : Nat) (S S1 : ASt) : Option (List (EV × EV)) :=
  bif Nat.ble S1.H.length S.H.length && Nat.ble m0 S1.H.length then some (lessH S1.H.length S.H 0 S1.H ++ lessL S1.H.length S.L S1.L ++ [(.l S.A, .l S1.A)]) else none
theorem lessH_ok {k : Nat} {H : List AO} : ∀ {l : List AO} {i : Nat}, okP (lessH k H i l) → ∀ j, j < l.length → isDead (hget l j) = true ∨ (hget H (i + j) = hget l j ∧ renO (idk k) (hget l j) = some (hget l j))
  | [], i, _, j, hj => by simp at hj
  | o :: r, i, h, j, hj => by
    have tl : okP (lessH k H (i + 1) r) ∧ (isDead o = true ∨ (hget H i = o ∧ renO (idk k) o = some o)) := by
      cases o with
      | dead => exact ⟨h, .inl rfl⟩
      | _ =>
        simp only [lessH] at h
        have h1 := h _ (List.mem_cons_self ..)
        have h2 := h _ (List.mem_cons_of_mem _ (List.mem_cons_self ..))
        simp only [EV.o.injEq, Option.some.injEq] at h1 h2
        exact ⟨fun q hq => h q (List.mem_cons_of_mem _ (List.mem_cons_of_mem _ hq)), .inr ⟨h1, h2⟩⟩
    cases j with
    | zero => simpa [hget] using tl.2
    | succ j =>
      have := lessH_ok tl.1 j (by simpa using hj)
      rw [show i + 1 + j = i + (j + 1) by omega] at this
      simpa [hget] using this
theorem lessL_ok {k : Nat} {L : Fr} : ∀ {l : Fr}, okP (lessL k L l) → ∀ t x, lk l t = some x → lk L t = some x ∧ ren (idk k) x = some x
  | [], _, t, x, h => by cases h
  | (t0, x0) :: r, h, t, x, hx => by
    have h1 := h _ (List.mem_cons_self ..)
    have h2 := h _ (List.mem_cons_of_mem _ (List.mem_cons_self ..))
    simp only [EV.v.injEq] at h1 h2
    simp only [lk] at hx
    cases hb : Nat.beq t0 t
    · rw [hb] at hx
      exact lessL_ok (fun q hq => h q (List.mem_cons_of_mem _ (List.mem_cons_of_mem _ hq))) t x hx
    · rw [hb] at hx
      have := Nat.eq_of_beq_eq_true hb
      subst this
      simp only [cond_true, Option.some.injEq] at hx
      subst hx
      exact ⟨h1, h2⟩
theorem okP_app {a b : List (EV × EV)} (h : okP (a ++ b)) : okP a ∧ okP b := ⟨fun q hq => h q (List.mem_append.2 (.inl hq)), fun q hq => h q (List.mem_append.2 (.inr hq))⟩
theorem less_ok {m0 N : Nat} {ds : List Deferred} {S S1 : ASt} {l : List (EV × EV)} (hl : lessD m0 S S1 = some l) (he : okP l) {s0 s : Ms} {w0 w : World} {a : Act} (h : SI N ds S s w a) (hs : StpK m0 s0 w0 s w) :
    ∃ s1, SI N ds S1 s1 w a ∧ StpK m0 s0 w0 s1 w := by
  unfold lessD at hl
  obtain ⟨h1, hl⟩ := condE' hl
  simp only [Bool.and_eq_true] at h1
  obtain ⟨h1, h2⟩ := h1
  have h1 := Nat.le_of_ble_eq_true h1
  have h2 := Nat.le_of_ble_eq_true h2
  cases hl
  obtain ⟨e12, e3⟩ := okP_app he
  obtain ⟨e1, e2⟩ := okP_app e12
  have eA := e3 _ (List.mem_singleton.2 rfl)
  simp only [EV.l.injEq] at eA
  let m : Nat → Bool := fun h => Nat.blt h S1.H.length && isDead (hget S1.H h)
  have hH := fun j hj => lessH_ok (i := 0) e1 j hj
  have hC : ∀ h, h < S1.H.length → (markS s m).C h = hget S1.H h := by
    intro j hj
    rcases hH j hj with hd | ⟨k1, k2⟩
    · have : m j = true := by simp [m, nblt.2 hj, hd]
      simp [markS, this, isDead_e hd]
    · rw [Nat.zero_add] at k1
      cases hm : m j
      · simp [markS, hm, h.is.C j, k1]
      · have hd : isDead (hget S1.H j) = true := by simp only [m, Bool.and_eq_true] at hm; exact hm.2
        simp [markS, hm, isDead_e hd]
  have ho : ∀ h, h < S1.H.length → renO (idk S1.H.length) (hget S1.H h) = some (hget S1.H h) := by
    intro j hj
    rcases hH j hj with hd | ⟨k1, k2⟩
    · rw [isDead_e hd]; rfl
    · exact k2
  have hW1 := cut_wd (mark_wd (m := m) h.wd) hC ho (fun cs hcs => cln_ren rfl fun x hx => h.wd.cln cs hcs x hx)
  refine ⟨cutS (markS s m) S1.H, ⟨hW1, ⟨fun _ => rfl, ?_, fun k hk => ?_⟩, fun t x hx => ?_, h.size, h.defers⟩, ?_⟩
  · show s.A = S1.A
    rw [h.is.A]; exact eA
  · have : Nat.blt k S1.H.length = false := by
      cases hb : Nat.blt k S1.H.length
      · rfl
      · have := nblt.1 hb; omega
    simp [cutS, this]
  · obtain ⟨k1, k2⟩ := lessL_ok e2 t x hx
    exact ((h.L t x k1).mono mark_le).ren (cut_sees hC) k2
  · have hs2 := hs.trans ((mark_stp (m := m)).K m0)
    refine ⟨hs2.J, hs2.bs, fun k hkm hk => ?_, hs2.os, hs2.tape, hs2.output, hs2.sz, hs2.old, ?_, hs2.jn⟩
    · have hb : Nat.blt k S1.H.length = true := nblt.2 (by omega)
      have e1 : (cutS (markS s m) S1.H).ρ k = (markS s m).ρ k := by simp [cutS, hb]
      have e2 : (cutS (markS s m) S1.H).C k = (markS s m).C k := by rw [hC k (by omega)]; rfl
      cases hs2.f k hkm hk with
      | same f1 f2 => exact .same (e1.trans f1) (by rw [e2]; exact f2)
      | died f1 f2 => exact .died (e1.trans f1) (e2.trans f2)
      | grew f1 f2 f3 f4 f5 => exact .grew f1 (e2.trans f2) f3 (by rw [e1]; exact f4) (by rw [e1]; exact f5)
    · rintro b (⟨k, sz, e⟩ | hb)
      · exact hs2.own b (.inl ⟨k, sz, (cut_own e).1⟩)
      · exact hs2.own b (.inr hb)

def newS (H : List AO) (o : Option Nat) (k : Nat) : AV × List AO := match o with
  | none => (.ro false k 0 [], H)
  | some e => (.sl 0 H.length 0 0 0, H ++ [.arr true e k 0 []])
def fzL (H : List AO) (h : Nat) (L : Fr) : List Nat → Option (Fr × List (Nat × Nat))
  | [] => some (L, [])
  | t :: r => (match lk L t with
    | some x => (match lendA H [h] x with
      | some (y, eq) => (match fzL H h L r with
        | some (L', e') => some ((t, y) :: L', eq ++ e')
        | none => none)
      | none => none)
    | none => none)
def fzB (H0 : List AO) (h : Nat) (H : List AO) : List (Nat × Nat) → Option (List AO × List (Nat × Nat))
  | [] => some (H, [])
  | (b, i) :: r => (match hget H0 b with
    | .box cs0 => (match cs0[i]? with
      | some x => (match lendA H0 [h] x with
        | some (y, eq) => (match hget H b with
          | .box cs => bif Nat.blt i cs.length then (match fzB H0 h (H.set b (.box (cs.set i y))) r with
            | some (H', e') => some (H', eq ++ e')
            | none => none) else none
          | _ => none)
        | none => none)
      | none => none)
    | _ => none)
def rnL (σ : List Nat) (L : Fr) : List Nat → Option Fr
  | [] => some []
  | t :: r => (match lk L t with
    | some x => (match ren (hand σ true) x with
      | some y => (match rnL σ L r with
        | some L' => some ((t, y) :: L')
        | none => none)
      | none => none)
    | none => none)
def idTo : Nat → Nat → List Nat → Bool
  | 0, _, _ => true
  | _ + 1, _, [] => false
  | k + 1, i, h :: r => Nat.beq h i && idTo k (i + 1) r
def adj (k0 : Nat) (S : ASt) : IK → Option (ASt × List (Nat × Nat) × Prop)
  | .adL t o k => (match lk S.L t with
    | some x => bif nilB x then some (⟨(t, (newS S.H o k).1) :: S.L, (newS S.H o k).2, S.A⟩, [], True) else none
    | none => none)
  | .adB h i o k => (match hget S.H h with
    | .box cs => (match cs[i]? with
      | some x => bif nilB x then some (⟨S.L, (newS S.H o k).2.set h (.box (cs.set i (newS S.H o k).1)), S.A⟩, [], True) else none
      | none => none)
    | .seg ss => (match ss[i]? with
      | some (.c x) => bif nilB x then some (⟨S.L, (newS S.H o k).2.set h (.seg (ss.set i (.c (newS S.H o k).1))), S.A⟩, [], True) else none
      | _ => none)
    | _ => none)
  | .frz h ts bs => (match hget S.H h with
    | .arr z e k n xs => (match fzL S.H h S.L ts with
      | some (L', e1) => (match fzB S.H h (S.H.set h .dead) bs with
        | some (H', e2) => some (⟨L', H', S.A⟩, e1 ++ e2, True)
        | none => none)
      | none => none)
    | _ => none)
  | .ron t i m => (match lk S.L t with
    | some (.ro c k n xs) => (match i with
      | none => some (⟨(t, .ro c k m xs) :: S.L, S.H, S.A⟩, [], xs.length = m)
      | some _ => none)
    | some (.agg cs) => (match i with
      | some i => (match cs[i]? with
        | some (.ro c k n xs) => some (⟨(t, .agg (cs.set i (.ro c k m xs))) :: S.L, S.H, S.A⟩, [], xs.length = m)
        | _ => none)
      | none => none)
    | _ => none)
  | .cutn t n' ys => (match lk S.L t with
    | some (.sl c h n off len) => (match hget S.H h with
      | .arr z e k n0 xs => some (⟨(t, .sl 0 S.H.length n' 0 n') :: S.L, S.H.set h .dead ++ [.arr z e k n' ys], S.A⟩, [(n, n0), (c, 0), (off, 0)], xs.take len = ys ∧ ys.length = n')
      | _ => none)
    | _ => none)
  | .rn σ ts => bif nodupB σ && σ.all (fun h => Nat.blt h S.H.length) && idTo k0 0 σ && S.A.isEmpty then (match rnL σ S.L ts with
    | some L' => (match renOL (hand σ true) (σ.map (hget S.H)) with
      | some H' => some (⟨L', H', S.A⟩, [], True)
      | none => none)
    | none => none) else none
  | _ => none
def isAdj : IK → Bool
  | .adL _ _ _ => true
  | .adB _ _ _ _ => true
  | .frz _ _ _ => true
  | .ron _ _ _ => true
  | .cutn _ _ _ => true
  | .rn _ _ => true
  | _ => false
def adjs (k0 : Nat) : ASt → List It → Option (ASt × List It × Dt)
  | S, [] => some (S, [], ⟨[], []⟩)
  | S, i :: r => (match isAdj i.k with
    | false => some (S, i :: r, ⟨[], []⟩)
    | true => (match adj k0 S i.k with
      | some (S', eq, p) => (match adjs k0 S' r with
        | some (S2, sc, d) => some (S2, sc, (⟨[p], natE eq⟩ : Dt).app d)
        | none => none)
      | none => none))
section
variable {N : Nat} {ds : List Deferred} {S S' : ASt} {s : Ms} {w : World} {a : Act}
theorem box_lt {H : List AO} {h : Nat} {o : AO} (e : hget H h = o) (k : o ≠ .dead) : h < H.length := by
  rcases Nat.lt_or_ge h H.length with hl | hl
  · exact hl
  · exact absurd (by rw [← e]; simp [hget, hl]) k
theorem adopt (h : SI N ds S s w a) (o : Option Nat) (k : Nat) : ∃ s', Stp s w s' w ∧ SI N ds ⟨S.L, (newS S.H o k).2, S.A⟩ s' w a ∧ V s' (newS S.H o k).1 (.slice none 0 0) := by
  cases o with
  | none => exact ⟨s, Stp.refl s w, ⟨h.wd, h.is, h.L, h.size, h.defers⟩, .im .nil0⟩
  | some e =>
    have hun : s.ρ S.H.length = .unborn := h.is.b _ (Nat.le_refl _)
    obtain ⟨hw, hst⟩ := Wd.put (r := .nl) (o := .arr true e k 0 []) (w' := w) h.wd (fun e => absurd hun e) rfl rfl rfl (Nat.le_refl _) (fun _ _ _ => rfl) (fun b sz e => by cases e) (fun b sz e => by cases e) (fun _ => ⟨e, k, rfl⟩)
    refine ⟨_, hst, ⟨hw, ⟨fun j => ?_, h.is.A, fun j hj => ?_⟩, fun t x hx => (h.L t x hx).mono hst.le, h.size, h.defers⟩, .sl0 put_ρ put_C⟩
    · show (s.put S.H.length .nl (.arr true e k 0 [])).C j = hget (S.H ++ [.arr true e k 0 []]) j
      rw [hget_app]
      by_cases e' : j = S.H.length
      · subst e'; rw [if_pos rfl, put_C]
      · rw [if_neg e', put_C' e']; exact h.is.C j
    · have hj' : S.H.length + 1 ≤ j := by simpa [newS] using hj
      rw [put_ρ' (by omega)]
      exact h.is.b j (by omega)
theorem turn {h i : Nat} {cs : List AV} {x y : AV} (hS : SI N ds S s w a) (hc : hget S.H h = .box cs) (hx : cs[i]? = some x) (hv : ∀ (b sz : Nat) (gs : List Value) (te : TypeId) (g : Value), s.ρ h = .at b sz → w.heap[b]? = some (.cells gs.toArray te (0, 0)) → gs[i]? = some g → V s x g → V s y g) :
    ∃ s', Stp s w s' w ∧ SI N ds ⟨S.L, S.H.set h (.box (cs.set i y)), S.A⟩ s' w a ∧ s'.J = s.J ∧ ∀ j, s'.ρ j = s.ρ j := by
  have hlt := box_lt hc (by simp)
  have hC := (hS.is.C h).trans hc
  have hf : Fate s (s.put h (s.ρ h) (.box (cs.set i y))) h := .same put_ρ (by rw [put_C, hC]; trivial)
  have hle : Le s (s.put h (s.ρ h) (.box (cs.set i y))) := Le.put (fun _ => hf)
  obtain ⟨hw, hst⟩ := Wd.put (r := s.ρ h) (o := .box (cs.set i y)) (w' := w) hS.wd (fun _ => hf) rfl rfl rfl (Nat.le_refl _) (fun _ _ _ => rfl) (fun b sz e => .inl ⟨sz, e⟩) (fun b sz e => by
    obtain ⟨ob, ho, hO⟩ := hS.wd.obj h b sz e
    rw [hC] at hO
    obtain ⟨gs, te, rfl, h1, h2, h3⟩ := hO
    refine ⟨_, ho, gs, te, rfl, h1, h2, by rw [List.length_set]; exact h3.1, fun j z g hj hg => ?_⟩
    by_cases e' : i = j
    · subst e'
      rw [List.getElem?_set_self (List.getElem?_eq_some_iff.1 hx).1] at hj
      cases hj
      exact (hv _ _ _ _ g e ho hg (h3.2 _ _ _ hx hg)).mono hle
    · rw [List.getElem?_set_ne e'] at hj
      exact (h3.2 _ _ _ hj hg).mono hle) (fun e => by
    obtain ⟨te, k, hk⟩ := hS.wd.nl h e
    rw [hC] at hk; cases hk)
  refine ⟨_, hst, ⟨hw, ⟨fun j => ?_, hS.is.A, fun j hj => ?_⟩, fun t z hz => (hS.L t z hz).mono hst.le, hS.size, hS.defers⟩, rfl, fun j => by
    by_cases e : j = h
    · subst e; exact put_ρ
    · exact put_ρ' e⟩
  · show (s.put h (s.ρ h) (.box (cs.set i y))).C j = hget (S.H.set h (.box (cs.set i y))) j
    rw [hget_set hlt]
    by_cases e' : j = h
    · subst e'; rw [if_pos rfl, put_C]
    · rw [if_neg e', put_C' e']; exact hS.is.C j
  · have hj' : S.H.length ≤ j := by simpa using hj
    rw [put_ρ' (by omega)]
    exact hS.is.b j hj'
theorem SegR.turn : ∀ {ss : List Sg} {gs : List Value} {i : Nat} {x y : AV}, SegR s ss gs → ss[i]? = some (.c x) → (∀ g, V s x g → V s y g) → SegR s (ss.set i (.c y)) gs
  | [], gs, i, x, y, _, h, _ => by simp at h
  | .c z :: r, gs, 0, x, y, h, hx, hv => by
    simp at hx; subst hx
    obtain ⟨g, t, e, h1, h2⟩ := h
    exact ⟨g, t, e, hv g h1, h2⟩
  | .a k n xs :: r, gs, 0, x, y, h, hx, hv => by simp at hx
  | .c z :: r, gs, i + 1, x, y, h, hx, hv => by
    obtain ⟨g, t, e, h1, h2⟩ := h
    exact ⟨g, t, e, h1, SegR.turn h2 (by simpa using hx) hv⟩
  | .a k n xs :: r, gs, i + 1, x, y, h, hx, hv => by
    obtain ⟨us, t, e, h1, h2⟩ := h
    exact ⟨us, t, e, h1, SegR.turn h2 (by simpa using hx) hv⟩
theorem turnS {h i : Nat} {ss : List Sg} {x y : AV} (hS : SI N ds S s w a) (hc : hget S.H h = .seg ss) (hx : ss[i]? = some (.c x)) (hv : ∀ g, V s x g → V s y g) :
    ∃ s', Stp s w s' w ∧ SI N ds ⟨S.L, S.H.set h (.seg (ss.set i (.c y))), S.A⟩ s' w a := by
  have hlt := box_lt hc (by simp)
  have hC := (hS.is.C h).trans hc
  have hf : Fate s (s.put h (s.ρ h) (.seg (ss.set i (.c y)))) h := .same put_ρ (by rw [put_C, hC]; trivial)
  have hle : Le s (s.put h (s.ρ h) (.seg (ss.set i (.c y)))) := Le.put (fun _ => hf)
  obtain ⟨hw, hst⟩ := Wd.put (r := s.ρ h) (o := .seg (ss.set i (.c y))) (w' := w) hS.wd (fun _ => hf) rfl rfl rfl (Nat.le_refl _) (fun _ _ _ => rfl) (fun b sz e => .inl ⟨sz, e⟩) (fun b sz e => by
    obtain ⟨ob, ho, hO⟩ := hS.wd.obj h b sz e
    rw [hC] at hO
    obtain ⟨gs, te, rfl, h1, h2, h3⟩ := hO
    exact ⟨_, ho, gs, te, rfl, h1, h2, (h3.turn hx hv).mono hle⟩) (fun e => by
    obtain ⟨te, k, hk⟩ := hS.wd.nl h e
    rw [hC] at hk; cases hk)
  refine ⟨_, hst, ⟨hw, ⟨fun j => ?_, hS.is.A, fun j hj => ?_⟩, fun t z hz => (hS.L t z hz).mono hst.le, hS.size, hS.defers⟩⟩
  · show (s.put h (s.ρ h) (.seg (ss.set i (.c y)))).C j = hget (S.H.set h (.seg (ss.set i (.c y)))) j
    rw [hget_set hlt]
    by_cases e' : j = h
    · subst e'; rw [if_pos rfl, put_C]
    · rw [if_neg e', put_C' e']; exact hS.is.C j
  · have hj' : S.H.length ≤ j := by simpa using hj
    rw [put_ρ' (by omega)]
    exact hS.is.b j hj'
theorem frz1 {h e k n : Nat} {z : Bool} {xs : List (List AV)} (hW : Wd s w) (hC : s.C h = .arr z e k n xs) : ∃ s', Wd s' w ∧ Stp s w s' w ∧ (∀ j, s'.C j = if j = h then .dead else s.C j) ∧ (∀ j, j ≠ h → s'.ρ j = s.ρ j) ∧ s'.A = s.A ∧
    ∀ c off len g, V s (.sl c h n off len) g → VI s'.J (.ro false k len ((xs.drop off).take len)) g := by
  by_cases hr : ∃ b sz, s.ρ h = .at b sz
  · obtain ⟨b, sz, hr⟩ := hr
    obtain ⟨gs, more, te, fr, h1, h2, h3⟩ := frz_val hW hC hr
    have hf := frz_wd hW hr h1
    refine ⟨_, hf.1, hf.2, fun j => rfl, fun j hj => by simp [frzS, hj], rfl, fun c off len g hv => ?_⟩
    rcases hv.slE' hC with ⟨b', sz', cap, o, hr', m1, m2, _, _, m5, rfl⟩ | ⟨_, hnl, _⟩
    · rw [hr] at hr'; cases hr'
      exact h3 off len cap o m1 m2 (m5.imp id fun h => h.2)
    · rw [hr] at hnl; cases hnl
  · refine ⟨markS s (fun j => j == h), mark_wd hW, mark_stp, fun j => ?_, fun j hj => by simp [markS, beq_eq_false_iff_ne.2 hj], rfl, fun c off len g hv => ?_⟩
    · by_cases e : j = h
      · simp [markS, e]
      · simp [markS, e, beq_eq_false_iff_ne.2 e]
    · rcases hv.slE' hC with ⟨b', sz', cap, o, hr', _⟩ | ⟨_, hnl, _, rfl, rfl, rfl⟩
      · exact absurd ⟨_, _, hr'⟩ hr
      · obtain ⟨te, tk, hc⟩ := hW.nl h hnl
        rw [hC] at hc
        injection hc with c1 c2 c3 c4 c5
        subst c4 c5
        simpa using (VI.nil0 : VI _ (.ro false k 0 []) (.slice none 0 0))
theorem fzL_ok {H : List AO} {h : Nat} {J : Imm} (key : ∀ {x y : AV} {eq : List (Nat × Nat)} {g : Value}, lendA H [h] x = some (y, eq) → (∀ e ∈ eq, e.1 = e.2) → V s x g → VI J y g) {L : Fr} (tm : Nat → Value) (hL : ∀ t x, lk L t = some x → V s x (tm t)) :
    ∀ {ts : List Nat} {L' : Fr} {eq : List (Nat × Nat)}, fzL H h L ts = some (L', eq) → (∀ e ∈ eq, e.1 = e.2) → ∀ t x, lk L' t = some x → VI J x (tm t) ∨ V s x (tm t)
  | [], L', eq, e, _, t, x, hx => by cases e; exact .inr (hL t x hx)
  | t0 :: r, L', eq, e, he, t, x, hx => by
    simp only [fzL] at e
    split at e
    · rename_i x0 h0
      split at e
      · rename_i y0 eq0 h1
        split at e
        · rename_i L1 e1 h2
          cases e
          obtain ⟨q1, q2⟩ := eqA he
          simp only [lk] at hx
          cases hb : Nat.beq t0 t
          · rw [hb] at hx
            exact fzL_ok key tm hL h2 q2 t x hx
          · rw [hb] at hx
            have := Nat.eq_of_beq_eq_true hb
            subst this
            simp only [cond_true, Option.some.injEq] at hx
            subst hx
            exact .inl (key h1 q1 (hL _ _ h0))
        · cases e
      · cases e
    · cases e
theorem fzB_ok {H0 : List AO} {h : Nat} {s0 : Ms} {J : Imm} (hW0 : Wd s0 w) (hC0 : ∀ j, s0.C j = hget H0 j) (hh : ∀ cs, hget H0 h ≠ .box cs) (key : ∀ {x y : AV} {eq : List (Nat × Nat)} {g : Value}, lendA H0 [h] x = some (y, eq) → (∀ e ∈ eq, e.1 = e.2) → V s0 x g → VI J y g) :
    ∀ {bs : List (Nat × Nat)} {S : ASt} {s : Ms} {H' : List AO} {eq : List (Nat × Nat)}, fzB H0 h S.H bs = some (H', eq) → (∀ e ∈ eq, e.1 = e.2) → (∀ b gs, J b = some gs → s.J b = some gs) → (∀ j, j ≠ h → s.ρ j = s0.ρ j) → SI N ds S s w a →
      ∃ s', Stp s w s' w ∧ SI N ds ⟨S.L, H', S.A⟩ s' w a
  | [], S, s, H', eq, e, _, _, _, hS => by cases e; exact ⟨s, Stp.refl s w, hS⟩
  | (b, i) :: r, S, s, H', eq, e, he, hJ, hρ, hS => by
    simp only [fzB] at e
    split at e
    · rename_i cs0 hc0
      split at e
      · rename_i x hx
        split at e
        · rename_i y eq0 h1
          split at e
          · rename_i cs hc
            have e0 := condE' e
            clear e
            obtain ⟨hi, e⟩ := e0
            split at e
            · rename_i H1 e1 h2
              cases e
              obtain ⟨q1, q2⟩ := eqA he
              have hi' : i < cs.length := blt hi
              have hbh : b ≠ h := fun e' => hh cs0 (by rw [← e']; exact hc0)
              obtain ⟨s1, k1, k2, k3, k4⟩ := turn hS hc (x := cs[i]) (List.getElem?_eq_getElem hi') (y := y) (fun b' sz gs te g hr ho hg _ => by
                rw [hρ b hbh] at hr
                obtain ⟨ob, ho', hO⟩ := hW0.obj b b' sz hr
                rw [hC0 b, hc0] at hO
                obtain ⟨gs', te', rfl, _, _, h3⟩ := hO
                rw [ho] at ho'
                injection ho' with ho'
                injection ho' with ho1 ho2 ho3
                have hgs : gs = gs' := by simpa using congrArg Array.toList ho1
                subst hgs
                exact .im ((key h1 q1 (h3.2 _ _ _ hx hg)).mono hJ))
              obtain ⟨s2, m1, m2⟩ := fzB_ok hW0 hC0 hh key (S := ⟨S.L, S.H.set b (.box (cs.set i y)), S.A⟩) h2 q2 (by rw [k3]; exact hJ) (fun j hj => (k4 j).trans (hρ j hj)) k2
              exact ⟨s2, k1.trans m1, m2⟩
            · cases e
          · cases e
        · cases e
      · cases e
    · cases e
theorem ro_len {s : Ms} {c : Bool} {k n m : Nat} {xs : List (List AV)} {g : Value} (h : V s (.ro c k n xs) g) (e : xs.length = m) : V s (.ro c k m xs) g := by
  have hv := h.roE
  cases hv with
  | nil hc => simp only [List.length_nil] at e; subst e; exact .im (.nil hc)
  | ro hn hj hb hc hl hk ho h' =>
    have : n = m := hn.symm.trans e
    subst this; exact h
theorem lk_cons {L : Fr} {t u : Nat} {x y : AV} (h : lk ((t, x) :: L) u = some y) : (u = t ∧ y = x) ∨ lk L u = some y := by
  simp only [lk] at h
  cases hb : Nat.beq t u
  · rw [hb] at h; exact .inr h
  · rw [hb] at h
    have := Nat.eq_of_beq_eq_true hb
    subst this
    cases h; exact .inl ⟨rfl, rfl⟩
theorem move_ok {hh h' : Nat} {o : AO} (hW : Wd s w) (hun : s.ρ h' = .unborn) (hne : hh ≠ h') (hO : ∀ s' : Ms, Le s s' → (∀ b gs, s.J b = some gs → s'.J b = some gs) → ∀ b sz, s.ρ hh = .at b sz → ∀ ob, OR s (s.C hh) sz ob → OR s' o sz ob)
    (hnl : s.ρ hh = .nl → ∃ e k, o = .arr true e k 0 []) :
    ∃ s', Wd s' w ∧ Stp s w s' w ∧ (∀ j, s'.C j = if j = h' then o else if j = hh then .dead else s.C j) ∧ (∀ j, s'.ρ j = if j = h' then s.ρ hh else if j = hh then .dead else s.ρ j) ∧ s'.J = s.J ∧ s'.A = s.A := by
  let s' : Ms := { s with ρ := fun j => if j = h' then s.ρ hh else if j = hh then .dead else s.ρ j, C := fun j => if j = h' then o else if j = hh then .dead else s.C j }
  have hρ : ∀ j, s'.ρ j = if j = h' then s.ρ hh else if j = hh then .dead else s.ρ j := fun _ => rfl
  have hC : ∀ j, s'.C j = if j = h' then o else if j = hh then .dead else s.C j := fun _ => rfl
  have hle : Le s s' := by
    refine ⟨fun _ _ e => e, fun _ _ e => e, fun j hj => ?_⟩
    have h1 : j ≠ h' := fun e => hj (by rw [e]; exact hun)
    by_cases h2 : j = hh
    · exact .died (by rw [hρ, if_neg h1, if_pos h2]) (by rw [hC, if_neg h1, if_pos h2])
    · exact .same (by rw [hρ, if_neg h1, if_neg h2]) (by rw [hC, if_neg h1, if_neg h2]; exact Kin.rfl')
  have at_ : ∀ {j b sz}, s'.ρ j = .at b sz → ∃ i, s.ρ i = .at b sz ∧ ((j = h' ∧ i = hh) ∨ (j ≠ h' ∧ j ≠ hh ∧ i = j)) := by
    intro j b sz e
    rw [hρ] at e
    by_cases h1 : j = h'
    · rw [if_pos h1] at e; exact ⟨hh, e, .inl ⟨h1, rfl⟩⟩
    · rw [if_neg h1] at e
      by_cases h2 : j = hh
      · rw [if_pos h2] at e; cases e
      · rw [if_neg h2] at e; exact ⟨j, e, .inr ⟨h1, h2, rfl⟩⟩
  have hown : ∀ b, Own s' b → Own s b := by
    rintro b (⟨j, sz, e⟩ | hb)
    · obtain ⟨i, hi, _⟩ := at_ e
      exact .inl ⟨i, sz, hi⟩
    · exact .inr hb
  refine ⟨s', ⟨fun j b sz e => ?_, fun j j' b sz sz' e e' => ?_, fun i b e => ?_, hW.len, hW.nodup, hW.imm, fun j b sz e => ?_, hW.d2, fun j b sz e => ?_, fun j e => ?_, hW.cln⟩, ⟨hle, rfl, rfl, rfl, Nat.le_refl _, fun _ _ _ => rfl, fun b h => .inl (hown b h), fun _ _ e => .inl e⟩, hC, hρ, rfl, rfl⟩
  · obtain ⟨i, hi, hc⟩ := at_ e
    obtain ⟨ob, ho, hr⟩ := hW.obj i b sz hi
    rcases hc with ⟨rfl, rfl⟩ | ⟨h1, h2, rfl⟩
    · exact ⟨ob, ho, by rw [hC, if_pos rfl]; exact hO s' hle hle.J b sz hi ob hr⟩
    · exact ⟨ob, ho, by rw [hC, if_neg h1, if_neg h2]; exact hr.mono hle⟩
  · obtain ⟨i, hi, hc⟩ := at_ e
    obtain ⟨i', hi', hc'⟩ := at_ e'
    have := hW.inj i i' b sz sz' hi hi'
    subst this
    rcases hc with ⟨rfl, rfl⟩ | ⟨h1, h2, rfl⟩ <;> rcases hc' with ⟨rfl, h3⟩ | ⟨h3, h4, h5⟩
    · rfl
    · exact absurd h5.symm h4
    · exact absurd h3 h2
    · exact h5
  · obtain ⟨gs, te, cs, a1, a0, a2, a3⟩ := hW.node i b e
    exact ⟨gs, te, cs, a1, a0, a2, a3.mono fun x g h => h.mono hle⟩
  · obtain ⟨i, hi, _⟩ := at_ e
    exact hW.d1 i b sz hi
  · obtain ⟨i, hi, _⟩ := at_ e
    exact hW.d3 i b sz hi
  · rw [hρ] at e
    by_cases h1 : j = h'
    · rw [if_pos h1] at e; rw [hC, if_pos h1]; exact hnl e
    · rw [if_neg h1] at e
      by_cases h2 : j = hh
      · rw [if_pos h2] at e; cases e
      · rw [if_neg h2] at e; rw [hC, if_neg h1, if_neg h2]; exact hW.nl j e
theorem cutn_ok {k0 t hh n len n' e k : Nat} {z : Bool} {xs ys : List (List AV)} (hS : SI N ds S s w a) (hx : lk S.L t = some (.sl 0 hh n 0 len)) (hc : hget S.H hh = .arr z e k n xs) (h1 : xs.take len = ys) (h2 : ys.length = n') :
    ∃ s', StpK k0 s w s' w ∧ SI N ds ⟨(t, .sl 0 S.H.length n' 0 n') :: S.L, S.H.set hh .dead ++ [.arr z e k n' ys], S.A⟩ s' w a := by
  have hlt := box_lt hc (by simp)
  have hC := (hS.is.C hh).trans hc
  have hv := hS.L _ _ hx
  have hun : s.ρ S.H.length = .unborn := hS.is.b _ (Nat.le_refl _)
  subst h2
  obtain ⟨s', k1, k2, k3, k4, k5, k6⟩ := move_ok (o := .arr z e k ys.length ys) (h' := S.H.length) hS.wd hun (by omega : hh ≠ S.H.length) (fun s' hle hJ b sz hr ob hO => by
    rcases hv.slE' hC with ⟨b', sz', cap, o, hr', m1, m2, m3, m4, m5, eg⟩ | ⟨_, hnl, _⟩
    · rw [hr] at hr'; cases hr'
      rw [hC] at hO
      obtain ⟨gs, cap', rfl, hon, hsz, hcap, hmax, hnc, hk0, hlen, hk, hVV⟩ := hO
      have hyl : ys.length = len := by rw [← h1, List.length_take]; omega
      have hle2 : ys.length * k ≤ n * k := Nat.mul_le_mul_right k (by omega)
      refine ⟨gs, cap', rfl, fun u hu => ?_, hsz, hcap, hmax, by omega, hk0, rfl, fun i x hi => ?_, fun i x j y g hi hj hg => ?_⟩
      · refine hon u ?_
        rw [show List.take (n * k) gs = List.take (ys.length * k) gs ++ List.drop (ys.length * k) (List.take (n * k) gs) by
          conv => lhs; rw [← List.take_append_drop (ys.length * k) (List.take (n * k) gs)]
          rw [List.take_take, Nat.min_eq_left hle2]]
        exact List.mem_append.2 (.inl hu)
      · rw [← h1, List.getElem?_take] at hi
        split at hi
        · exact hk _ _ hi
        · cases hi
      · rw [← h1, List.getElem?_take] at hi
        split at hi
        · exact (hVV i x j y g hi hj hg).mono hJ
        · cases hi
    · rw [hr] at hnl; cases hnl) (fun hnl => by
    obtain ⟨te, tk, hcc⟩ := hS.wd.nl hh hnl
    rw [hC] at hcc
    injection hcc with c1 c2 c3 c4 c5
    subst c1 c5
    simp at h1
    subst h1
    exact ⟨_, _, rfl⟩)
  refine ⟨s', k2.K k0, k1, ⟨fun j => ?_, by rw [k6]; exact hS.is.A, fun j hj => ?_⟩, fun u y hu => ?_, hS.size, hS.defers⟩
  · rw [k3]
    show _ = hget (S.H.set hh .dead ++ [.arr z e k ys.length ys]) j
    rw [hget_app]
    simp only [List.length_set]
    by_cases e1 : j = S.H.length
    · rw [if_pos e1, if_pos e1]
    · rw [if_neg e1, if_neg e1, hget_set hlt]
      by_cases e2 : j = hh
      · rw [if_pos e2, if_pos e2]
      · rw [if_neg e2, if_neg e2]; exact hS.is.C j
  · have hj' : S.H.length + 1 ≤ j := by simpa using hj
    rw [k4, if_neg (by omega), if_neg (by omega)]
    exact hS.is.b j (by omega)
  · rcases lk_cons hu with ⟨rfl, rfl⟩ | hu
    · rcases hv.slE' hC with ⟨b', sz', cap, o, hr', m1, m2, m3, m4, m5, eg⟩ | ⟨hz, hnl, hn0, _, hl0, eg⟩
      · rw [eg]
        obtain ⟨ob, hob, hO⟩ := hS.wd.obj _ _ _ hr'
        rw [hC] at hO
        obtain ⟨gs, cap', _, _, _, _, _, _, _, hlen, _⟩ := hO
        have hyl : ys.length = len := by rw [← h1, List.length_take]; omega
        have ho : o = 0 := by
          rcases m5 with m5 | ⟨m5, _⟩
          · simpa using m5
          · cases m5
        subst ho
        rw [← hyl]
        exact V.sl (c := 0) (off := 0) (by rw [k4, if_pos rfl]; exact hr') (by rw [k3, if_pos rfl]) (by omega) (by omega) m3 (fun e => by cases e) (.inl (by simp))
      · rw [eg]
        subst hz hn0 hl0
        simp only [List.take_zero] at h1
        subst h1
        exact .sl0 (by rw [k4, if_pos rfl]; exact hnl) (by rw [k3, if_pos rfl]; rfl)
    · exact (hS.L u y hu).mono k2.le
theorem idTo_at : ∀ {k i : Nat} {σ : List Nat}, idTo k i σ = true → ∀ j, j < k → σ[j]? = some (i + j)
  | 0, _, _, _, j, hj => by omega
  | k + 1, i, [], h, _, _ => by cases h
  | k + 1, i, x :: r, h, j, hj => by
    simp only [idTo, Bool.and_eq_true] at h
    cases j with
    | zero => simp [Nat.eq_of_beq_eq_true h.1]
    | succ j =>
      have := idTo_at h.2 j (by omega)
      rw [show i + (j + 1) = i + 1 + j by omega]
      simpa using this
theorem rnL_ok {σ : List Nat} {L : Fr} : ∀ {ts : List Nat} {L' : Fr}, rnL σ L ts = some L' → ∀ t y, lk L' t = some y → ∃ x, lk L t = some x ∧ ren (hand σ true) x = some y
  | [], L', h, t, y, hy => by cases h; cases hy
  | t0 :: r, L', h, t, y, hy => by
    simp only [rnL] at h
    split at h
    · rename_i x hx
      split at h
      · rename_i y0 hy0
        split at h
        · rename_i L1 h1
          cases h
          rcases lk_cons hy with ⟨rfl, rfl⟩ | hy
          · exact ⟨x, hx, hy0⟩
          · exact rnL_ok h1 t y hy
        · cases h
      · cases h
    · cases h
theorem rn_ok {k0 : Nat} {σ ts : List Nat} {L' : Fr} {H' : List AO} (hS : SI N ds S s w a) (h1 : nodupB σ = true) (h2 : σ.all (fun h => Nat.blt h S.H.length) = true) (h3 : idTo k0 0 σ = true) (hA : S.A = []) (hL : rnL σ S.L ts = some L') (hH : renOL (hand σ true) (σ.map (hget S.H)) = some H') :
    ∃ s', StpK k0 s w s' w ∧ SI N ds ⟨L', H', S.A⟩ s' w a := by
  have hCC : ∀ h ∈ σ, s.C h = hget S.H h := fun h _ => hS.is.C h
  have hs := callee_sees (nd := true) hCC hH
  have hW := callee_wd (nd := true) hS.wd (nodupB_ok h1) hCC hH
  refine ⟨calleeS s σ true H', ⟨fun _ _ e => e, fun _ _ e => e, fun h hk hr => ?_, rfl, rfl, rfl, Nat.le_refl _, fun _ _ _ => rfl, ?_, fun _ _ e => .inl e⟩, hW, ?_, fun t y hy => ?_, hS.size, hS.defers⟩
  · have hat := idTo_at h3 h hk
    rw [Nat.zero_add] at hat
    have hp : (hand σ true).f h = some h := posn_nodup (nodupB_ok h1) hat
    obtain ⟨e1, e2⟩ := hs.h h h hp
    exact .same e1 e2
  · rintro b (⟨i, sz, e⟩ | hb)
    · simp only [calleeS] at e
      cases hi : σ[i]? with
      | none => rw [hi] at e; cases e
      | some h => rw [hi] at e; exact .inl (.inl ⟨h, sz, e⟩)
    · exact .inl (.inr hb)
  · have := callee_is (s := s) (nd := true) hH
    simpa [hS.is.A] using this
  · obtain ⟨x, hx, hr⟩ := rnL_ok hL t y hy
    exact (hS.L t x hx).ren hs hr
theorem adj_ok {k0 : Nat} {k : IK} {eq : List (Nat × Nat)} {p : Prop} (h : adj k0 S k = some (S', eq, p)) (hp : p) (he : ∀ e ∈ eq, e.1 = e.2) (hS : SI N ds S s w a) : ∃ s', StpK k0 s w s' w ∧ SI N ds S' s' w a := by
  cases k <;> try (cases h; done)
  case adL t o k =>
    simp only [adj] at h
    split at h
    · rename_i x hx
      have h0 := condE' h
      clear h
      obtain ⟨h1, h⟩ := h0
      cases h
      obtain ⟨s', k1, k2, k3⟩ := adopt hS o k
      have e1 := nilB_e h1
      subst e1
      refine ⟨s', k1.K k0, k2.wd, k2.is, fun u y hu => ?_, k2.size, k2.defers⟩
      simp only [lk] at hu
      cases hb : Nat.beq t u
      · rw [hb] at hu; exact k2.L u y hu
      · rw [hb] at hu
        have := Nat.eq_of_beq_eq_true hb
        subst this
        simp only [cond_true, Option.some.injEq] at hu
        subst hu
        rw [(hS.L _ _ hx).vE]
        exact k3
    · cases h
  case adB hd i o k =>
    simp only [adj] at h
    split at h
    · rename_i cs hc
      split at h
      · rename_i x hx
        have h0 := condE' h
        clear h
        obtain ⟨h1, h⟩ := h0
        cases h
        obtain ⟨s', k1, k2, k3⟩ := adopt hS o k
        have e1 := nilB_e h1
        subst e1
        have hlt := box_lt hc (by simp)
        have hc' : hget (newS S.H o k).2 hd = .box cs := by
          cases o with
          | none => exact hc
          | some e => simp only [newS]; rw [hget_app, if_neg (by omega)]; exact hc
        obtain ⟨s2, m1, m2, _⟩ := turn k2 hc' hx (y := (newS S.H o k).1) (fun b sz gs te g _ _ _ hv => by rw [hv.vE]; exact k3)
        exact ⟨s2, (k1.trans m1).K k0, m2⟩
      · cases h
    · rename_i ss hc
      split at h
      · rename_i x hx
        have h0 := condE' h
        clear h
        obtain ⟨h1, h⟩ := h0
        cases h
        obtain ⟨s', k1, k2, k3⟩ := adopt hS o k
        have e1 := nilB_e h1
        subst e1
        have hlt := box_lt hc (by simp)
        have hc' : hget (newS S.H o k).2 hd = .seg ss := by
          cases o with
          | none => exact hc
          | some e => simp only [newS]; rw [hget_app, if_neg (by omega)]; exact hc
        obtain ⟨s2, m1, m2⟩ := turnS k2 hc' hx (y := (newS S.H o k).1) (fun g hv => by rw [hv.vE]; exact k3)
        exact ⟨s2, (k1.trans m1).K k0, m2⟩
      · cases h
    · cases h
  case frz hd ts bs =>
    simp only [adj] at h
    split at h
    · rename_i z e k n xs hc
      split at h
      · rename_i L' e1 hL
        split at h
        · rename_i H' e2 hB
          cases h
          obtain ⟨q1, q2⟩ := eqA he
          have hlt := box_lt hc (by simp)
          have hC := (hS.is.C hd).trans hc
          obtain ⟨s1, m1, m2, m3, m4, m5, m6⟩ := frz1 hS.wd hC
          have key : ∀ {x y : AV} {eq : List (Nat × Nat)} {g : Value}, lendA S.H [hd] x = some (y, eq) → (∀ e ∈ eq, e.1 = e.2) → V s x g → VI s1.J y g := fun {x y eq g} => lendA_ok (fun j _ => hS.is.C j) (fun j hj z' e' k' n' xs' hC' c off len g hv => by
              simp only [List.mem_singleton] at hj
              subst hj
              rcases hv.slE' hC' with ⟨b', sz', cap, o, hr', _⟩ | ⟨_, hnl, _⟩
              · obtain ⟨ob, ho, hO⟩ := hS.wd.obj _ _ _ hr'
                rw [hC'] at hO
                obtain ⟨gs, cap', _, _, _, _, _, _, _, hlen, _⟩ := hO
                exact hlen
              · obtain ⟨te, tk, hcc⟩ := hS.wd.nl _ hnl
                rw [hC'] at hcc
                injection hcc with c1 c2 c3 c4 c5
                subst c4 c5; rfl) m2.le.J (fun j hj z' e' k' n' xs' hC' c off len g hv => by
              simp only [List.mem_singleton] at hj
              subst hj
              rw [hC] at hC'
              injection hC' with c1 c2 c3 c4 c5
              subst c3 c4 c5
              exact m6 c off len g hv)
          have hS1 : SI N ds ⟨L', S.H.set hd .dead, S.A⟩ s1 w a := by
            refine ⟨m1, ⟨fun j => ?_, by rw [m5]; exact hS.is.A, fun j hj => ?_⟩, fun t x hx => ?_, hS.size, hS.defers⟩
            · show s1.C j = hget (S.H.set hd .dead) j
              rw [m3, hget_set hlt]
              by_cases e' : j = hd
              · rw [if_pos e', if_pos e']
              · rw [if_neg e', if_neg e']; exact hS.is.C j
            · have hj' : S.H.length ≤ j := by simpa using hj
              rw [m4 j (by omega)]
              exact hS.is.b j hj'
            · rcases fzL_ok key (fun t => a.tmps.getD t undef) hS.L hL q1 t x hx with h' | h'
              · exact .im h'
              · exact h'.mono m2.le
          obtain ⟨s2, n1, n2⟩ := fzB_ok (J := s1.J) hS.wd hS.is.C (by rw [hc]; intro cs e; cases e) key (S := ⟨L', S.H.set hd .dead, S.A⟩) hB q2 (fun _ _ h => h) m4 hS1
          exact ⟨s2, (m2.trans n1).K k0, n2⟩
        · cases h
      · cases h
    · cases h
  case cutn t n' ys =>
    simp only [adj] at h
    split at h
    · rename_i c hh n off len hx
      split at h
      · rename_i z e k n0 xs hc
        cases h
        have q1 := he (n, n0) (by simp)
        have q2 := he (c, 0) (by simp)
        have q3 := he (off, 0) (by simp)
        simp only at q1 q2 q3
        subst q1 q2 q3
        exact cutn_ok hS hx hc hp.1 hp.2
      · cases h
    · cases h
  case rn σ ts =>
    simp only [adj] at h
    have h0 := condE' h
    clear h
    obtain ⟨h1, h⟩ := h0
    simp only [Bool.and_eq_true] at h1
    split at h
    · rename_i L' hL
      split at h
      · rename_i H' hH
        cases h
        exact rn_ok hS h1.1.1.1 h1.1.1.2 h1.1.2 (List.isEmpty_iff.1 h1.2) hL hH
      · cases h
    · cases h
  case ron t i m =>
    simp only [adj] at h
    split at h
    · rename_i c k n xs hx
      split at h
      · cases h
        refine ⟨s, StpK.refl k0 s w, hS.wd, hS.is, fun u y hu => ?_, hS.size, hS.defers⟩
        rcases lk_cons hu with ⟨rfl, rfl⟩ | hu
        · exact ro_len (hS.L _ _ hx) hp
        · exact hS.L u y hu
      · cases h
    · rename_i cs hx
      split at h
      · rename_i i
        split at h
        · rename_i c k n xs hc
          cases h
          refine ⟨s, StpK.refl k0 s w, hS.wd, hS.is, fun u y hu => ?_, hS.size, hS.defers⟩
          rcases lk_cons hu with ⟨rfl, rfl⟩ | hu
          · obtain ⟨gs, e, hl⟩ := (hS.L _ _ hx).aggE
            rw [e]
            refine .agg (by rw [List.length_set]; exact hl.1) fun j y g hj hg => ?_
            by_cases e : i = j
            · subst e
              rw [List.getElem?_set_self (List.getElem?_eq_some_iff.1 hc).1] at hj
              cases hj
              exact ro_len (hl.2 _ _ _ hc hg) hp
            · rw [List.getElem?_set_ne e] at hj
              exact hl.2 _ _ _ hj hg
          · exact hS.L u y hu
        · cases h
      · cases h
    · cases h
theorem adjs_ok {k0 : Nat} : ∀ {sc sc' : List It} {S S' : ASt} {s : Ms} {d : Dt}, adjs k0 S sc = some (S', sc', d) → d.ok → SI N ds S s w a → ∃ s', StpK k0 s w s' w ∧ SI N ds S' s' w a
  | [], sc', S, S', s, d, h, _, hS => by cases h; exact ⟨s, StpK.refl k0 s w, hS⟩
  | i :: r, sc', S, S', s, d, h, hd, hS => by
    simp only [adjs] at h
    split at h
    · cases h; exact ⟨s, StpK.refl k0 s w, hS⟩
    · split at h
      · rename_i S1 eq p h1
        split at h
        · rename_i S2 sc2 d2 h2
          cases h
          obtain ⟨d3, d4⟩ := Dt.app_ok hd
          obtain ⟨s1, k1, k2⟩ := adj_ok h1 (d3.1 _ (List.mem_singleton.2 rfl)) (natE_ok d3.2) hS
          obtain ⟨s2, m1, m2⟩ := adjs_ok h2 d4 k2
          exact ⟨s2, k1.trans m1, m2⟩
        · cases h
      · cases h
end

structure Rr where
  x : Ex
  S : ASt
  sc : List It
  d : Dt
section
variable {P : Program}
def subR (P : Program) (N m0 : Nat) (c : Code) (S S1 : ASt) (x : Ex) (S2 : ASt) (sc : List It) : Option Rr := match adjs m0 S sc with
  | some (S', sc', d) => (match lessD m0 S' S1 with
    | some es => bif Nat.ble m0 S2.H.length then some ⟨x, S2, sc', (⟨[Runs P N m0 c S1 x S2], es⟩ : Dt).app d⟩ else none
    | none => none)
  | none => none
def headI (sc : List It) : Option IK := match sc with
  | i :: _ => some i.k
  | [] => none
def headG (id : Nat) (sc : List It) : Option (ASt × Ex × ASt) := match headI sc with
  | some (.subg r S1 x S2) => bif Nat.beq r id then some (S1, x, S2) else none
  | _ => none
def isHere (id : Nat) (sc : List It) : Bool := match headI sc with
  | some (.here r) => Nat.beq r id
  | _ => false
def adjR (m0 id : Nat) (S : ASt) (sc : List It) (k : ASt → List It → Option Rr) : Option Rr := match isHere id sc with
  | true => (match adjs m0 S sc.tail with
    | some (S', sc', d) => (match k S' sc' with
      | some r => some ⟨r.x, r.S, r.sc, (⟨[True], []⟩ : Dt).app (d.app r.d)⟩
      | none => none)
    | none => none)
  | false => k S sc
def brK (sc : List It) (b : Bool) : Option (Bool × List It × List Prop) := match sc with
  | i :: r => (match i.k with
    | .br c => some (c, r, [b = c])
    | .auto => some (b, r, [True])
    | _ => none)
  | [] => some (b, [], [])
def thenR (r : Rr) (k : ASt → List It → Option Rr) : Option Rr := match r.x with
  | .normal => (match k r.S r.sc with
    | some q => some ⟨q.x, q.S, q.sc, r.d.app q.d⟩
    | none => none)
  | _ => some r
def blockR (id : Nat) (r : Rr) : Rr := match r.x with
  | .exit j => bif Nat.beq j id then ⟨.normal, r.S, r.sc, r.d⟩ else r
  | _ => r
def lastV (es : List Ent) : AV := match es.getLast? with
  | some e => e.E.val
  | none => .v undef
def knownL (S : ASt) (c : Operand) (b : Bool) : ASt := match c with
  | .tmp t => ⟨(t, .v (.bool b)) :: S.L, S.H, S.A⟩
  | _ => S
def exC (T : List (TE P)) (N m0 : Nat) : Code → ASt → List It → Option Rr
  | .skip, S, sc => some ⟨.normal, S, sc, ⟨[], []⟩⟩
  | .ret, S, sc => some ⟨.ret, S, sc, ⟨[], []⟩⟩
  | .exit id, S, sc => some ⟨.exit id, S, sc, ⟨[], []⟩⟩
  | .seq a b, S, sc => (match exC T N m0 a S sc with
    | some r => thenR r (exC T N m0 b)
    | none => none)
  | .block id c, S, sc => (match headI sc with
    | some (.subb S1 x S2) => subR P N m0 (.block id c) S S1 x S2 sc.tail
    | _ => (match exC T N m0 c S sc with
      | some r => some (blockR id r)
      | none => none))
  | .cond c x y, S, sc => (match headI sc with
    | some (.subc S1 e S2) => subR P N m0 (.cond c x y) S S1 e S2 sc.tail
    | _ => (match rdx S.L c with
      | some (.v (.bool b)) => (match brK sc b with
        | some (d, sc', ps) => (match (match d with | true => exC T N m0 x (knownL S c true) sc' | false => exC T N m0 y (knownL S c false) sc') with
          | some r => some ⟨r.x, r.S, r.sc, (⟨ps, []⟩ : Dt).app r.d⟩
          | none => none)
        | none => none)
      | _ => none))
  | .loop c, S, sc => (match headI sc with
    | some (.sub S1 x S2) => subR P N m0 (.loop c) S S1 x S2 sc.tail
    | _ => none)
  | .region id ops draw, S, sc => (match headG id sc with
    | some (S1, x, S2) => subR P N m0 (.region id ops draw) S S1 x S2 sc.tail
    | none => adjR m0 id S sc fun S sc => (match rops T N ops.toList ops.toList S [] sc with
      | some (es, S', sc', d, pan) => (match pan with
        | true => bif draw then (bif panB ops.toList es then some ⟨.pan (lastV es), ⟨dropD (freeD ((preds ops.toList).getD (es.length - 1) []) 0 es.dropLast) S'.L, S'.H, S'.A⟩, sc', d⟩ else none) else some ⟨.pan (lastV es), S', sc', d⟩
        | false => bif !draw || (keptB ops.toList es && backB ops.toList) then some ⟨.normal, S', sc', d⟩ else none)
      | none => none))
  | _, _, _ => none
theorem SI.eval {N : Nat} {ds : List Deferred} {S : ASt} {s : Ms} {w : World} {a : Act} (h : SI N ds S s w a) {x : Operand} {v : AV} (hx : rdx S.L x = some v) : V s v (a.eval x) := by
  cases x with
  | tmp t => exact h.L t v hx
  | const u => simp only [rdx, Option.some.injEq] at hx; subst hx; exact .im (cst_ok _ u)
  | func f => simp only [rdx, Option.some.injEq] at hx; subst hx; exact .fn (gf := []) (gc := []) rfl rfl (fun j y g a => by simp at a) (fun j y g a => by simp at a)
  | global _ => cases hx
theorem SI.known {N : Nat} {ds : List Deferred} {S : ASt} {s : Ms} {w : World} {a : Act} (h : SI N ds S s w a) {c : Operand} {b : Bool} (hx : rdx S.L c = some (.v (.bool b))) : SI N ds (knownL S c b) s w a := by
  unfold knownL
  split
  · rename_i t
    refine ⟨h.wd, h.is, fun u x hu => h.L u x ?_, h.size, h.defers⟩
    simp only [lk] at hu
    cases hb : Nat.beq t u
    · rw [hb] at hu; exact hu
    · rw [hb] at hu
      have := Nat.eq_of_beq_eq_true hb
      subst this
      cases hu; exact hx
  · exact h
abbrev Goal (P : Program) (N m0 : Nat) (c : Code) (S : ASt) (r : Rr) : Prop := ∀ ds s0 w0 s w a, SI N ds S s w a → StpK m0 s0 w0 s w → c.wp P (End N m0 ds r.S r.x s0 w0) a w
theorem subR_ok {N m0 : Nat} {c : Code} {S S1 S2 : ASt} {x : Ex} {sc : List It} {r : Rr} (h : subR P N m0 c S S1 x S2 sc = some r) (hd : r.d.ok) : Goal P N m0 c S r := by
  intro ds s0 w0 s w a hS hst
  unfold subR at h
  split at h
  · rename_i S' sc' d hadj
    split at h
    · rename_i es he
      have h0 := condE' h
      clear h
      obtain ⟨h1, h⟩ := h0
      cases h
      obtain ⟨d1, d2⟩ := Dt.app_ok hd
      obtain ⟨s', m1, m2⟩ := adjs_ok hadj d2 hS
      obtain ⟨s1, k1, k2⟩ := less_ok he d1.2 m2 (hst.trans m1)
      exact wp_mono (d1.1 _ (List.mem_singleton.2 rfl) ds s1 w a k1) fun e a' w' he => End.step k2 he
    · cases h
  · cases h
theorem adjR_ok {N m0 : Nat} {c : Code} {S : ASt} {sc : List It} {r : Rr} {k : ASt → List It → Option Rr} {id : Nat} (h : adjR m0 id S sc k = some r) (hd : r.d.ok) (hk : ∀ S' sc' r', k S' sc' = some r' → r'.d.ok → Goal P N m0 c S' r') : Goal P N m0 c S r := by
  intro ds s0 w0 s w a hS hst
  unfold adjR at h
  split at h
  · split at h
    · rename_i S' sc' d hadj
      split at h
      · rename_i r' hr
        cases h
        obtain ⟨d1, d2⟩ := Dt.app_ok (Dt.app_ok hd).2
        obtain ⟨s', m1, m2⟩ := adjs_ok hadj d1 hS
        exact hk _ _ _ hr d2 ds s0 w0 s' w a m2 (hst.trans m1)
      · cases h
    · cases h
  · exact hk _ _ _ h hd ds s0 w0 s w a hS hst
theorem brK_ok {sc sc' : List It} {b c : Bool} {ps : List Prop} (h : brK sc b = some (c, sc', ps)) (hp : ∀ p ∈ ps, p) : b = c := by
  unfold brK at h
  split at h
  · split at h
    · cases h; exact hp _ (List.mem_singleton.2 rfl)
    · cases h; rfl
    · cases h
  · cases h; rfl
theorem exC_ok {T : List (TE P)} {N m0 : Nat} (hmix : P.follows .mixedOrders = true) : ∀ {c : Code} {S : ASt} {sc : List It} {r : Rr}, exC T N m0 c S sc = some r → r.d.ok → Goal P N m0 c S r := by
  intro c
  induction c with
  | skip => intro S sc r h _ ds s0 w0 s w a hS hst; cases h; exact wp_skip ⟨s, hst, hS⟩
  | ret => intro S sc r h _ ds s0 w0 s w a hS hst; cases h; exact wp_ret ⟨s, hst, hS⟩
  | exit id => intro S sc r h _ ds s0 w0 s w a hS hst; cases h; exact wp_exit ⟨s, hst, rfl, hS⟩
  | seq x y ihx ihy =>
    intro S sc r h hd ds s0 w0 s w a hS hst
    simp only [exC] at h
    split at h
    · rename_i q hq
      unfold thenR at h
      split at h
      · rename_i hx
        split at h
        · rename_i q2 hq2
          cases h
          obtain ⟨d1, d2⟩ := Dt.app_ok hd
          refine wp_seq (wp_mono (ihx hq d1 ds s0 w0 s w a hS hst) fun e a' w' he => ?_)
          obtain ⟨s', k1, k2⟩ := he
          rw [hx] at k2
          cases e <;> first | exact k2.elim | skip
          exact ihy hq2 d2 ds s0 w0 s' w' a' k2 k1
        · cases h
      · rename_i hne
        cases h
        refine wp_seq (wp_mono (ihx hq hd ds s0 w0 s w a hS hst) fun e a' w' he => ?_)
        obtain ⟨s', k1, k2⟩ := he
        generalize hxx : r.x = xx at *
        cases xx with
        | normal => exact absurd rfl (hne)
        | exit i =>
          cases e <;> first | exact k2.elim | skip
          exact ⟨s', k1, k2⟩
        | ret =>
          cases e <;> first | exact k2.elim | skip
          exact ⟨s', k1, k2⟩
        | pan v =>
          cases e <;> first | exact k2.elim | skip
          exact ⟨s', k1, k2⟩
    · cases h
  | block id c ih =>
    intro S sc r h hd ds s0 w0 s w a hS hst
    simp only [exC] at h
    split at h
    · exact subR_ok h hd ds s0 w0 s w a hS hst
    · split at h
      · rename_i q hq
        cases h
        have hdq : q.d.ok := by
          unfold blockR at hd
          split at hd
          · rename_i j _
            generalize Nat.beq j id = b at hd
            cases b <;> exact hd
          · exact hd
        refine wp_block (wp_mono (ih hq hdq ds s0 w0 s w a hS hst) fun e a' w' he => ?_)
        obtain ⟨s', k1, k2⟩ := he
        unfold blockR at hd ⊢
        cases hx : q.x with
        | normal =>
          rw [hx] at k2
          cases e <;> first | exact k2.elim | skip
          exact ⟨s', k1, by simp only [hx]; exact k2⟩
        | exit i =>
          rw [hx] at k2
          cases e <;> first | exact k2.elim | skip
          rename_i j
          obtain ⟨rfl, k2⟩ := k2
          simp only [Exit.inBlock]
          by_cases hid : i = id
          · subst hid
            rw [if_pos rfl]
            exact ⟨s', k1, by simp only [Nat.beq_refl, cond_true]; exact k2⟩
          · rw [if_neg hid]
            exact ⟨s', k1, by simp only [beqF hid, cond_false, hx]; exact ⟨trivial, k2⟩⟩
        | ret =>
          rw [hx] at k2
          cases e <;> first | exact k2.elim | skip
          exact ⟨s', k1, by simp only [hx]; exact k2⟩
        | pan v =>
          rw [hx] at k2
          cases e <;> first | exact k2.elim | skip
          exact ⟨s', k1, by simp only [hx]; exact k2⟩
      · cases h
  | cond c x y ihx ihy =>
    intro S sc r h hd ds s0 w0 s w a hS hst
    simp only [exC] at h
    split at h
    · exact subR_ok h hd ds s0 w0 s w a hS hst
    · split at h
      · rename_i b hb
        split at h
        · rename_i c' sc' ps hbr
          split at h
          · rename_i q hq
            cases h
            obtain ⟨d1, d2⟩ := Dt.app_ok hd
            have e := brK_ok hbr d1.1
            subst e
            have hv := (hS.eval hb).vE
            cases b
            · exact wp_cond_false hv (ihy hq d2 ds s0 w0 s w a (hS.known hb) hst)
            · exact wp_cond_true hv (ihx hq d2 ds s0 w0 s w a (hS.known hb) hst)
          · cases h
        · cases h
      · cases h
  | loop c ih =>
    intro S sc r h hd ds s0 w0 s w a hS hst
    simp only [exC] at h
    split at h
    · exact subR_ok h hd ds s0 w0 s w a hS hst
    · cases h
  | region id ops draw =>
    intro S sc r h hd
    simp only [exC] at h
    split at h
    · intro ds s0 w0 s w a hS hst
      exact subR_ok h hd ds s0 w0 s w a hS hst
    · refine adjR_ok h hd fun S sc r h hd => ?_
      intro ds s0 w0 s w a hS hst
      split at h
      · rename_i es S' sc' d pan hr
        cases pan
        · simp only at h
          obtain ⟨h1, h⟩ := condE' h
          cases h
          have hl := rops_ok hr hd
          have e1 : ops.toList.toArray = ops := by simp
          have := region_ok (id := id) (draw := draw) (Q := End N m0 ds S' .normal s0 w0) hl hS (fun e => by
            rw [e] at h1
            simp only [Bool.not_true, Bool.false_or, Bool.and_eq_true] at h1
            exact ⟨hmix, h1.1, h1.2⟩) (fun s' w' a' k1 k2 => ⟨s', hst.trans (k2.K m0), k1⟩)
          rw [e1] at this
          exact this
        · simp only at h
          have e1 : ops.toList.toArray = ops := by simp
          obtain ⟨v, hv, hl⟩ : ∃ v, (es.getLast?.map (·.E.val)) = some v ∧ LinksP P N ops.toList ops.toList S es S' v := by
            cases draw
            · simp only [cond_false, Option.some.injEq] at h
              subst h
              exact rops_pan hr hd
            · simp only [cond_true] at h
              obtain ⟨_, h⟩ := condE' h
              cases h
              exact rops_pan hr hd
          have e2 : lastV es = v := by
            unfold lastV
            cases hq : es.getLast? with
            | none => rw [hq] at hv; cases hv
            | some e => rw [hq] at hv; simpa using hv
          cases draw
          · simp only [cond_false, Option.some.injEq] at h
            subst h
            have := region_pan (id := id) (Q := End N m0 ds S' (.pan (lastV es)) s0 w0) hl hS (fun s' w' a' g k1 k2 k3 => ⟨s', hst.trans (k2.K m0), g, rfl, by rw [e2]; exact k3, k1⟩)
            rw [e1] at this
            exact this
          · simp only [cond_true] at h
            obtain ⟨hB, h⟩ := condE' h
            cases h
            have := region_panD (id := id) (Q := End N m0 ds _ (.pan (lastV es)) s0 w0) hmix hl hS hB (fun s' w' a' g k1 k2 k3 => ⟨s', hst.trans (k2.K m0), g, rfl, by rw [e2]; exact k3, k1⟩)
            rw [e1] at this
            exact this
      · cases h
  | _ => intro S sc r h; cases h
def argL : Nat → List AV → Fr
  | _, [] => []
  | i, v :: r => (i, v) :: argL (i + 1) r
def resV (T : List (TE P)) (S : ASt) : List ResultVar → Option (List AV)
  | [] => some []
  | .tmp t :: r => (match lk S.L t with
    | some v => (match resV T S r with | some vs => some (v :: vs) | none => none)
    | none => none)
  | .cell t ty :: r => (match lk S.L t with
    | some (.ref h off) => (match hget S.H h with
      | .box cs => (match tget T ty with
        | some e => (match cellsV e.ag e.sz (cs.drop off) with
          | some v => (match resV T S r with | some vs => some (v :: vs) | none => none)
          | none => none)
        | none => none)
      | _ => none)
    | _ => none)
def packA : List AV → AV
  | [v] => v
  | vs => .tup vs
def outE (m0 : Nat) (S : ASt) (v1 v : AV) (H' : List AO) (A' : List (List AV)) : Option (List (EV × EV)) := lessD m0 ⟨[(0, v1)], S.H, S.A⟩ ⟨[(0, v)], H', A'⟩
def endP (x : Ex) : Bool := match x with
  | .pan v => pureA v
  | _ => true
def endA (m0 : Nat) (r : Option Rr) : Option Rr := match r with
  | some r => (match endP r.x with
    | false => some r
    | true => (match adjs m0 r.S r.sc with
      | some (S', sc', d) => some ⟨r.x, S', sc', r.d.app d⟩
      | none => none))
  | none => none
theorem End.adj {N m0 : Nat} {ds : List Deferred} {S S' : ASt} {sc sc' : List It} {d : Dt} {x : Ex} {s : Ms} {w : World} {e : Exit} {a : Act} {w' : World} (h : adjs m0 S sc = some (S', sc', d)) (hd : d.ok) (hx : endP x = true) (k : End N m0 ds S x s w e a w') : End N m0 ds S' x s w e a w' := by
  obtain ⟨s', h1, h2⟩ := k
  cases x with
  | pan v =>
    cases e <;> first | exact h2.elim | skip
    obtain ⟨g, e1, e2, h2⟩ := h2
    obtain ⟨s2, k1, k2⟩ := adjs_ok (k0 := m0) h hd h2
    exact ⟨s2, h1.trans k1, g, e1, .im ((e2.pure hx).mono k1.J), k2⟩
  | normal =>
    cases e <;> first | exact h2.elim | skip
    obtain ⟨s2, k1, k2⟩ := adjs_ok h hd h2
    exact ⟨s2, h1.trans k1, k2⟩
  | exit i =>
    cases e <;> first | exact h2.elim | skip
    obtain ⟨s2, k1, k2⟩ := adjs_ok h hd h2.2
    exact ⟨s2, h1.trans k1, h2.1, k2⟩
  | ret =>
    cases e <;> first | exact h2.elim | skip
    obtain ⟨s2, k1, k2⟩ := adjs_ok h hd h2
    exact ⟨s2, h1.trans k1, k2⟩
theorem endA_ok {T : List (TE P)} {N m0 : Nat} (hmix : P.follows .mixedOrders = true) {c : Code} {S : ASt} {sc : List It} {r : Rr} (h : endA m0 (exC T N m0 c S sc) = some r) (hd : r.d.ok) : Goal P N m0 c S r := by
  unfold endA at h
  split at h
  · rename_i q hq
    split at h
    · cases h
      exact exC_ok hmix hq hd
    · rename_i hx
      split at h
      · rename_i S' sc' d hadj
        cases h
        obtain ⟨d1, d2⟩ := Dt.app_ok hd
        have g := exC_ok hmix hq d1
        intro ds s0 w0 s w a hS hst
        exact wp_mono (g ds s0 w0 s w a hS hst) fun e a' w' he => End.adj hadj d2 hx he
      · cases h
  · cases h
theorem Runs.of {T : List (TE P)} {N m0 : Nat} {c : Code} {S S2 : ASt} {x : Ex} {sc : List It} {q : Rr} {es : List (EV × EV)} (hmix : P.follows .mixedOrders = true) (h : endA m0 (exC T N m0 c S sc) = some q) (hd : q.d.ok) (hx : q.x = x) (hn : endP x = true)
    (hl : lessD m0 q.S S2 = some es) (he : okP es) : Runs P N m0 c S x S2 := by
  intro ds s w a hS
  refine wp_mono (endA_ok hmix h hd ds s w s w a hS (StpK.refl m0 s w)) fun e a' w' hE => ?_
  obtain ⟨s', k1, k2⟩ := hE
  rw [hx] at k2
  cases x with
  | pan v =>
    cases e <;> first | exact k2.elim | skip
    obtain ⟨g, e1, e2, k2⟩ := k2
    obtain ⟨s1, m1, m2⟩ := less_ok hl he k2 (StpK.refl m0 s' w')
    exact ⟨s1, k1.trans m2, g, e1, .im ((e2.pure hn).mono m2.J), m1⟩
  | normal =>
    cases e <;> first | exact k2.elim | skip
    obtain ⟨s1, m1, m2⟩ := less_ok hl he k2 k1
    exact ⟨s1, m2, m1⟩
  | exit i =>
    cases e <;> first | exact k2.elim | skip
    obtain ⟨s1, m1, m2⟩ := less_ok hl he k2.2 k1
    exact ⟨s1, m2, k2.1, m1⟩
  | ret =>
    cases e <;> first | exact k2.elim | skip
    obtain ⟨s1, m1, m2⟩ := less_ok hl he k2 k1
    exact ⟨s1, m2, m1⟩
def finF (T : List (TE P)) (N : Nat) (c : Code) (rs : List ResultVar) (args : List AV) (H : List AO) (A : List (List AV)) (sc : List It) (o : Out) : Option Dt := match endA H.length (exC T N H.length c ⟨argL 0 args, H, A⟩ sc) with
  | some r => (match r.sc with
    | [] => (match o with
      | .ret v H' A' => (match (match r.x with | .ret => true | .normal => true | _ => false) with
        | true => (match resV T r.S rs with
          | some vs => (match outE H.length r.S (packA vs) v H' A' with
            | some es => some (r.d.app ⟨[], es⟩)
            | none => none)
          | none => none)
        | false => none)
      | .pan v H' A' => (match r.x with
        | .pan v1 => (match outE H.length r.S v1 v H' A' with
          | some es => some (r.d.app ⟨[], es⟩)
          | none => none)
        | _ => none))
    | _ => none)
  | none => none
theorem argL_lk : ∀ {l : List AV} {i t : Nat} {x : AV}, lk (argL i l) t = some x → i ≤ t ∧ l[t - i]? = some x
  | [], i, t, x, h => by cases h
  | v :: r, i, t, x, h => by
    simp only [argL, lk] at h
    cases hb : Nat.beq i t
    · rw [hb] at h
      obtain ⟨h1, h2⟩ := argL_lk h
      refine ⟨by omega, ?_⟩
      rw [show t - i = (t - (i + 1)) + 1 by omega]
      simpa using h2
    · rw [hb] at h
      have := Nat.eq_of_beq_eq_true hb
      subst this
      simp only [cond_true, Option.some.injEq] at h
      subst h
      exact ⟨Nat.le_refl _, by simp⟩
theorem resV_ok {T : List (TE P)} {N : Nat} {ds : List Deferred} {S : ASt} {s : Ms} {w : World} {a : Act} (h : SI N ds S s w a) : ∀ {rs : List ResultVar} {vs : List AV}, resV T S rs = some vs →
    ∃ gs, (rs.mapM (m := Sem) (rv a.tmps)).run P w = .ok gs w ∧ L2 (V s) vs gs
  | [], vs, e => by cases e; exact ⟨[], rfl, L2.nil⟩
  | .tmp t :: r, vs, e => by
    simp only [resV] at e
    split at e
    · rename_i v hv
      split at e
      · rename_i us hu
        cases e
        obtain ⟨gs, k1, k2⟩ := resV_ok h hu
        refine ⟨_ :: gs, ?_, L2.cons (h.L t v hv) k2⟩
        rw [List.mapM_cons]
        simp only [Sem.run_bind, rv, Sem.run_pure, Result.andThen_ok, k1]
      · cases e
    · cases e
  | .cell t ty :: r, vs, e => by
    simp only [resV] at e
    split at e
    · rename_i hh off ht
      split at e
      · rename_i cs hc
        split at e
        · rename_i e2 he2
          split at e
          · rename_i v hv
            split at e
            · rename_i us hu
              cases e
              obtain ⟨gs, k1, k2⟩ := resV_ok h hu
              obtain ⟨ad, cells, e1, e3, e4⟩ := atA_ok (H := S.H) (A := S.A) (it := none) (v := .ref hh off) (cs := cs.drop off) (fp := [hh]) (fa := false) (p := none) (eq := []) (by simp [atA, hc]) h.wd (h.L t _ ht) (fun k _ => h.is.C k) (fun e => by cases e) (fun q e => by cases e) (fun q hq => by simp at hq)
              have hld : ∃ g, (loadVar ty ad).run P w = .ok g w ∧ V s v g := by
                unfold cellsV at hv
                cases hag : e2.ag
                · rw [hag] at hv
                  obtain ⟨g, hg, hr⟩ := e4.get hv
                  refine ⟨g, ?_, hr⟩
                  have := e3 0 g hg
                  have h0 : w.cell? ad = some g := by simpa [Addr.add] using this
                  have ha := tget_a he2 w
                  rw [hag] at ha
                  simp [loadVar, Sem.run_bind, ha, h0]
                · rw [hag] at hv
                  obtain ⟨h1, h2⟩ := condE' hv
                  cases h2
                  have k := e4.take e2.sz
                  refine ⟨.agg (cells.take e2.sz).toArray, ?_, .agg k.1 k.2⟩
                  have ha := tget_a he2 w
                  rw [hag] at ha
                  have hlen : (cells.take e2.sz).length = e2.sz := by rw [← k.1]; exact Nat.eq_of_beq_eq_true h1
                  simp [loadVar, Sem.run_bind, ha, tget_s he2 w, Go.Proofs.Ytbdbmklkgjbehaa.B.run_loadCells hlen (cellsAt_take e3 _)]
              obtain ⟨g, hg, hgv⟩ := hld
              refine ⟨g :: gs, ?_, L2.cons hgv k2⟩
              rw [List.mapM_cons]
              simp only [Sem.run_bind, rv, e1, asAddr, Sem.run_pure, Result.andThen_ok, hg, k1]
            · cases e
          · cases e
        · cases e
      · cases e
    · cases e
theorem pack_ok {s : Ms} {vs : List AV} {gs : List Value} (h : L2 (V s) vs gs) : V s (packA vs) (pack gs) := by
  match vs, gs, h with
  | [], gs, h =>
    have : gs = [] := List.eq_nil_of_length_eq_zero h.1.symm
    subst this
    exact .tup (gs := []) rfl (fun j y g a => by simp at a)
  | [v], gs, h =>
    obtain ⟨g, r, rfl, h1, h2⟩ := h.uncons
    have : r = [] := List.eq_nil_of_length_eq_zero h2.1.symm
    subst this
    exact h1
  | a :: b :: r, gs, h =>
    obtain ⟨g, r1, rfl, h1, h2⟩ := h.uncons
    obtain ⟨g2, r2, rfl, h3, h4⟩ := h2.uncons
    exact .tup h.1 h.2
theorem Ev.of {T : List (TE P)} {f : FuncId} {fn : Func} {N : Nat} {c : Code} {rs : List ResultVar} {args : List AV} {H : List AO} {A : List (List AV)} {sc : List It} {o : Out} {d : Dt} (hmix : P.follows .mixedOrders = true)
    (hcf : ∀ args w, (callFunc f args).run P w = .ok (.enter f args) w) (hf : P.funcs[f]? = some fn) (hb : fn.body = some c) (hN : fn.ntmps = N) (hr : fn.results = rs.toArray) (hl : Nat.ble args.length N = true)
    (h : finF T N c rs args H A sc o = some d) (hd : d.ok) : Ev P f args H A o := by
  refine ⟨hcf, fun s w gs hW hI hA => ?_⟩
  have hlen := Nat.le_of_ble_eq_true hl
  refine calls_of_wp hf hb ?_
  have hS : SI N [] ⟨argL 0 args, H, A⟩ s w { tmps := gs.toArray ++ Array.replicate (fn.ntmps - gs.toArray.size) undef, defers := [] } := by
    refine ⟨hW, hI, fun t x hx => ?_, ?_, rfl⟩
    · obtain ⟨_, h2⟩ := argL_lk hx
      rw [Nat.sub_zero] at h2
      obtain ⟨g, hg, hv⟩ := hA.get h2
      have hlt := (List.getElem?_eq_some_iff.1 hg).1
      have : (gs.toArray ++ Array.replicate (fn.ntmps - gs.toArray.size) undef)[t]? = some g := by
        rw [Array.getElem?_append_left (by simpa using hlt)]; simpa using hg
      simp only [Array.getD_eq_getD_getElem?, this, Option.getD_some]
      exact hv
    · have := hA.1
      simp only [Array.size_append, List.size_toArray, Array.size_replicate, hN]
      omega
  unfold finF at h
  split at h
  · rename_i r hr'
    split at h
    · have key : ∀ {d1 : Dt} {es : List (EV × EV)}, d1.ok → d1 = r.d.app ⟨[], es⟩ → r.d.ok ∧ okP es := by
        rintro d1 es hd rfl
        obtain ⟨k1, k2⟩ := Dt.app_ok hd
        exact ⟨k1, k2.2⟩
      split at h
      · rename_i v H' A'
        split at h
        · rename_i hx
          split at h
          · rename_i vs hvs
            split at h
            · rename_i es hes
              cases h
              obtain ⟨k1, k2⟩ := key hd rfl
              refine wp_mono (endA_ok hmix hr' k1 [] s w s w _ hS (StpK.refl H.length s w)) fun e a' w' hE => ?_
              obtain ⟨s', m1, m2⟩ := hE
              have hSI : SI N [] r.S s' w' a' ∧ (e = .normal ∨ e = .ret) := by
                cases hxx : r.x with
                | normal => rw [hxx] at m2; cases e <;> first | exact m2.elim | exact ⟨m2, .inl rfl⟩
                | ret => rw [hxx] at m2; cases e <;> first | exact m2.elim | exact ⟨m2, .inr rfl⟩
                | exit i => rw [hxx] at hx; cases hx
                | pan v => rw [hxx] at hx; cases hx
              obtain ⟨hSI, he⟩ := hSI
              obtain ⟨us, g1, g2⟩ := resV_ok (P := P) hSI hvs
              have hout : SI 1 [] ⟨[(0, packA vs)], r.S.H, r.S.A⟩ s' w' { tmps := #[pack us], defers := [] } := by
                refine ⟨hSI.wd, hSI.is, fun t x hx => ?_, rfl, rfl⟩
                simp only [lk] at hx
                cases hb : Nat.beq 0 t
                · rw [hb] at hx; cases hx
                · rw [hb] at hx
                  have := Nat.eq_of_beq_eq_true hb
                  subst this
                  cases hx
                  exact pack_ok g2
              obtain ⟨s1, n1, n2⟩ := less_ok hes k2 hout m1
              have hres : (results fn a'.tmps).run P w' = .ok (pack us) w' := by
                rw [results_eq, hr]
                simp only [List.mapM_toArray, Sem.run_bind]
                rw [show ∀ (s : Sem (List Value)), (List.toArray <$> s : Sem (Array Value)) = s >>= fun l => pure l.toArray from fun s => rfl]
                simp only [Sem.run_bind, g1, Result.andThen_ok, Sem.run_pure]
                rcases us with _ | ⟨v, _ | ⟨u, vs⟩⟩ <;> simp [pack]
              have hv1 : V s1 v (pack us) := by
                have := n1.L 0 v (by simp [lk])
                simpa using this
              rcases he with rfl | rfl
              · exact ⟨hSI.defers, pack us, hres, .inl ⟨_, rfl, v, H', A', s1, rfl, n1.wd, n2.full hI.b, n1.is, hv1⟩⟩
              · exact ⟨hSI.defers, pack us, hres, .inl ⟨_, rfl, v, H', A', s1, rfl, n1.wd, n2.full hI.b, n1.is, hv1⟩⟩
            · cases h
          · cases h
        · cases h
      · rename_i v H' A'
        split at h
        · rename_i v1 hx
          split at h
          · rename_i es hes
            cases h
            obtain ⟨k1, k2⟩ := key hd rfl
            refine wp_mono (endA_ok hmix hr' k1 [] s w s w _ hS (StpK.refl H.length s w)) fun e a' w' hE => ?_
            obtain ⟨s', m1, m2⟩ := hE
            rw [hx] at m2
            cases e <;> first | exact m2.elim | skip
            obtain ⟨g, rfl, q3, qS⟩ := m2
            have hout : SI 1 [] ⟨[(0, v1)], r.S.H, r.S.A⟩ s' w' { tmps := #[g], defers := [] } := by
              refine ⟨qS.wd, qS.is, fun t x hx => ?_, rfl, rfl⟩
              simp only [lk] at hx
              cases hb : Nat.beq 0 t
              · rw [hb] at hx; cases hx
              · rw [hb] at hx
                have := Nat.eq_of_beq_eq_true hb
                subst this
                cases hx
                exact q3
            obtain ⟨s1, n1, n2⟩ := less_ok hes k2 hout m1
            have hv1 : V s1 v g := by
              have := n1.L 0 v (by simp [lk])
              simpa using this
            exact ⟨qS.defers, .inr ⟨_, rfl, v, H', A', s1, g, rfl, rfl, n1.wd, n2.full hI.b, n1.is, hv1⟩⟩
          · cases h
        · cases h
    · cases h
  · cases h
def lhs (d : Option Dt) : List Prop × List EV := match d with
  | some d => (d.ps, d.es.map (·.1))
  | none => ([], [.n 0])
def rhs (d : Option Dt) (sc : List It) : List Prop × List EV := match d with
  | some d => (sc.map (·.p), d.es.map (·.2))
  | none => ([], [])
theorem one_eqn {d : Option Dt} {sc : List It} (h : lhs d = rhs d sc) : ∃ e, d = some e ∧ e.ok := by
  cases d with
  | none => simp [lhs, rhs] at h
  | some e =>
    simp only [lhs, rhs, Prod.mk.injEq] at h
    refine ⟨e, rfl, ?_, okP_of h.2⟩
    rw [h.1]
    intro p hp
    obtain ⟨i, _, rfl⟩ := List.mem_map.1 hp
    exact i.h
end

structure FI (P : Program) (f : Nat) where
  fn : Func
  N : Nat
  c : Code
  rs : List ResultVar
  hcf : ∀ args w, (callFunc f args).run P w = .ok (.enter f args) w
  hf : P.funcs[f]? = some fn
  hb : fn.body = some c
  hN : fn.ntmps = N
  hr : fn.results = rs.toArray
@[reducible] def fi {P : Program} {f : Nat} (fn : Func) (N : Nat) (h1 : ∀ args w, (callFunc f args).run P w = .ok (.enter f args) w) (h2 : P.funcs[f]? = some fn) (h3 : fn.body = some (fn.body.getD .skip) := by kernel_rfl) (h4 : fn.ntmps = N := by kernel_rfl) (h5 : fn.results = fn.results.toList.toArray := by kernel_rfl) : FI P f := ⟨fn, N, fn.body.getD .skip, fn.results.toList, h1, h2, h3, h4, h5⟩
section
variable {P : Program}
theorem FI.run {f : Nat} (F : FI P f) (T : List (TE P)) (hmix : P.follows .mixedOrders = true) (sc : List It) {args : List AV} {H : List AO} {A : List (List AV)} {o : Out} (hl : Nat.ble args.length F.N = true)
    (h : lhs (finF T F.N F.c F.rs args H A sc o) = rhs (finF T F.N F.c F.rs args H A sc o) sc) : Ev P f args H A o := by
  obtain ⟨d, h1, h2⟩ := one_eqn h
  exact Ev.of hmix F.hcf F.hf F.hb F.hN F.hr hl h1 h2
def finC (T : List (TE P)) (N m0 : Nat) (c : Code) (S : ASt) (sc : List It) (x : Ex) (S2 : ASt) : Option Dt := match endA m0 (exC T N m0 c S sc) with
  | some r => (match r.sc with
    | [] => (match r.x with
      | .normal => (match x with
        | .normal => (match lessD m0 r.S S2 with | some es => some (r.d.app ⟨[], es⟩) | none => none)
        | _ => none)
      | .ret => (match x with
        | .ret => (match lessD m0 r.S S2 with | some es => some (r.d.app ⟨[], es⟩) | none => none)
        | _ => none)
      | .exit i => (match x with
        | .exit j => bif Nat.beq i j then (match lessD m0 r.S S2 with | some es => some (r.d.app ⟨[], es⟩) | none => none) else none
        | _ => none)
      | .pan v => (match x with
        | .pan v2 => bif pureA v2 then (match lessD m0 r.S S2 with | some es => some (r.d.app ⟨[], (.v (some v), .v (some v2)) :: es⟩) | none => none) else none
        | _ => none))
    | _ => none)
  | none => none
theorem Runs.fin {T : List (TE P)} {N m0 : Nat} {c : Code} {S : ASt} {x : Ex} {S2 : ASt} (hmix : P.follows .mixedOrders = true) (sc : List It) (h : lhs (finC T N m0 c S sc x S2) = rhs (finC T N m0 c S sc x S2) sc) : Runs P N m0 c S x S2 := by
  obtain ⟨d, h1, h2⟩ := one_eqn h
  unfold finC at h1
  split at h1
  · rename_i r hr
    split at h1
    · have key : ∀ {es : List (EV × EV)}, (r.d.app ⟨[], es⟩).ok → r.d.ok ∧ okP es := fun h => ⟨(Dt.app_ok h).1, (Dt.app_ok h).2.2⟩
      split at h1
      · rename_i hx
        split at h1
        · split at h1
          · rename_i es hes
            cases h1
            exact Runs.of hmix hr (key h2).1 hx rfl hes (key h2).2
          · cases h1
        · cases h1
      · rename_i hx
        split at h1
        · split at h1
          · rename_i es hes
            cases h1
            exact Runs.of hmix hr (key h2).1 hx rfl hes (key h2).2
          · cases h1
        · cases h1
      · rename_i i hx
        split at h1
        · rename_i j
          have h9 := condE' h1
          clear h1
          obtain ⟨hij, h1⟩ := h9
          have := Nat.eq_of_beq_eq_true hij
          subst this
          split at h1
          · rename_i es hes
            cases h1
            exact Runs.of hmix hr (key h2).1 hx rfl hes (key h2).2
          · cases h1
        · cases h1
      · rename_i v hx
        split at h1
        · rename_i v2
          have h9 := condE' h1
          clear h1
          obtain ⟨hp, h1⟩ := h9
          split at h1
          · rename_i es hes
            cases h1
            have e1 := (key h2).2
            have e2 := e1 _ (List.mem_cons_self ..)
            simp only [EV.v.injEq, Option.some.injEq] at e2
            subst e2
            exact Runs.of hmix hr (key h2).1 hx hp hes fun q hq => e1 q (List.mem_cons_of_mem _ hq)
          · cases h1
        · cases h1
    · cases h1
  · cases h1
theorem Runs.loop {X O : Type} {f : X → Option (X ⊕ O)} {N m0 : Nat} {c : Code} {St : X → ASt} {xo : O → Ex} {So : O → ASt} (hx : ∀ o, xo o ≠ .normal)
    (hb : ∀ s z, f s = some z → (match z with | .inl s' => Runs P N m0 c (St s) .normal (St s') | .inr o => Runs P N m0 c (St s) (xo o) (So o))) {s : X} {o : O} (h : B.loop f s = some o) : Runs P N m0 (.loop c) (St s) (xo o) (So o) := by
  intro ds m w a hS
  have key := loop_ind (f := f) (fun x r => ∀ m w a, SI N ds (St x) m w a → ∀ (b : Frame) (k : List Item) (cs : List Frame),
      ∃ e a' w', End N m0 ds (So r) (xo r) m w e a' w' ∧ Arrives P (lone (b.at a (.code c :: .inLoop c :: k)) cs w) b k cs e a' w') ?_ ?_ s o h
  · intro b k cs
    obtain ⟨e, a', w', hq, harr⟩ := key m w a hS b k cs
    exact ⟨e, a', w', hq, .of_steps (.one step_loop) harr⟩
  · intro x r hf m w a hS b k cs
    obtain ⟨e, a', w', hq, harr⟩ := hb x _ hf ds m w a hS b (.inLoop c :: k) cs
    cases e with
    | normal =>
      obtain ⟨s', _, h2⟩ := hq
      have := hx r
      cases hxr : xo r <;> rw [hxr] at h2 this <;> first | exact h2.elim | exact absurd rfl this
    | exit id => exact ⟨.exit id, a', w', hq, .pass (x := .inLoop c) rfl (fun _ _ => .inl (by simp)) harr⟩
    | goto l => exact ⟨.goto l, a', w', hq, .pass (x := .inLoop c) rfl (fun _ _ => .inl (by simp)) harr⟩
    | ret => exact ⟨.ret, a', w', hq, .pass (x := .inLoop c) rfl (fun _ _ => .inl (by simp)) harr⟩
    | panic ch => exact ⟨.panic ch, a', w', hq, .pass (x := .inLoop c) rfl (fun _ _ => .inl (by simp)) harr⟩
    | outgrown => exact ⟨.outgrown, a', w', hq, .pass (x := .inLoop c) rfl (fun _ _ => .inl (by simp)) harr⟩
  · intro x x' r hf _ ih m w a hS b k cs
    obtain ⟨e, a', w', hq, harr⟩ := hb x _ hf ds m w a hS b (.inLoop c :: k) cs
    obtain ⟨s', k1, k2⟩ := hq
    cases e <;> first | exact k2.elim | skip
    obtain ⟨e2, a2, w2, hq2, harr2⟩ := ih s' w' a' k2 b k cs
    exact ⟨e2, a2, w2, End.step k1 hq2, .of_steps (Steps.trans harr (.one step_inLoop)) harr2⟩
def br {b c : Bool} (h : b = c) : It := ⟨.br c, b = c, h⟩
def au : It := ⟨.auto, True, trivial⟩
def pf {p : Prop} (h : p) : It := ⟨.pf, p, h⟩
def gi {α : Type} [Inhabited α] (xs : List α) (i : Int) : α := xs.getD i.toNat default
theorem gi_at {α : Type} [Inhabited α] {xs : List α} {i : Int} (h : 0 ≤ i ∧ i < (xs.length : Int)) : xs[i.toNat]? = some (gi xs i) := by
  have : i.toNat < xs.length := by omega
  simp [gi, this]
def ix {α : Type} [Inhabited α] (e : α → List AV) {xs : List α} {i : Int} (h : 0 ≤ i ∧ i < (xs.length : Int)) : It :=
  ⟨.cells i.toNat (e (gi xs i)), i = (i.toNat : Int) ∧ (xs.map e)[i.toNat]? = some (e (gi xs i)), ⟨by omega, by rw [List.getElem?_map, gi_at h]; rfl⟩⟩
def el {α : Type} [Inhabited α] (e : α → List AV) {xs : List α} {i : Int} (h : 0 ≤ i ∧ i < (xs.length : Int)) : It :=
  ⟨.cells 0 (e (gi xs i)), (xs.map e)[0 + i.toNat]? = some (e (gi xs i)), by rw [Nat.zero_add, List.getElem?_map, gi_at h]; rfl⟩
theorem splice_all {cs vs : List AV} (h : cs.length = vs.length) : splice cs 0 vs = vs := by
  unfold splice
  simp [h, List.drop_of_length_le]
def up {α : Type} [Inhabited α] (e : α → List AV) {xs : List α} {i : Int} (r : Nat) (vs : List AV) (y : α) (h : 0 ≤ i ∧ i < (xs.length : Int)) (hy : splice (e (gi xs i)) r vs = e y) : It :=
  ⟨.upd (e (gi xs i)) ((xs.set i.toNat y).map e), (xs.map e)[0 + i.toNat]? = some (e (gi xs i)) ∧ (xs.map e).set (0 + i.toNat) (splice (e (gi xs i)) r vs) = (xs.set i.toNat y).map e,
    ⟨by rw [Nat.zero_add, List.getElem?_map, gi_at h]; rfl, by rw [Nat.zero_add, hy, List.map_set]⟩⟩
def na {α : Type} (e : α → List AV) (z : α) (m k : Nat) (hk : (e z).length = k) : It :=
  ⟨.list (List.replicate m z).length ((List.replicate m z).map e), ((List.replicate m z).map e).length = (List.replicate m z).length ∧ (∀ x ∈ (List.replicate m z).map e, x.length = k) ∧ ((List.replicate m z).map e).flatten = ((List.replicate m z).map e).flatten,
    ⟨List.length_map _, fun x hx => by
      obtain ⟨y, hy, rfl⟩ := List.mem_map.1 hx
      rw [List.eq_of_mem_replicate hy]; exact hk, rfl⟩⟩
def lda {α : Type} [Inhabited α] (e : α → AV) {l : List α} {i : Int} (h : 0 ≤ i ∧ i < (l.length : Int)) : It :=
  ⟨.ldb [e (gi l i)], ((l.map e).drop (0 + i.toNat * 1)).take [e (gi l i)].length = [e (gi l i)], by
    have h1 := gi_at h
    have h2 : i.toNat < (l.map e).length := by rw [List.length_map]; omega
    rw [Nat.zero_add, Nat.mul_one, List.drop_eq_getElem_cons h2]
    have h3 : (l.map e)[i.toNat] = e (gi l i) := by
      have : (l.map e)[i.toNat]? = some (e (gi l i)) := by rw [List.getElem?_map, h1]; rfl
      rw [List.getElem?_eq_getElem h2] at this
      exact Option.some.inj this
    rw [h3]; rfl⟩
def sta {α : Type} [Inhabited α] (e : α → AV) {l : List α} {i : Int} (y : α) (h : 0 ≤ i ∧ i < (l.length : Int)) : It :=
  ⟨.box ((l.set i.toNat y).map e), (0 + i.toNat * 1) + [e y].length ≤ (l.map e).length ∧ splice (l.map e) (0 + i.toNat * 1) [e y] = (l.set i.toNat y).map e, by
    have h2 : i.toNat < l.length := by omega
    refine ⟨by simp only [List.length_map, List.length_cons, List.length_nil]; omega, ?_⟩
    unfold splice
    rw [Nat.zero_add, Nat.mul_one, List.set_eq_take_append_cons_drop, if_pos h2]
    simp [List.map_take, List.map_drop]⟩
def ap {α : Type} (e : α → List AV) (by_ : Nat) (fr : Bool) (xs ys : List α) (h : (xs.length + ys.length) * by_ ≤ 140737488355328) (h0 : fr = true → 0 < ys.length) : It :=
  ⟨.list (xs ++ ys).length ((xs ++ ys).map e), (xs.length + ys.length) * by_ ≤ 140737488355328 ∧ (xs ++ ys).length = xs.length + ys.length ∧ xs.map e ++ ys.map e = (xs ++ ys).map e ∧ (fr = true → 0 < ys.length) ∧ (xs.map e).length = xs.length, ⟨h, List.length_append, List.map_append.symm, h0, List.length_map _⟩⟩
def apw {α : Type} (e : α → List AV) (by_ : Nat) (fr : Bool) (xs ys : List α) (h : (xs.length + ys.length) * by_ ≤ 140737488355328) (h0 : fr = true → 0 < ys.length) : It :=
  ⟨.list (xs ++ ys).length ((xs ++ ys).map e), (xs.length + ys.length) * by_ ≤ 140737488355328 ∧ (xs ++ ys).length = xs.length + ys.length ∧ xs.map e ++ ((ys.map e).drop 0).take ys.length = (xs ++ ys).map e ∧ (fr = true → 0 < ys.length) ∧ (xs.map e).length = xs.length,
    ⟨h, List.length_append, by rw [List.drop_zero, List.take_of_length_le (by rw [List.length_map]; exact Nat.le_refl _), List.map_append], h0, List.length_map _⟩⟩
def apn {α : Type} (e : α → List AV) (by_ : Nat) (fr : Bool) (xs ys : List α) (n : Nat) (hl : xs.length = n) (h : (n + ys.length) * by_ ≤ 140737488355328) (h0 : fr = true → 0 < ys.length) : It :=
  ⟨.list (xs ++ ys).length ((xs ++ ys).map e), (n + ys.length) * by_ ≤ 140737488355328 ∧ (xs ++ ys).length = n + ys.length ∧ xs.map e ++ ys.map e = (xs ++ ys).map e ∧ (fr = true → 0 < ys.length) ∧ (xs.map e).length = n,
    ⟨h, by rw [List.length_append, hl], List.map_append.symm, h0, by rw [List.length_map, hl]⟩⟩
def ct {α : Type} (e : α → List AV) (xs : List α) (l h : Int) (hb : 0 ≤ l ∧ l ≤ h ∧ h ≤ (xs.length : Int)) : It :=
  ⟨.list ((xs.drop l.toNat).take (h.toNat - l.toNat)).length (((xs.drop l.toNat).take (h.toNat - l.toNat)).map e),
    0 ≤ l ∧ l ≤ h ∧ h ≤ (xs.length : Int) ∧ ((xs.drop l.toNat).take (h.toNat - l.toNat)).length = h.toNat - l.toNat ∧ ((xs.map e).drop l.toNat).take ((xs.drop l.toNat).take (h.toNat - l.toNat)).length = ((xs.drop l.toNat).take (h.toNat - l.toNat)).map e,
    ⟨hb.1, hb.2.1, hb.2.2, by simp; omega, by
      have : ((xs.drop l.toNat).take (h.toNat - l.toNat)).length = h.toNat - l.toNat := by simp; omega
      rw [this, List.map_take, List.map_drop]⟩⟩
def mk {α : Type} (e : α → List AV) (z : α) (zc : List AV) (by_ : Nat) (l c : Int) (h : 0 ≤ l ∧ l ≤ c ∧ c * by_ ≤ 140737488355328) (hz : zc = e z) : It :=
  ⟨.list l.toNat ((List.replicate l.toNat z).map e), l = (l.toNat : Int) ∧ l ≤ c ∧ c * by_ ≤ 140737488355328 ∧ List.replicate l.toNat zc = (List.replicate l.toNat z).map e, ⟨by omega, h.2.1, h.2.2, by rw [hz, List.map_replicate]⟩⟩
def mE {β : Type} (e : β → AV) (m : List (Int × β)) : List (Int × AV) := m.map fun p => (p.1, e p.2)
theorem aidx_mE {β : Type} (e : β → AV) (k : Int) : ∀ m : List (Int × β), aidx (mE e m) k = (aidx m k).map fun q => (q.1, e q.2)
  | [] => rfl
  | p :: r => by
    simp only [mE, List.map_cons, aidx]
    by_cases h : k = p.1
    · simp [h]
    · rw [if_neg h, if_neg h]
      have := aidx_mE e k r
      unfold mE at this
      rw [this]
      cases aidx r k <;> rfl
def mg {β : Type} (e : β → AV) (m : List (Int × β)) (k : Int) : It := ⟨.val ((aget m k).map e), aget (mE e m) k = (aget m k).map e, by
  simp only [aget, aidx_mE]; cases aidx m k <;> rfl⟩
def ms {β : Type} (e : β → AV) (m : List (Int × β)) (k : Int) (v : β) : It := ⟨.kvs (mE e (aset m k v)), aset (mE e m) k (e v) = mE e (aset m k v), by
  simp only [aset, aidx_mE]
  cases aidx m k with
  | none => simp [mE]
  | some q => simp [mE, List.map_set]⟩
def ca {P : Program} {f : Nat} {args : List AV} {H : List AO} {o : Out} (σ : List Nat) (h : Ev P f args H [] o) : It := ⟨.call σ o, Ev P f args H [] o, h⟩
def su {P : Program} {N m0 : Nat} {c : Code} {S S' : ASt} {x : Ex} (h : Runs P N m0 c S x S') : It := ⟨.sub S x S', Runs P N m0 c S x S', h⟩
def sc_ {P : Program} {N m0 : Nat} {c : Code} {S S' : ASt} {x : Ex} (h : Runs P N m0 c S x S') : It := ⟨.subc S x S', Runs P N m0 c S x S', h⟩
def sb_ {P : Program} {N m0 : Nat} {c : Code} {S S' : ASt} {x : Ex} (h : Runs P N m0 c S x S') : It := ⟨.subb S x S', Runs P N m0 c S x S', h⟩
def pk {b c : Bool} (h : b = c) : It := ⟨.pk c, b = c, h⟩
@[reducible] def vi (n : Int) : AV := .v (.int .i64 n)
@[reducible] def sL {α : Type} (b : Nat) (l : List α) : AV := .sl 0 b l.length 0 l.length
def pT : It := pk (rfl : true = true)
def pF : It := pk (rfl : false = false)
def bn {b c : Bool} (h : b = c) : It := ⟨.br (!c), (!b) = !c, congrArg not h⟩
def pn {b c : Bool} (h : b = c) : It := ⟨.pk (!c), (!b) = !c, congrArg not h⟩
def on_ (t : Nat) (i : It) : It := ⟨.on t i.k, i.p, i.h⟩
def sg_ {P : Program} {N m0 : Nat} {c : Code} {S S' : ASt} {x : Ex} (r : Nat) (h : Runs P N m0 c S x S') : It := ⟨.subg r S x S', Runs P N m0 c S x S', h⟩
def here (r : Nat) : It := ⟨.here r, True, trivial⟩
def adL (t : Nat) (o : Option Nat) (k : Nat) : It := ⟨.adL t o k, True, trivial⟩
def adB (h i : Nat) (o : Option Nat) (k : Nat) : It := ⟨.adB h i o k, True, trivial⟩
def frz (h : Nat) (ts : List Nat) (bs : List (Nat × Nat)) : It := ⟨.frz h ts bs, True, trivial⟩
def ron {α : Type} (t : Nat) (i : Option Nat) (e : α → List AV) (l : List α) : It := ⟨.ron t i l.length, (l.map e).length = l.length, List.length_map _⟩
def nzb (is : List (Nat × Nat)) : It := ⟨.nzb is, True, trivial⟩
def eqs {P : Program} {xt : Nat} (h : P.stoodInHeld xt = false ∧ P.eqGuardType P.depth xt = false) : It := ⟨.eqs, _, h⟩
def ext {P : Program} {f : Nat} {args : List AV} {v : AV} (h : Ext P f args v) : It := ⟨.ext v, Ext P f args v, h⟩
def nzm (k : Nat) : It := ⟨.nzm k, True, trivial⟩
def cutn {α : Type} (t : Nat) (e : α → List AV) (xs : List α) (m : Nat) : It := ⟨.cutn t (xs.take m).length ((xs.take m).map e), (xs.map e).take m = (xs.take m).map e ∧ ((xs.take m).map e).length = (xs.take m).length, ⟨List.map_take.symm, List.length_map _⟩⟩
def cl {α : Type} (e : α → List AV) (xs : List α) (off len : Nat) (z : α) {n : Nat} (h : off + len ≤ n) : It :=
  ⟨.aps ((xs.take off ++ List.replicate len z ++ xs.drop (off + len)).map e), off + len ≤ n ∧ (xs.map e).take off ++ List.replicate len (e z) ++ (xs.map e).drop (off + len) = (xs.take off ++ List.replicate len z ++ xs.drop (off + len)).map e,
    ⟨h, by rw [List.map_append, List.map_append, List.map_take, List.map_drop, List.map_replicate]⟩⟩
def aps {α : Type} (e : α → List AV) (xs : List α) (a b l : Nat) {n : Nat} (h : a + l ≤ n) : It :=
  ⟨.aps ((xs.take a ++ (xs.drop b).take l ++ xs.drop (a + l)).map e), a + l ≤ n ∧ (xs.map e).take a ++ ((xs.map e).drop b).take l ++ (xs.map e).drop (a + l) = (xs.take a ++ (xs.drop b).take l ++ xs.drop (a + l)).map e,
    ⟨h, by simp only [List.map_append, List.map_take, List.map_drop]⟩⟩
def rn (σ ts : List Nat) : It := ⟨.rn σ ts, True, trivial⟩
def kp (ks : List Nat) (os : List AO) (i : It) : It := ⟨.kp ks i.k, i.p ∧ os = os, ⟨i.h, rfl⟩⟩
def nlm (e k : Nat) : It := ⟨.nlm e k, True, trivial⟩
theorem ext_f64bits {P : Program} {f : Nat} {fn : Func} (hf : P.funcs[f]? = some fn) (hname : (fn.name == "runtime.NumGoroutine") = false) (hb : fn.body.isNone = true) (hn : Extern.findNext fn = none)
    (he : Extern.find fn = some Extern.MathFloatBits.float64bits) {x : Nat} (h : isnan x = false) : Ext P f [.flt x] (.v (.int .u64 x)) := by
  intro s gs w hW hl
  obtain ⟨g, r, rfl, h1, h2⟩ := hl.uncons
  have hr : r = [] := List.eq_nil_of_length_eq_zero h2.1.symm
  subst hr
  obtain ⟨c, rfl, hc⟩ := h1.fltE
  have hi : isnan c = false := by rw [← hc, isnan_flt] at h; exact h
  have hx : c = x := by rw [← hc, flt_num hi]
  subst hx
  refine ⟨.int .u64 c, ?_, .im (.v _)⟩
  rw [run_callFunc_extern hf hname hb hn he]
  rfl
def cI (k : IntKind) (x : Int) : List AV := [.v (.int k x)]
def cB (x : Bool) : List AV := [.v (.bool x)]
def cS (x : ByteArray) : List AV := [.v (.string x)]
def cF (x : Nat) : List AV := [.flt x]
def cL {α : Type} (k : Nat) (e : α → List AV) (xs : List α) : List AV := [.ro false k xs.length (xs.map e)]
def vI (k : IntKind) (x : Int) : AV := .v (.int k x)
def vB (x : Bool) : AV := .v (.bool x)
def vS (x : ByteArray) : AV := .v (.string x)
def vL {α : Type} (k : Nat) (e : α → List AV) (xs : List α) : AV := .ro false k xs.length (xs.map e)
def mgN {β : Type} (e : β → AV) {m : List (Int × β)} {k : Int} (h : aget m k = none) : It := ⟨.val none, aget (mE e m) k = none, by
  simp only [aget, aidx_mE] at h ⊢; cases hq : aidx m k <;> simp_all⟩
def mgS {β : Type} (e : β → AV) {m : List (Int × β)} {k : Int} {v : β} (h : aget m k = some v) : It := ⟨.val (some (e v)), aget (mE e m) k = some (e v), by
  simp only [aget, aidx_mE] at h ⊢; cases hq : aidx m k <;> simp_all⟩
theorem itT {α : Type} {c : Prop} [Decidable c] {x y r : α} (h : decide c = true) (H : (if c then x else y) = r) : x = r := by rwa [if_pos (of_decide_eq_true h)] at H
theorem itF {α : Type} {c : Prop} [Decidable c] {x y r : α} (h : decide c = false) (H : (if c then x else y) = r) : y = r := by rwa [if_neg (of_decide_eq_false h)] at H
theorem ibT {α : Type} {b : Bool} {x y r : α} (h : b = true) (H : (if b = true then x else y) = r) : x = r := by rwa [if_pos h] at H
theorem ibF {α : Type} {b : Bool} {x y r : α} (h : b = false) (H : (if b = true then x else y) = r) : y = r := by rwa [if_neg (by rw [h]; simp)] at H
theorem b2 (b : Bool) : b = true ∨ b = false := by cases b <;> simp
theorem gdE {α : Type} {c : Prop} [Decidable c] {x : Option α} {r : α} (H : (if c then x else none) = some r) : c ∧ x = some r := by
  by_cases h : c
  · rw [if_pos h] at H; exact ⟨h, H⟩
  · rw [if_neg h] at H; cases H
theorem bdE {α β : Type} {x : Option α} {f : α → Option β} {r : β} (H : x.bind f = some r) : ∃ a, x = some a ∧ f a = some r := Option.bind_eq_some_iff.1 H
@[reducible] def letC {α β : Type} (a : α) (f : α → β) : β := f a
theorem ic {α : Type} {c : Prop} [Decidable c] {x y r : α} (H : (if c then x else y) = r) : (decide c = true ∧ x = r) ∨ (decide c = false ∧ y = r) := by
  by_cases h : c
  · exact .inl ⟨decide_eq_true h, by rwa [if_pos h] at H⟩
  · exact .inr ⟨decide_eq_false h, by rwa [if_neg h] at H⟩
theorem ie {α : Type} {b : Bool} {x y r : α} (H : (if b = true then x else y) = r) : (b = true ∧ x = r) ∨ (b = false ∧ y = r) := by
  cases b
  · exact .inr ⟨rfl, by simpa using H⟩
  · exact .inl ⟨rfl, by simpa using H⟩
theorem sj {α : Type} {a b : α} (h : some a = some b) : a = b := Option.some.inj h
theorem ltE {α β : Type} {a : α} {f : α → β} {r : β} (H : letC a f = r) : ∃ x, a = x ∧ f x = r := ⟨a, rfl, H⟩
theorem ltD {α β : Type} {a : α} {f : α → β} {r : β} (H : letC a f = r) : f a = r := H
def sub_ : Code → List Nat → Code
  | c, [] => c
  | .seq a _, 0 :: r => sub_ a r
  | .seq _ b, _ :: r => sub_ b r
  | .cond _ a _, 0 :: r => sub_ a r
  | .cond _ _ b, _ :: r => sub_ b r
  | .block _ c, _ :: r => sub_ c r
  | .loop c, _ :: r => sub_ c r
  | c, _ => c
end
abbrev Rq {P : Program} {f : Nat} (F : FI P f) (m0 : Nat) (p : List Nat) (S : ASt) (x : Ex) (S2 : ASt) : Prop := Runs P F.N m0 (sub_ F.c p) S x S2

theorem ext_f64bitsx {P : Program} {f : Nat} {fn : Func} (hf : P.funcs[f]? = some fn) (hname : (fn.name == "runtime.NumGoroutine") = false) (hb : fn.body.isNone = true) (hn : Extern.findNext fn = none)
    (he : Extern.find fn = some Extern.MathFloatBits.float64bits) {c : Nat} : Ext P f [.v (.float .f64 c)] (.v (.int .u64 c)) := by
  intro s gs w hW hl
  obtain ⟨g, r, rfl, h1, h2⟩ := hl.uncons
  have hr : r = [] := List.eq_nil_of_length_eq_zero h2.1.symm
  subst hr
  rw [h1.vE]
  refine ⟨.int .u64 c, ?_, .im (.v _)⟩
  rw [run_callFunc_extern hf hname hb hn he]
  rfl
theorem Ev.fltE {P : Program} {f x : Nat} {H : List AO} {A : List (List AV)} {o : Out} (hc : ∀ args w, (callFunc f args).run P w = .ok (.enter f args) w) (h : ∀ c, flt c = x → Ev P f [.v (.float .f64 c)] H A o) : Ev P f [.flt x] H A o := by
  refine ⟨hc, fun s w gs hW hI hA => ?_⟩
  obtain ⟨g, r, rfl, h1, h2⟩ := hA.uncons
  have hr : r = [] := List.eq_nil_of_length_eq_zero h2.1.symm
  subst hr
  obtain ⟨c, rfl, hx⟩ := h1.fltE
  exact (h c hx).2 s w _ hW hI (L2.cons (.im (.v _)) L2.nil)
theorem nan_if (c : Nat) : (if wr .u64 ((c : Int) * 2 ^ (min (1 : Int).toNat 64)) / 2 ^ (min (53 : Int).toNat 64) = (2047 : Int) then some (!(decide (wr .u64 ((c : Int) * 2 ^ (min (12 : Int).toNat 64)) = (0 : Int)))) else some false) = some (isnan c) := by
  have e1 : wr .u64 ((c : Int) * 2 ^ (min (1 : Int).toNat 64)) / 2 ^ (min (53 : Int).toNat 64) = ((c % 9223372036854775808 / 4503599627370496 : Nat) : Int) := by
    rw [show wr .u64 ((c : Int) * 2 ^ (min (1 : Int).toNat 64)) = ((c : Int) * 2) % 18446744073709551616 from rfl]
    simp only [show ((2 : Int) ^ (min (53 : Int).toNat 64)) = 9007199254740992 from rfl]
    omega
  have e2 : wr .u64 ((c : Int) * 2 ^ (min (12 : Int).toNat 64)) = ((c % 4503599627370496 * 4096 : Nat) : Int) := by
    rw [show wr .u64 ((c : Int) * 2 ^ (min (12 : Int).toNat 64)) = ((c : Int) * 4096) % 18446744073709551616 from rfl]
    omega
  rw [e1, e2]
  have e3 : isnan c = (decide (c % 9223372036854775808 > 9218868437227405312)) := by
    unfold isnan Ieee.Format.read
    simp only [show Ieee.double.signWeight = 9223372036854775808 from rfl, show Ieee.double.binade = 4503599627370496 from rfl, show Ieee.double.infRung = 9218868437227405312 from rfl]
    split
    · simp only [Ieee.Datum.isNaN]; symm; rw [decide_eq_false_iff_not]; omega
    · split
      · simp only [Ieee.Datum.isNaN]; symm; rw [decide_eq_false_iff_not]; omega
      · split
        · simp only [Ieee.Datum.isNaN]; symm; rw [decide_eq_false_iff_not]; omega
        · simp only [Ieee.Datum.isNaN]; symm; rw [decide_eq_true_eq]; omega
  rw [e3]
  by_cases h : ((c % 9223372036854775808 / 4503599627370496 : Nat) : Int) = 2047
  · rw [if_pos h]
    by_cases h2 : ((c % 4503599627370496 * 4096 : Nat) : Int) = 0
    · simp only [h2, decide_true, Bool.not_true, Option.some.injEq]
      symm; rw [decide_eq_false_iff_not]; omega
    · simp only [h2, decide_false, Bool.not_false, Option.some.injEq]
      symm; rw [decide_eq_true_eq]; omega
  · rw [if_neg h]
    simp only [Option.some.injEq]
    symm; rw [decide_eq_false_iff_not]; omega
theorem nan_ifB (c : Nat) : (if wr .u64 ((c : Int) * 2 ^ (min (1 : Int).toNat 64)) / 2 ^ (min (53 : Int).toNat 64) = (2047 : Int) then (!(decide (wr .u64 ((c : Int) * 2 ^ (min (12 : Int).toNat 64)) = (0 : Int)))) else false) = isnan c := by
  have h := nan_if c
  split at h
  · rename_i c1; rw [if_pos c1]; exact Option.some.inj h
  · rename_i c1; rw [if_neg c1]; exact Option.some.inj h
theorem Ev.nz {P : Program} {f k : Nat} {c : Bool} {args : List AV} {H : List AO} {A : List (List AV)} {o : Out} (i : Nat) (h : Ev P f args H A o) (e : args[i]? = some (.ro c k 0 [])) : Ev P f (args.set i (.v (.slice none 0 0))) H A o := by
  refine ⟨h.1, fun s w gs hW hI hA => h.2 s w gs hW hI ⟨by simpa using hA.1, fun j y g hj hg => ?_⟩⟩
  by_cases hij : i = j
  · subst hij
    rw [e] at hj
    cases hj
    have hl := (List.getElem?_eq_some_iff.1 e).1
    have := hA.2 i (.v (.slice none 0 0)) g (by rw [List.getElem?_set_self hl]) hg
    rw [this.vE]; exact .im .nil0
  · exact hA.2 j y g (by rw [List.getElem?_set_ne hij]; exact hj) hg
theorem hget_ge {H : List AO} {j : Nat} (h : H.length ≤ j) : hget H j = .dead := by simp [hget, List.getElem?_eq_none h]
theorem Ev.nlr {P : Program} {f te k n n1 : Nat} {z1 : Bool} {xs ys : List (List AV)} (h1 : Ev P f [.v (.slice none 0 0)] [] [] (.ret (.v (.slice none 0 0)) [] []))
    (h2 : Ev P f [.sl 0 0 n 0 n] [.arr false te k n xs] [] (.ret (.sl 0 1 n1 0 n1) [.arr false te k n xs, .arr z1 te k n1 ys] [])) (hy : xs = [] → n1 = 0 ∧ ys = []) :
    Ev P f [.sl 0 0 n 0 n] [.arr true te k n xs] [] (.ret (.sl 0 1 n1 0 n1) [.arr true te k n xs, .arr true te k n1 ys] []) := by
  refine ⟨h1.1, fun s w gs hW hI hA => ?_⟩
  obtain ⟨g, r, rfl, hv, hl⟩ := hA.uncons
  have hr0 : r = [] := List.eq_nil_of_length_eq_zero hl.1.symm
  subst hr0
  have hC : s.C 0 = .arr true te k n xs := hI.C 0
  have hun : ∀ j, 1 ≤ j → s.ρ j = .unborn := fun j hj => hI.b j hj
  have hbs : s.bs = [] := List.eq_nil_of_length_eq_zero (by rw [hW.len, hI.A]; rfl)
  rcases hv.slE' hC with ⟨b, sz, cap, o, hr, k1, k2, k3, k4, k5, eg⟩ | ⟨_, hnl, hn0, _, _, eg⟩
  · let s0 : Ms := { s with C := fun j => if j = 0 then .arr false te k n xs else s.C j }
    have hW0 : Wd s0 w := by
      refine ⟨fun j b sz e => ?_, hW.inj, fun i b e => ?_, hW.len, hW.nodup, hW.imm, hW.d1, hW.d2, hW.d3, fun j e => ?_, hW.cln⟩
      · have hj : j = 0 := by
          rcases Nat.eq_zero_or_pos j with h | h
          · exact h
          · have := hun j h; rw [show s.ρ j = .at b sz from e] at this; cases this
        subst hj
        obtain ⟨ob, ho, hO⟩ := hW.obj 0 b sz e
        rw [hC] at hO
        exact ⟨ob, ho, hO⟩
      · rw [show s0.bs = [] from hbs] at e; simp at e
      · rcases Nat.eq_zero_or_pos j with h | h
        · subst h; rw [show s0.ρ 0 = s.ρ 0 from rfl, hr] at e; cases e
        · have := hun j h; rw [show s.ρ j = .nl from e] at this; cases this
    have hI0 : Is s0 [.arr false te k n xs] [] := by
      refine ⟨fun j => ?_, hI.A, fun j hj => hun j hj⟩
      show (if j = 0 then _ else s.C j) = _
      by_cases h : j = 0
      · subst h; rfl
      · rw [if_neg h, hI.C j, hget_ge (by simp; omega), hget_ge (by simp; omega)]
    have hv0 : V s0 (.sl 0 0 n 0 n) g := by rw [eg]; exact .sl (s := s0) hr (show s0.C 0 = .arr false te k n xs from rfl) k1 k2 k3 k4 k5
    refine (h2.2 s0 w [g] hW0 hI0 (L2.cons hv0 L2.nil)).mono ?_ ?_
    · rintro u w' ⟨v, H', A', s1, e, m1, m2, m3, m4⟩
      injection e with e1 e2 e3
      subst e1 e2 e3
      have c0 : s1.C 0 = .arr false te k n xs := m3.C 0
      have c1 : s1.C 1 = .arr z1 te k n1 ys := m3.C 1
      let s2 : Ms := { s1 with C := fun j => if j = 0 then .arr true te k n xs else if j = 1 then .arr true te k n1 ys else s1.C j }
      have hb1 : s1.bs = [] := List.eq_nil_of_length_eq_zero (by rw [m1.len, m3.A]; rfl)
      have hu1 : ∀ j, 2 ≤ j → s1.ρ j = .unborn := fun j hj => m3.b j hj
      have d0 : s2.C 0 = .arr true te k n xs := rfl
      have d1 : s2.C 1 = .arr true te k n1 ys := rfl
      refine ⟨_, _, _, s2, rfl, ⟨fun j b sz e => ?_, m1.inj, fun i b e => ?_, m1.len, m1.nodup, m1.imm, m1.d1, m1.d2, m1.d3, fun j e => ?_, m1.cln⟩, ⟨⟨m2.le.J, fun i b e => ?_, fun j hj => ?_⟩, m2.os, m2.tape, m2.output, m2.sz, m2.old, m2.own, m2.jn⟩, ⟨fun j => ?_, m3.A, m3.b⟩, ?_⟩
      · obtain ⟨ob, ho, hO⟩ := m1.obj j b sz e
        refine ⟨ob, ho, ?_⟩
        rcases Nat.lt_or_ge j 2 with h | h
        · rcases (show j = 0 ∨ j = 1 by omega) with rfl | rfl
          · rw [c0] at hO; rw [d0]; exact hO
          · rw [c1] at hO; rw [d1]; exact hO
        · have := hu1 j h; rw [show s1.ρ j = .at b sz from e] at this; cases this
      · rw [show s2.bs = [] from hb1] at e; simp at e
      · obtain ⟨te', tk, hk⟩ := m1.nl j e
        rcases Nat.lt_or_ge j 2 with h | h
        · rcases (show j = 0 ∨ j = 1 by omega) with rfl | rfl
          · rw [c0] at hk; cases hk
          · rw [c1] at hk
            injection hk with q1 q2 q3 q4 q5
            subst q4 q5
            exact ⟨_, _, d1⟩
        · have := hu1 j h; rw [show s1.ρ j = .nl from e] at this; cases this
      · rw [hbs] at e; simp at e
      · have hj0 : j = 0 := by
          rcases Nat.eq_zero_or_pos j with h | h
          · exact h
          · exact absurd (hun j h) hj
        subst hj0
        cases m2.le.f 0 hj with
        | same f1 f2 => exact .same f1 (by rw [d0, hC]; exact Kin.rfl')
        | died f1 f2 => rw [c0] at f2; cases f2
        | grew f1 f2 f3 f4 f5 =>
          rw [c0] at f2
          injection f2 with q1 q2 q3 q4 q5
          have hs0 : s0.C 0 = .arr false te k n xs := by simp [s0]
          rw [hs0] at f1
          injection f1 with p1 p2 p3 p4 p5
          omega
      · show (if j = 0 then _ else if j = 1 then _ else s1.C j) = _
        by_cases h : j = 0
        · subst h; rfl
        · by_cases h' : j = 1
          · subst h'; rfl
          · rw [if_neg h, if_neg h', m3.C j, hget_ge (by simp; omega), hget_ge (by simp; omega)]
      · rcases m4.slE' c1 with ⟨b', sz', cap', o', hr', l1, l2, l3, l4, l5, eg'⟩ | ⟨_, hnl', hn1, _, _, eg'⟩
        · rw [eg']; exact .sl (s := s2) hr' d1 l1 l2 l3 l4 l5
        · rw [eg']; subst hn1; exact .sl0 (s := s2) hnl' d1
    · rintro c w' ⟨v, H', A', s1, u, e, _⟩; cases e
  · obtain ⟨te', tk, hcc⟩ := hW.nl 0 hnl
    rw [hC] at hcc
    injection hcc with q1 q2 q3 q4 q5
    subst q4 q5
    obtain ⟨y1, y2⟩ := hy rfl
    subst y1 y2 eg
    have hc0 : renOL (hand [] false) ([].map (hget ([] : List AO))) = some [] := rfl
    have hW0 : Wd (calleeS s [] false []) w := callee_wd (H := []) hW List.nodup_nil (fun h hm => by simp at hm) hc0
    have hI0 : Is (calleeS s [] false []) [] [] := callee_is (s := s) (nd := false) hc0
    refine (h1.2 _ w [.slice none 0 0] hW0 hI0 (L2.cons (.im (.v _)) L2.nil)).mono ?_ ?_
    · rintro u w' ⟨v, H', A', s1, e, m1, m2, m3, m4⟩
      injection e with e1 e2 e3
      subst e1 e2 e3
      obtain ⟨c1, c2, c3⟩ := caller_ok (N := 1) (os := []) (H1 := []) hW List.nodup_nil (fun h hm => by simp at hm) (fun h hm => by simp at hm) hc0 m1 m2 m3.C m3.b (Nat.le_refl _) rfl (fun h hm => by simp [keys] at hm)
      have hk : keys ([] : List Nat) 1 ([] : List AO).length = [] := rfl
      rw [hk] at c1 c2 c3
      have hρ : ∀ j, (callerS s s1 [] [] false).ρ j = s.ρ j := fun j => rfl
      have hCC : ∀ j, (callerS s s1 [] [] false).C j = s.C j := fun j => rfl
      have hu : (callerS s s1 [] [] false).ρ 1 = .unborn := hun 1 (Nat.le_refl _)
      obtain ⟨w1, w2⟩ := Wd.put (r := .nl) (o := .arr true te k 0 []) (w' := w') c1 (fun e => absurd hu e) rfl rfl rfl (Nat.le_refl _) (fun _ _ _ => rfl) (fun b sz e => by cases e) (fun b sz e => by cases e) (fun _ => ⟨te, k, rfl⟩)
      refine ⟨_, _, _, _, rfl, w1, c2.trans w2, ⟨fun j => ?_, hI.A, fun j hj => ?_⟩, ?_⟩
      · by_cases h : j = 1
        · subst h; rw [put_C]; rfl
        · rw [put_C' h, hCC]
          by_cases h' : j = 0
          · subst h'; exact hC
          · rw [hI.C j, hget_ge (by simp; omega), hget_ge (by simp; omega)]
      · have hj' : 2 ≤ j := hj
        rw [put_ρ' (by omega), hρ]; exact hun j (by omega)
      · rw [m4.vE]; exact .sl0 put_ρ put_C
    · rintro c w' ⟨v, H', A', s1, u, e, _⟩; cases e
theorem Ev.drA {P : Program} {f : Nat} {args : List AV} {H H' : List AO} {A' : List (List AV)} {v : AV} (h : Ev P f args H [] (.ret v H' A')) (hv : ren ⟨some, false⟩ v = some v) (hH : renOL ⟨some, false⟩ H' = some H') : Ev P f args H [] (.ret v H' []) := by
  refine ⟨h.1, fun s w gs hW hI hA => (h.2 s w gs hW hI hA).mono ?_ ?_⟩
  · rintro g w' ⟨v0, H0, A0, s1, e, k1, k2, k3, k4⟩
    injection e with e1 e2 e3; subst e1 e2 e3
    have hbs : s.bs = [] := List.eq_nil_of_length_eq_zero (by rw [hW.len, hI.A]; rfl)
    obtain ⟨o1, o2⟩ := renOL_at hH
    let s2 : Ms := { s1 with bs := [], A := [] }
    have hs : Sees ⟨some, false⟩ s1 s2 := ⟨rfl, fun h h' e => by cases e; exact ⟨rfl, Kin.rfl'⟩, fun e => by cases e⟩
    refine ⟨v, H', [], s2, rfl, ⟨fun j b sz e => ?_, k1.inj, fun i b e => by simp [s2] at e, rfl, List.nodup_nil, k1.imm, k1.d1, fun b hb => by simp [s2] at hb, fun j b sz e hb => by simp [s2] at hb, k1.nl, fun cs hcs => by simp [s2] at hcs⟩,
      ⟨⟨k2.le.J, fun i b e => by rw [hbs] at e; simp at e, fun h hr => (by
        cases k2.le.f h hr with
        | same a b => exact .same a b
        | died a b => exact .died a b
        | grew a b c d e => exact .grew a b c d e)⟩, k2.os, k2.tape, k2.output, k2.sz, k2.old, ?_, k2.jn⟩, ⟨k3.C, rfl, k3.b⟩, k4.ren hs hv⟩
    · obtain ⟨ob, ho, hO⟩ := k1.obj j b sz e
      refine ⟨ob, ho, renO_ok hs ?_ hO⟩
      have hj : j < H'.length := by
        rcases Nat.lt_or_ge j H'.length with c | c
        · exact c
        · have := k3.b j c; rw [show s1.ρ j = .at b sz from e] at this; cases this
      show renO _ (s1.C j) = some (s1.C j)
      rw [k3.C j]; exact o2 j hj
    · rintro b (⟨j, sz, e⟩ | hb)
      · exact k2.own b (.inl ⟨j, sz, e⟩)
      · simp [s2] at hb
  · rintro c w' ⟨v0, H0, A0, s1, g, e, _⟩
    cases e
theorem ext_mapsclone {P : Program} {f : Nat} {fn : Func} (hf : P.funcs[f]? = some fn) (hname : (fn.name == "runtime.NumGoroutine") = false) (hb : fn.body.isNone = true) (hn : Extern.findNext fn = none)
    (he : Extern.find fn = some Extern.MapsClone.clone) : ExM P f := by
  intro t r es clock w hr
  rw [run_callFunc_extern hf hname hb hn he]
  have e : Extern.MapsClone.clone #[.iface t (.map (some r))] = (getObj r >>= fun o => match o with
      | .map entries clock => (newObj (.map entries clock) >>= fun n => pure (.iface t (.map (some n))))
      | _ => stuck "maps.clone: a map expected") := rfl
  rw [e]
  simp [Sem.run_bind, getObj, newObj, Sem.run, hr, Result.andThen]
theorem Ev.nlo {P : Program} {f : Nat} {args : List AV} {H' : List AO} {A A' : List (List AV)} {v : AV} {i e k : Nat} (h : Ev P f args [.arr true e k 0 []] A (.ret v H' A')) (hi : args[i]? = some (.sl 0 0 0 0 0)) :
    Ev P f (args.set i (.v (.slice none 0 0))) [] A (.ret v H' A') := by
  refine ⟨h.1, fun s w gs hW hI hA => ?_⟩
  have hun : s.ρ 0 = .unborn := hI.b 0 (Nat.le_refl _)
  have hp := Wd.put (s := s) (w := w) (w' := w) (h := 0) (r := .nl) (o := .arr true e k 0 []) hW (fun hb => absurd hun hb) rfl rfl rfl (Nat.le_refl _) (fun _ _ _ => rfl) (fun b sz h => by cases h) (fun b sz h => by cases h) (fun _ => ⟨e, k, rfl⟩)
  obtain ⟨p1, p2⟩ := hp
  have hIs : Is (s.put 0 .nl (.arr true e k 0 [])) [.arr true e k 0 []] A := by
    refine ⟨fun j => ?_, hI.A, fun j hj => ?_⟩
    · rcases Nat.eq_zero_or_pos j with c | c
      · subst c; rw [put_C]; rfl
      · rw [put_C' (by omega), hI.C j]; simp only [hget, List.getD]; rw [List.getElem?_eq_none (by simp), List.getElem?_eq_none (by simp; omega)]
    · have hj : 1 ≤ j := hj
      rw [put_ρ' (by omega)]; exact hI.b j (Nat.zero_le _)
  have hL : L2 (V (s.put 0 .nl (.arr true e k 0 []))) args gs := by
    refine ⟨by simpa using hA.1, fun j y g a b => ?_⟩
    by_cases hj : i = j
    · subst hj
      rw [hi] at a; cases a
      have hlt := (List.getElem?_eq_some_iff.1 hi).1
      have := hA.2 i _ g (List.getElem?_set_self hlt) b
      rw [this.vE]
      exact .sl0 put_ρ put_C
    · exact (hA.2 j y g (by rw [List.getElem?_set_ne hj]; exact a) b).mono p2.le
  refine (h.2 _ w gs p1 hIs hL).mono ?_ ?_
  · rintro g w' ⟨v0, H0, A0, s1, ee, k1, k2, k3, k4⟩
    exact ⟨v0, H0, A0, s1, ee, k1, p2.trans k2, k3, k4⟩
  · rintro c w' ⟨v0, H0, A0, s1, g, ee, ec, k1, k2, k3, k4⟩
    exact ⟨v0, H0, A0, s1, g, ee, ec, k1, p2.trans k2, k3, k4⟩
def nzk {o : Option Nat} {i : Nat} (h : o = some i) : It := ⟨.isn i, o = some i, h⟩
def nln : It := ⟨.nln, True, trivial⟩
def ndn {α : Type} (e : α → List AV) (l : List α) (y : α) : It := ⟨.node l.length ((l ++ [y]).map e), (l.map e).length = l.length ∧ l.map e ++ [e y] = (l ++ [y]).map e, ⟨List.length_map _, by simp⟩⟩
def ndl {α : Type} (e : α → List AV) {l : List α} {i : Nat} {y : α} (h : l[i]? = some y) : It := ⟨.cells 0 (e y), (l.map e)[i]? = some (e y), by rw [List.getElem?_map, h]; rfl⟩
def ndu {α : Type} (e : α → List AV) {l : List α} {i : Nat} {y : α} (r : Nat) (vs : List AV) (z : α) (h : l[i]? = some y) (hz : splice (e y) r vs = e z) : It :=
  ⟨.upd (e y) ((l.set i z).map e), (l.map e)[i]? = some (e y) ∧ (l.map e).set i (splice (e y) r vs) = (l.set i z).map e, ⟨by rw [List.getElem?_map, h]; rfl, by rw [hz, List.map_set]⟩⟩
def mgD {β : Type} (e : β → AV) (m : List (Int × β)) (k : Int) (z : β) : It := ⟨.valD (e ((aget m k).getD z)) (aget m k).isSome, (aget (mE e m) k).getD (e z) = e ((aget m k).getD z) ∧ (aget (mE e m) k).isSome = (aget m k).isSome, by
  simp only [aget, aidx_mE]; cases aidx m k <;> exact ⟨rfl, rfl⟩⟩
def can {P : Program} {f : Nat} {args : List AV} {H : List AO} {A : List (List AV)} {o : Out} (σ : List Nat) (h : Ev P f args H A o) : It := ⟨.calln σ o, Ev P f args H A o, h⟩
def exm {P : Program} {f : Nat} (h : ExM P f) : It := ⟨.exm, ExM P f, h⟩

def defB (L : Fr) (ops : List Oper) : Option (Nat × Nat × List AV) := match ops with
  | [⟨some t, .makeFunc (.func g) fi ca, _, _, _, none⟩, ⟨none, .defer ⟨.value (.tmp t'), as_, _⟩, _, _, _, none⟩] =>
    bif Nat.beq t t' && fi.isEmpty && as_.isEmpty then (match rdL L ca.toList with
      | some vs => some (t, g, vs)
      | none => none) else none
  | _ => none
def recB (ops : List Oper) : Option (Nat × Nat) := match ops with
  | [⟨some d, .call ⟨.builtin .recover, as_, _⟩, _, _, _, none⟩, ⟨some d2, .assign (.tmp d'), _, _, _, none⟩] => bif Nat.beq d d' && as_.isEmpty then some (d, d2) else none
  | _ => none
def At (N : Nat) (ds : List Deferred) (S : ASt) (x : Ex) (s' : Ms) (e : Exit) (a' : Act) (w' : World) : Prop := match x, e with
  | .normal, .normal => SI N ds S s' w' a'
  | .exit i, .exit j => i = j ∧ SI N ds S s' w' a'
  | .ret, .ret => SI N ds S s' w' a'
  | .pan v, .panic c => ∃ g, c = [{ v := g, recovered := false }] ∧ V s' v g ∧ SI N ds S s' w' a'
  | _, _ => False
section
variable {P : Program}
theorem End.at_ {N k : Nat} {ds : List Deferred} {S : ASt} {x : Ex} {s : Ms} {w : World} {e : Exit} {a' : Act} {w' : World} (h : End N k ds S x s w e a' w') : ∃ s', StpK k s w s' w' ∧ At N ds S x s' e a' w' := h
theorem At.end_ {N k : Nat} {ds : List Deferred} {S : ASt} {x : Ex} {s s' : Ms} {w : World} {e : Exit} {a' : Act} {w' : World} (hs : StpK k s w s' w') (h : At N ds S x s' e a' w') : End N k ds S x s w e a' w' := ⟨s', hs, h⟩
structure Rd where
  r : Rr
  df : Option (Nat × List AV)
def exD (T : List (TE P)) (N m0 : Nat) : Code → ASt → List It → Option Rd
  | .seq a b, S, sc => (match exD T N m0 a S sc with
    | some q => (match q.df with
      | none => (match q.r.x with
        | .normal => (match exD T N m0 b q.r.S q.r.sc with
          | some q2 => some ⟨⟨q2.r.x, q2.r.S, q2.r.sc, q.r.d.app q2.r.d⟩, q2.df⟩
          | none => none)
        | _ => some q)
      | some df => (match q.r.x with
        | .normal => (match exC T N q.r.S.H.length b q.r.S q.r.sc with
          | some r2 => some ⟨⟨r2.x, r2.S, r2.sc, q.r.d.app r2.d⟩, some df⟩
          | none => none)
        | _ => some q))
    | none => none)
  | .region id ops draw, S, sc => (match defB S.L ops.toList with
    | some (t, g, vs) => bif Nat.blt t N && !draw then some ⟨⟨.normal, ⟨(t, .fn g [] vs) :: S.L, S.H, S.A⟩, sc, ⟨[], []⟩⟩, some (g, vs)⟩ else none
    | none => (match exC T N m0 (.region id ops draw) S sc with
      | some r => some ⟨r, none⟩
      | none => none))
  | c, S, sc => (match exC T N m0 c S sc with
    | some r => some ⟨r, none⟩
    | none => none)
def EndD (N m0 : Nat) (S : ASt) (x : Ex) (df : Option (Nat × List AV)) (s0 : Ms) (w0 : World) : Exit → Act → World → Prop := fun e a' w' => match df with
  | none => End N m0 [] S x s0 w0 e a' w'
  | some (g, vs) => ∃ gs s', StpK m0 s0 w0 s' w' ∧ L2 (V s') vs gs ∧ At N [⟨.fn (.func g) gs.toArray, #[]⟩] S x s' e a' w'
abbrev GoalD (P : Program) (N m0 : Nat) (c : Code) (S : ASt) (q : Rd) : Prop := ∀ s0 w0 s w a, SI N [] S s w a → StpK m0 s0 w0 s w → c.wp P (EndD N m0 q.r.S q.r.x q.df s0 w0) a w
theorem defB_wp {ops : Array Oper} {S : ASt} {N t g id : Nat} {vs : List AV} {s : Ms} {w : World} {a : Act} {Q : Exit → Act → World → Prop} (h : defB S.L ops.toList = some (t, g, vs)) (ht : t < N) (hS : SI N [] S s w a)
    (k : ∀ a' gs, L2 (V s) vs gs → SI N [⟨.fn (.func g) gs.toArray, #[]⟩] ⟨(t, .fn g [] vs) :: S.L, S.H, S.A⟩ s w a' → Q .normal a' w) : (Code.region id ops false).wp P Q a w := by
  unfold defB at h
  split at h
  · rename_i t0 g0 fi ca ty1 pos1 af1 t1 as_ at_ ty2 pos2 af2 hops
    have h9 := condE' h
    clear h
    obtain ⟨h1, h⟩ := h9
    simp only [Bool.and_eq_true, Array.isEmpty_iff] at h1
    obtain ⟨⟨h1, h2⟩, h3⟩ := h1
    have h1 := Nat.eq_of_beq_eq_true h1
    subst h1 h2 h3
    split at h
    · rename_i us hus
      cases h
      have hop : ops = #[(⟨some t, .makeFunc (.func g) #[] ca, ty1, pos1, af1, none⟩ : Oper), ⟨none, .defer ⟨.value (.tmp t), #[], at_⟩, ty2, pos2, af2, none⟩] := by
        have := congrArg List.toArray hops
        simpa using this
      subst hop
      obtain ⟨gl, c1, c2⟩ : ∃ gl, ca.toList.map a.eval = gl ∧ L2 (V s) vs gl := ⟨_, rfl, rdL_ok (s := s) (a := a) hus fun x hx y hy => hS.eval hy⟩
      refine wp_region ?_
      have hl : List.range (#[(⟨some t, .makeFunc (.func g) #[] ca, ty1, pos1, af1, none⟩ : Oper), ⟨none, .defer ⟨.value (.tmp t), #[], at_⟩, ty2, pos2, af2, none⟩] : Array Oper).size = [0, 1] := rfl
      rw [hl, wpOps_cons]
      unfold wpOp
      simp only [List.getElem?_toArray, List.getElem?_cons_zero]
      have hw : ∀ (o : Oper) ops (a : Act), o.guard = none → Region.wanted o (yielded ops a.tmps) = true := fun o ops a h => by simp [Region.wanted, h]
      rw [if_pos (hw _ _ _ rfl)]
      refine .inl ?_
      unfold Oper.wp
      have e1 : (execOp a.eval ⟨some t, .makeFunc (.func g) #[] ca, ty1, pos1, af1, none⟩).run P w = .ok (.value (.func (.func g) #[] gl.toArray)) w := by
        have := e_makeFunc (P := P) (w := w) (a := a) (dst := some t) (ty := ty1) (pos := pos1) (af := af1) (gd := none) (fn := .func g) (fi := []) (ca := ca.toList) (evs_self a []) (evs_self a ca.toList)
        rw [c1] at this
        simpa using this
      rw [e1, Oper.upon_value]
      rw [wpOps_cons]
      unfold wpOp
      simp only [List.getElem?_toArray, List.getElem?_cons_zero, List.getElem?_cons_succ]
      rw [if_pos (hw _ _ _ rfl)]
      refine .inl ?_
      unfold Oper.wp
      have hts : t < a.tmps.size := by rw [hS.size]; exact ht
      have e2 : (execOp (a.put (some t) (.func (.func g) #[] gl.toArray)).eval ⟨none, .defer ⟨.value (.tmp t), #[], at_⟩, ty2, pos2, af2, none⟩).run P w = .ok (.defer ⟨.fn (.func g) gl.toArray, #[]⟩) w := by
        have : (a.put (some t) (.func (.func g) #[] gl.toArray)).eval (.tmp t) = .func (.func g) #[] gl.toArray := by
          rw [eval_tmp, put_getD (fun x hx => by cases hx; exact hts), if_pos rfl]
        simp only [execOp, resolve, this]
        simp [Deferred.ofValue, Sem.run_bind]
      rw [e2, Oper.upon_defer]
      simp only [wpOps]
      refine k _ gl c2 ⟨hS.wd, hS.is, fun u x hx => ?_, ?_, ?_⟩
      · have e3 : (({ a.put (some t) (.func (.func g) #[] gl.toArray) with defers := ⟨.fn (.func g) gl.toArray, #[]⟩ :: (a.put (some t) (.func (.func g) #[] gl.toArray)).defers } : Act).put none undef).tmps.getD u undef = if some t = some u then .func (.func g) #[] gl.toArray else a.tmps.getD u undef := by
          show (a.put (some t) (.func (.func g) #[] gl.toArray)).tmps.getD u undef = _
          exact put_getD (fun x hx => by cases hx; exact hts)
        rw [e3]
        rcases lk_cons hx with ⟨rfl, rfl⟩ | hx'
        · rw [if_pos rfl]; exact .fn (gf := []) (gc := gl) rfl c2.1 (fun j y g a => by simp at a) c2.2
        · by_cases e : t = u
          · subst e
            simp only [lk, Nat.beq_refl, cond_true, Option.some.injEq] at hx
            subst hx
            rw [if_pos rfl]; exact .fn (gf := []) (gc := gl) rfl c2.1 (fun j y g a => by simp at a) c2.2
          · rw [if_neg (fun h => e (Option.some.inj h))]; exact hS.L u x hx'
      · show (a.put (some t) _).tmps.size = N
        rw [put_size]; exact hS.size
      · show _ :: (a.put (some t) _).defers = _
        rw [put_defers, hS.defers]
    · cases h
  · cases h
theorem exD_ok {T : List (TE P)} {N m0 : Nat} (hmix : P.follows .mixedOrders = true) : ∀ {c : Code} {S : ASt} {sc : List It} {q : Rd}, exD T N m0 c S sc = some q → q.r.d.ok → GoalD P N m0 c S q := by
  intro c
  have base : ∀ {c : Code} {S : ASt} {sc : List It} {q : Rd}, (match exC T N m0 c S sc with | some r => some (⟨r, none⟩ : Rd) | none => none) = some q → q.r.d.ok → GoalD P N m0 c S q := by
    intro c S sc q h hd s0 w0 s w a hS hst
    split at h
    · rename_i r hr
      cases h
      exact exC_ok hmix hr hd [] s0 w0 s w a hS hst
    · cases h
  induction c with
  | seq x y ihx ihy =>
    intro S sc q h hd s0 w0 s w a hS hst
    simp only [exD] at h
    split at h
    · rename_i q1 h1
      split at h
      · rename_i hdf
        split at h
        · rename_i hx
          split at h
          · rename_i q2 h2
            cases h
            obtain ⟨d1, d2⟩ := Dt.app_ok hd
            refine wp_seq (wp_mono (ihx h1 d1 s0 w0 s w a hS hst) fun e a' w' he => ?_)
            rw [hdf] at he
            obtain ⟨s', k1, k2⟩ := End.at_ he
            rw [hx] at k2
            cases e <;> first | exact False.elim k2 | skip
            exact ihy h2 d2 s0 w0 s' w' a' k2 k1
          · cases h
        · rename_i hne
          cases h
          refine wp_seq (wp_mono (ihx h1 hd s0 w0 s w a hS hst) fun e a' w' he => ?_)
          rw [hdf] at he ⊢
          obtain ⟨s', k1, k2⟩ := End.at_ he
          generalize hxx : q.r.x = xx at *
          cases xx with
          | normal => exact absurd rfl hne
          | exit i => cases e <;> first | exact False.elim k2 | exact ⟨s', k1, k2⟩
          | ret => cases e <;> first | exact False.elim k2 | exact ⟨s', k1, k2⟩
          | pan v => cases e <;> first | exact False.elim k2 | exact ⟨s', k1, k2⟩
      · rename_i df hdf
        obtain ⟨g, vs⟩ := df
        split at h
        · rename_i hx
          split at h
          · rename_i r2 h2
            cases h
            obtain ⟨d1, d2⟩ := Dt.app_ok hd
            refine wp_seq (wp_mono (ihx h1 d1 s0 w0 s w a hS hst) fun e a' w' he => ?_)
            rw [hdf] at he
            obtain ⟨gs, s', k1, k0, k2⟩ := he
            rw [hx] at k2
            cases e <;> first | exact False.elim k2 | skip
            have k2 : SI N _ q1.r.S s' w' a' := k2
            refine wp_mono (exC_ok hmix h2 d2 _ s' w' s' w' a' k2 (StpK.refl _ _ _)) fun e2 a2 w2 he2 => ?_
            obtain ⟨s2, m1, m2⟩ := End.at_ he2
            have mf := m1.full k2.is.b
            exact ⟨gs, s2, k1.trans (mf.K m0), k0.mono fun x g hv => hv.mono mf.le, m2⟩
          · cases h
        · rename_i hne
          cases h
          refine wp_seq (wp_mono (ihx h1 hd s0 w0 s w a hS hst) fun e a' w' he => ?_)
          rw [hdf] at he ⊢
          obtain ⟨gs, s', k1, k0, k2⟩ := he
          generalize hxx : q.r.x = xx at *
          cases xx with
          | normal => exact absurd rfl hne
          | exit i => cases e <;> first | exact False.elim k2 | exact ⟨gs, s', k1, k0, k2⟩
          | ret => cases e <;> first | exact False.elim k2 | exact ⟨gs, s', k1, k0, k2⟩
          | pan v => cases e <;> first | exact False.elim k2 | exact ⟨gs, s', k1, k0, k2⟩
    · cases h
  | region id ops draw =>
    intro S sc q h hd
    simp only [exD] at h
    split at h
    · rename_i t g vs hb
      obtain ⟨h1, h⟩ := condE' h
      cases h
      simp only [Bool.and_eq_true, Bool.not_eq_true'] at h1
      obtain ⟨h1, h2⟩ := h1
      subst h2
      intro s0 w0 s w a hS hst
      exact defB_wp hb (blt h1) hS fun a' gs k1 k2 => ⟨gs, s, hst, k1, k2⟩
    · exact base h hd
  | _ => intro S sc q h hd; simp only [exD] at h; exact base (sc := sc) h hd
def exG (T : List (TE P)) (N m : Nat) (x : AV) : Code → ASt → List It → Option (Rr × Bool)
  | .seq a b, S, sc => (match exG T N m x a S sc with
    | some (r, rec) => (match r.x with
      | .normal => (match rec with
        | false => (match exG T N m x b r.S r.sc with
          | some (q, rec2) => some (⟨q.x, q.S, q.sc, r.d.app q.d⟩, rec2)
          | none => none)
        | true => (match exC T N m b r.S r.sc with
          | some q => some (⟨q.x, q.S, q.sc, r.d.app q.d⟩, true)
          | none => none))
      | _ => none)
    | none => none)
  | .region id ops draw, S, sc => (match recB ops.toList with
    | some (d, d2) => bif Nat.blt d N && Nat.blt d2 N && !draw then some (⟨.normal, ⟨(d2, x) :: (d, x) :: S.L, S.H, S.A⟩, sc, ⟨[], []⟩⟩, true) else none
    | none => (match exC T N m (.region id ops draw) S sc with
      | some r => some (r, false)
      | none => none))
  | c, S, sc => (match exC T N m c S sc with
    | some r => some (r, false)
    | none => none)
structure Mode (x : AV) (u u' : FrameMode) (g : Value) : Prop where
  get : ∀ (c₀ : Frame) (cs : List Frame), c₀.mode = u → (recoverD (c₀ :: cs) = none ∧ g = .nilIface ∧ u' = u) ∨ recoverD (c₀ :: cs) = some (g, { c₀ with mode := u' } :: cs)
theorem mode_ret : Mode (.v .nilIface) .returning .returning .nilIface := ⟨fun c₀ cs h => .inl ⟨by simp [recoverD, h], rfl, rfl⟩⟩
theorem mode_pan {v : AV} {g : Value} : Mode v (.panicking [⟨g, false, false⟩]) (.panicking [⟨g, true, false⟩]) g := ⟨fun c₀ cs h => .inr (by simp [recoverD, h])⟩
theorem same_mode {c₀ : Frame} {u : FrameMode} (h : c₀.mode = u) : c₀ = { c₀ with mode := u } := by subst h; rfl
theorem wpS_mono {c : Code} {Q Q' : Exit → Act → List Frame → World → Prop} {a : Act} {cs : List Frame} {w : World} (h : c.wpS P Q a cs w) (k : ∀ e a' cs' w', Q e a' cs' w' → Q' e a' cs' w') : c.wpS P Q' a cs w :=
  fun b kk hb hr => let ⟨e, a', cs', w', q, r⟩ := h b kk hb hr; ⟨e, a', cs', w', k _ _ _ _ q, r⟩
theorem exG_ok {T : List (TE P)} {N m : Nat} {x : AV} {u u' : FrameMode} {g : Value} (hmix : P.follows .mixedOrders = true) (hM : Mode x u u' g) {s0 : Ms} {w0 : World} (hb : ∀ h, m ≤ h → s0.ρ h = .unborn) (hx : V s0 x g) (c₀ : Frame) (cs : List Frame) (hu : c₀.mode = u) :
    ∀ {c : Code} {S : ASt} {sc : List It} {r : Rr} {rc : Bool}, exG T N m x c S sc = some (r, rc) → r.d.ok → ∀ s w a, SI N [] S s w a → StpK m s0 w0 s w →
      c.wpS P (fun e a' fs w' => End N m [] r.S r.x s0 w0 e a' w' ∧ fs = (if rc = true then { c₀ with mode := u' } else c₀) :: cs) a (c₀ :: cs) w := by
  intro c
  have base : ∀ {c : Code} {S : ASt} {sc : List It} {r : Rr} {rc : Bool}, (match exC T N m c S sc with | some r => some (r, false) | none => none) = some (r, rc) → r.d.ok → ∀ s w a, SI N [] S s w a → StpK m s0 w0 s w →
      c.wpS P (fun e a' fs w' => End N m [] r.S r.x s0 w0 e a' w' ∧ fs = (if rc = true then { c₀ with mode := u' } else c₀) :: cs) a (c₀ :: cs) w := by
    intro c S sc r rc h hd s w a hS hst
    split at h
    · rename_i r1 hr
      cases h
      exact wpS_of_wp (wp_mono (exC_ok hmix hr hd [] s0 w0 s w a hS hst) fun e a' w' he => ⟨he, by simp⟩)
    · cases h
  induction c with
  | seq y z ihy ihz =>
    intro S sc r rc h hd s w a hS hst
    simp only [exG] at h
    split at h
    · rename_i r1 rc1 h1
      split at h
      · rename_i hn
        split at h
        · split at h
          · rename_i q rc2 h2
            cases h
            obtain ⟨d1, d2⟩ := Dt.app_ok hd
            refine wpS_seq (wpS_mono (ihy h1 d1 s w a hS hst) fun e a' fs w' he => ?_)
            obtain ⟨he, rfl⟩ := he
            obtain ⟨s', k1, k2⟩ := End.at_ he
            rw [hn] at k2
            cases e <;> first | exact False.elim k2 | skip
            exact ihz h2 d2 s' w' a' k2 k1
          · cases h
        · split at h
          · rename_i q h2
            cases h
            obtain ⟨d1, d2⟩ := Dt.app_ok hd
            refine wpS_seq (wpS_mono (ihy h1 d1 s w a hS hst) fun e a' fs w' he => ?_)
            obtain ⟨he, rfl⟩ := he
            obtain ⟨s', k1, k2⟩ := End.at_ he
            rw [hn] at k2
            cases e <;> first | exact False.elim k2 | skip
            exact wpS_of_wp (wp_mono (exC_ok hmix h2 d2 [] s0 w0 s' w' a' k2 k1) fun e2 a2 w2 he2 => ⟨he2, rfl⟩)
          · cases h
      · cases h
    · cases h
  | region id ops draw =>
    intro S sc r rc h hd s w a hS hst
    simp only [exG] at h
    split at h
    · rename_i d d2 hrb
      obtain ⟨h1, h⟩ := condE' h
      cases h
      simp only [Bool.and_eq_true, Bool.not_eq_true'] at h1
      obtain ⟨⟨h1, h2⟩, h3⟩ := h1
      subst h3
      unfold recB at hrb
      split at hrb
      · rename_i d0 as_ at_ ty1 pos1 af1 d20 d' ty2 pos2 af2 hops
        obtain ⟨h4, hrb⟩ := condE' hrb
        cases hrb
        simp only [Bool.and_eq_true, Array.isEmpty_iff] at h4
        obtain ⟨h4, h5⟩ := h4
        have h4 := Nat.eq_of_beq_eq_true h4
        subst h4 h5
        have hop : ops = #[(⟨some d, .call ⟨.builtin .recover, #[], at_⟩, ty1, pos1, af1, none⟩ : Oper), ⟨some d2, .assign (.tmp d), ty2, pos2, af2, none⟩] := by
          have := congrArg List.toArray hops
          simpa using this
        subst hop
        have hw : ∀ (o : Oper) ops (a : Act), o.guard = none → Region.wanted o (yielded ops a.tmps) = true := fun o ops a h => by simp [Region.wanted, h]
        have hl : List.range (#[(⟨some d, .call ⟨.builtin .recover, #[], at_⟩, ty1, pos1, af1, none⟩ : Oper), ⟨some d2, .assign (.tmp d), ty2, pos2, af2, none⟩] : Array Oper).size = [0, 1] := rfl
        have hex : (execOp a.eval ⟨some d, .call ⟨.builtin .recover, #[], at_⟩, ty1, pos1, af1, none⟩).run P w = .ok .recover w := by
          simp [execOp, resolve, invoke, builtin, Sem.run_bind]
        have hd1 : d < a.tmps.size := by rw [hS.size]; exact blt h1
        have hd2 : d2 < a.tmps.size := by rw [hS.size]; exact blt h2
        have hxs : V s x g := hx.mono (hst.full hb).le
        have fin : ∀ fs, fs = { c₀ with mode := u' } :: cs → wpOpsS P #[(⟨some d, .call ⟨.builtin .recover, #[], at_⟩, ty1, pos1, af1, none⟩ : Oper), ⟨some d2, .assign (.tmp d), ty2, pos2, af2, none⟩] (fun e a' fs w' => End N m [] ⟨(d2, x) :: (d, x) :: S.L, S.H, S.A⟩ .normal s0 w0 e a' w' ∧ fs = (if true = true then { c₀ with mode := u' } else c₀) :: cs) [1] (a.put (some d) g) fs w := by
          intro fs hfs
          simp only [wpOpsS, List.getElem?_toArray, List.getElem?_cons_zero, List.getElem?_cons_succ]
          have ev : (a.put (some d) g).eval (.tmp d) = g := by rw [eval_tmp, put_getD (fun x hx => by cases hx; exact hd1), if_pos rfl]
          rw [if_pos (hw _ _ _ rfl), e_assign ev]
          simp only [Oper.upon_value]
          refine ⟨At.end_ hst ⟨hS.wd, hS.is, fun t y hy => ?_, by rw [put_size, put_size]; exact hS.size, by rw [put_defers, put_defers]; exact hS.defers⟩, by simp [hfs]⟩
          rw [put_getD (fun x hx => by cases hx; rw [put_size]; exact hd2)]
          simp only [lk] at hy
          cases hb1 : Nat.beq d2 t
          · have n1 : d2 ≠ t := fun e => by rw [e, Nat.beq_refl] at hb1; cases hb1
            rw [hb1] at hy
            simp only [cond_false] at hy
            rw [if_neg (fun e => n1 (Option.some.inj e)), put_getD (fun x hx => by cases hx; exact hd1)]
            cases hb2 : Nat.beq d t
            · have n2 : d ≠ t := fun e => by rw [e, Nat.beq_refl] at hb2; cases hb2
              rw [hb2] at hy
              rw [if_neg (fun e => n2 (Option.some.inj e))]
              exact hS.L t y hy
            · have := Nat.eq_of_beq_eq_true hb2
              subst this
              rw [hb2] at hy
              cases hy
              rw [if_pos rfl]; exact hxs
          · have := Nat.eq_of_beq_eq_true hb1
            subst this
            rw [hb1] at hy
            cases hy
            rw [if_pos rfl]; exact hxs
        refine wpS_region ?_
        rw [hl]
        unfold wpOpsS
        simp only [List.getElem?_toArray, List.getElem?_cons_zero]
        rw [if_pos (hw _ _ _ rfl), hex]
        rcases hM.get c₀ cs hu with ⟨e1, e2, e3⟩ | e1
        · simp only [e1]
          subst e2 e3
          refine fin _ ?_
          rw [← same_mode hu]
        · simp only [e1]
          exact fin _ rfl
      · cases hrb
    · exact base h hd s w a hS hst
  | _ => intro S sc r rc h hd s w a hS hst; simp only [exG] at h; exact base (sc := sc) h hd s w a hS hst
def outR (T : List (TE P)) (m0 : Nat) (S : ASt) (sc : List It) (rs : List ResultVar) (o : Out) (d0 : Dt) : Option Dt := match adjs m0 S sc with
  | some (S3, sc3, d3) => (match sc3 with
    | [] => (match o with
      | .ret v H' A' => (match resV T S3 rs with
        | some vs => (match outE m0 S3 (packA vs) v H' A' with
          | some es => some (d0.app (d3.app ⟨[], es⟩))
          | none => none)
        | none => none)
      | _ => none)
    | _ => none)
  | none => none
theorem outR_ok {T : List (TE P)} {m0 N : Nat} {ds : List Deferred} {S : ASt} {sc : List It} {rs : List ResultVar} {o : Out} {d0 d : Dt} {fn : Func} {s0 s : Ms} {w0 w : World} {a : Act} (h : outR T m0 S sc rs o d0 = some d) (hd : d.ok) (hr : fn.results = rs.toArray) (hS : SI N ds S s w a) (hst : StpK m0 s0 w0 s w) (hb : ∀ h, m0 ≤ h → s0.ρ h = .unborn) :
    d0.ok ∧ ∃ v H' A' s1 g, o = .ret v H' A' ∧ (results fn a.tmps).run P w = .ok g w ∧ Wd s1 w ∧ Stp s0 w0 s1 w ∧ Is s1 H' A' ∧ V s1 v g := by
  unfold outR at h
  split at h
  · rename_i S3 sc3 d3 hadj
    split at h
    · split at h
      · rename_i v H' A'
        split at h
        · rename_i vs hvs
          split at h
          · rename_i es hes
            cases h
            obtain ⟨q1, q2⟩ := Dt.app_ok hd
            obtain ⟨q2, q3⟩ := Dt.app_ok q2
            refine ⟨q1, ?_⟩
            obtain ⟨s', m1, hSI⟩ := adjs_ok (k0 := m0) hadj q2 hS
            obtain ⟨us, g1, g2⟩ := resV_ok (P := P) hSI hvs
            have hout : SI 1 [] ⟨[(0, packA vs)], S3.H, S3.A⟩ s' w { tmps := #[pack us], defers := [] } := by
              refine ⟨hSI.wd, hSI.is, fun t x hx => ?_, rfl, rfl⟩
              simp only [lk] at hx
              cases hb : Nat.beq 0 t
              · rw [hb] at hx; cases hx
              · rw [hb] at hx
                have := Nat.eq_of_beq_eq_true hb
                subst this
                cases hx
                exact pack_ok g2
            obtain ⟨s1, n1, n2⟩ := less_ok hes q3.2 hout (hst.trans m1)
            have hres : (results fn a.tmps).run P w = .ok (pack us) w := by
              rw [results_eq, hr]
              simp only [List.mapM_toArray, Sem.run_bind]
              rw [show ∀ (s : Sem (List Value)), (List.toArray <$> s : Sem (Array Value)) = s >>= fun l => pure l.toArray from fun s => rfl]
              simp only [Sem.run_bind, g1, Result.andThen_ok, Sem.run_pure]
              rcases us with _ | ⟨v, _ | ⟨u, vs⟩⟩ <;> simp [pack]
            have hv1 : V s1 v (pack us) := by
              have := n1.L 0 v (by simp [lk])
              simpa using this
            exact ⟨v, H', A', s1, pack us, rfl, hres, n1.wd, n2.full hb, n1.is, hv1⟩
          · cases h
        · cases h
      · cases h
    · cases h
  · cases h
def xRec (x : Ex) : Option AV := match x with
  | .normal => some (.v .nilIface)
  | .ret => some (.v .nilIface)
  | .pan v => some v
  | _ => none
def isEnd (x : Ex) : Bool := match x with
  | .normal => true
  | .ret => true
  | _ => false
def finD (T : List (TE P)) (N : Nat) (c : Code) (rs : List ResultVar) (g NG : Nat) (cG : Code) (args : List AV) (H : List AO) (A : List (List AV)) (sc : List It) (o : Out) : Option Dt := match exD T N H.length c ⟨argL 0 args, H, A⟩ sc with
  | some q => (match q.df with
    | none => bif isEnd q.r.x then outR T H.length q.r.S q.r.sc rs o q.r.d else none
    | some (g', vs) => bif Nat.beq g g' && Nat.ble vs.length NG then (match xRec q.r.x with
      | some x => (match exG T NG q.r.S.H.length x cG ⟨argL 0 vs, q.r.S.H, q.r.S.A⟩ q.r.sc with
        | some (r2, rc) => bif isEnd r2.x && rc then outR T H.length ⟨q.r.S.L, r2.S.H, r2.S.A⟩ r2.sc rs o (q.r.d.app r2.d) else none
        | none => none)
      | none => none) else none)
  | none => none
theorem argSI {N : Nat} {args : List AV} {gs : List Value} {H : List AO} {A : List (List AV)} {s : Ms} {w : World} (hW : Wd s w) (hI : Is s H A) (hA : L2 (V s) args gs) (hlen : args.length ≤ N) :
    SI N [] ⟨argL 0 args, H, A⟩ s w { tmps := gs.toArray ++ Array.replicate (N - gs.toArray.size) undef, defers := [] } := by
  refine ⟨hW, hI, fun t x hx => ?_, ?_, rfl⟩
  · obtain ⟨_, h2⟩ := argL_lk hx
    rw [Nat.sub_zero] at h2
    obtain ⟨g, hg, hv⟩ := hA.get h2
    have hlt := (List.getElem?_eq_some_iff.1 hg).1
    have : (gs.toArray ++ Array.replicate (N - gs.toArray.size) undef)[t]? = some g := by
      rw [Array.getElem?_append_left (by simpa using hlt)]; simpa using hg
    simp only [Array.getD_eq_getD_getElem?, this, Option.getD_some]
    exact hv
  · have := hA.1
    simp only [Array.size_append, List.size_toArray, Array.size_replicate]
    omega
theorem FI.runD {f g : Nat} (F : FI P f) (G : FI P g) (T : List (TE P)) (hmix : P.follows .mixedOrders = true) (sc : List It) {args : List AV} {H : List AO} {A : List (List AV)} {o : Out} (hl : Nat.ble args.length F.N = true) (hG : G.rs.isEmpty = true)
    (h : lhs (finD T F.N F.c F.rs g G.N G.c args H A sc o) = rhs (finD T F.N F.c F.rs g G.N G.c args H A sc o) sc) : Ev P f args H A o := by
  obtain ⟨d, h1, h2⟩ := one_eqn h
  refine ⟨F.hcf, fun s w gs hW hI hA => ?_⟩
  refine calls_of_wp_defers F.hf F.hb ?_
  rw [F.hN]
  have hS := argSI hW hI hA (Nat.le_of_ble_eq_true hl)
  unfold finD at h1
  split at h1
  · rename_i q hq
    split at h1
    · rename_i hdf
      have h9 := condE' h1
      clear h1
      obtain ⟨h3, h1⟩ := h9
      have hdok : q.r.d.ok := by
        unfold outR at h1
        split at h1
        · split at h1
          · split at h1
            · split at h1
              · split at h1
                · cases h1; exact (Dt.app_ok h2).1
                · cases h1
              · cases h1
            · cases h1
          · cases h1
        · cases h1
      refine wp_mono (exD_ok hmix hq hdok s w s w _ hS (StpK.refl H.length s w)) fun e a' w' hE => ?_
      rw [hdf] at hE
      obtain ⟨s', m1, m2⟩ := End.at_ hE
      have key : SI F.N [] q.r.S s' w' a' → Leaves P F.fn a'.tmps (fun e w' => (∃ v, e = .returned v ∧ ∃ v1 H' A' s', o = .ret v1 H' A' ∧ Wd s' w' ∧ Stp s w s' w' ∧ Is s' H' A' ∧ V s' v1 v) ∨ (∃ c, e = .panicked c ∧ ∃ v H' A' s' g, o = .pan v H' A' ∧ c = [{ v := g, recovered := false }] ∧ Wd s' w' ∧ Stp s w s' w' ∧ Is s' H' A' ∧ V s' v g)) a'.defers .returning w' := by
        intro hSI
        obtain ⟨_, v, H', A', s1, gg, e1, e2, e3, e4, e5, e6⟩ := outR_ok h1 h2 F.hr hSI m1 hI.b
        rw [hSI.defers]
        exact ⟨gg, e2, .inl ⟨gg, rfl, v, H', A', s1, e1, e3, e4, e5, e6⟩⟩
      cases hxx : q.r.x with
      | normal => rw [hxx] at m2; cases e <;> first | exact False.elim m2 | exact key m2
      | ret => rw [hxx] at m2; cases e <;> first | exact False.elim m2 | exact key m2
      | exit i => rw [hxx] at h3; cases h3
      | pan v => rw [hxx] at h3; cases h3
    · rename_i g' vs hdf
      have h9 := condE' h1
      clear h1
      obtain ⟨h3, h1⟩ := h9
      simp only [Bool.and_eq_true] at h3
      have hgg := Nat.eq_of_beq_eq_true h3.1
      subst hgg
      split at h1
      · rename_i x hx
        split at h1
        · rename_i r2 rc hr2
          have h9 := condE' h1
          clear h1
          obtain ⟨h4, h1⟩ := h9
          simp only [Bool.and_eq_true] at h4
          obtain ⟨h4, rfl⟩ := h4
          have hdok : (q.r.d.app r2.d).ok := by
            unfold outR at h1
            split at h1
            · split at h1
              · split at h1
                · split at h1
                  · split at h1
                    · cases h1; exact (Dt.app_ok h2).1
                    · cases h1
                  · cases h1
                · cases h1
              · cases h1
            · cases h1
          obtain ⟨hd1, hd2⟩ := Dt.app_ok hdok
          refine wp_mono (exD_ok hmix hq hd1 s w s w _ hS (StpK.refl H.length s w)) fun e a' w' hE => ?_
          rw [hdf] at hE
          obtain ⟨cs, s', m1, m0, m2⟩ := hE
          have key : ∀ (u u' : FrameMode) (gx : Value), settle u' = .returning → u ≠ .run → Mode x u u' gx → V s' x gx → SI F.N [⟨.fn (.func g) cs.toArray, #[]⟩] q.r.S s' w' a' → Leaves P F.fn a'.tmps (fun e w' => (∃ v, e = .returned v ∧ ∃ v1 H' A' s', o = .ret v1 H' A' ∧ Wd s' w' ∧ Stp s w s' w' ∧ Is s' H' A' ∧ V s' v1 v) ∨ (∃ c, e = .panicked c ∧ ∃ v H' A' s' g, o = .pan v H' A' ∧ c = [{ v := g, recovered := false }] ∧ Wd s' w' ∧ Stp s w s' w' ∧ Is s' H' A' ∧ V s' v g)) a'.defers u w' := by
            intro u u' gx hset hur hM hVx hSI
            rw [hSI.defers]
            refine ⟨hur, .func g, cs.toArray, g, cs.toArray, rfl, by simp [invoke, G.hcf], ?_⟩
            refine callsD_of_wpS G.hf G.hb fun c₀ fs hm => ?_
            rw [G.hN]
            have hSG := argSI hSI.wd hSI.is m0 (Nat.le_of_ble_eq_true h3.2)
            refine wpS_mono (exG_ok hmix hM (s0 := s') (w0 := w') hSI.is.b hVx c₀ fs hm hr2 hd2 s' w' _ hSG (StpK.refl _ _ _)) fun e2 a2 fs2 w2 he2 => ?_
            obtain ⟨he2, rfl⟩ := he2
            obtain ⟨s2, n1, n2⟩ := End.at_ he2
            have nf := n1.full hSI.is.b
            have fin : SI G.N [] r2.S s2 w2 a2 → a2.defers = [] ∧ ∃ u2, ({ c₀ with mode := u' } :: fs : List Frame) = { c₀ with mode := u2 } :: fs ∧ ∃ v, (results G.fn a2.tmps).run P w2 = .ok v w2 ∧ Leaves P F.fn a'.tmps (fun e w' => (∃ v, e = .returned v ∧ ∃ v1 H' A' s', o = .ret v1 H' A' ∧ Wd s' w' ∧ Stp s w s' w' ∧ Is s' H' A' ∧ V s' v1 v) ∨ (∃ c, e = .panicked c ∧ ∃ v H' A' s' g, o = .pan v H' A' ∧ c = [{ v := g, recovered := false }] ∧ Wd s' w' ∧ Stp s w s' w' ∧ Is s' H' A' ∧ V s' v g)) [] (settle u2) w2 := by
              intro hS2
              have houter : SI F.N [⟨.fn (.func g) cs.toArray, #[]⟩] ⟨q.r.S.L, r2.S.H, r2.S.A⟩ s2 w2 a' := ⟨hS2.wd, hS2.is, fun t y hy => (hSI.L t y hy).mono nf.le, hSI.size, hSI.defers⟩
              obtain ⟨_, v, H', A', s1, gg, e1, e2, e3, e4, e5, e6⟩ := outR_ok h1 h2 F.hr houter (m1.trans (nf.K H.length)) hI.b
              have hrn : G.fn.results = #[] := by rw [G.hr, List.isEmpty_iff.1 hG]
              refine ⟨hS2.defers, u', rfl, .tuple #[], ?_, ?_⟩
              · rw [results_eq, hrn]; simp [Sem.run_bind]
              · rw [hset]
                exact ⟨gg, e2, .inl ⟨gg, rfl, v, H', A', s1, e1, e3, e4, e5, e6⟩⟩
            cases hxx : r2.x with
            | normal => rw [hxx] at n2; cases e2 <;> first | exact False.elim n2 | exact fin n2
            | ret => rw [hxx] at n2; cases e2 <;> first | exact False.elim n2 | exact fin n2
            | exit i => rw [hxx] at h4; cases h4
            | pan v => rw [hxx] at h4; cases h4
          cases hxx : q.r.x with
          | normal =>
            rw [hxx] at m2 hx
            cases hx
            cases e <;> first | exact False.elim m2 | exact key .returning .returning .nilIface rfl (by simp) mode_ret (.im (.v _)) m2
          | ret =>
            rw [hxx] at m2 hx
            cases hx
            cases e <;> first | exact False.elim m2 | exact key .returning .returning .nilIface rfl (by simp) mode_ret (.im (.v _)) m2
          | exit i => rw [hxx] at hx; cases hx
          | pan v =>
            rw [hxx] at m2 hx
            cases hx
            cases e <;> first | exact False.elim m2 | skip
            obtain ⟨gx, rfl, hv, hSI⟩ := m2
            exact key (.panicking [⟨gx, false, false⟩]) (.panicking [⟨gx, true, false⟩]) gx rfl (by simp) mode_pan hv hSI
        · cases h1
      · cases h1
  · cases h1
end
structure Arr (α : Type) (n : Nat) where
  l : List α
  h : l.length = n
  deriving DecidableEq
def Arr.r {α : Type} (n : Nat) (z : α) : Arr α n := ⟨List.replicate n z, List.length_replicate⟩
instance {α : Type} [Inhabited α] {n : Nat} : Inhabited (Arr α n) := ⟨Arr.r n default⟩
def Arr.g {α : Type} [Inhabited α] {n : Nat} (a : Arr α n) (i : Int) : α := gi a.l i
def Arr.s {α : Type} {n : Nat} (a : Arr α n) (i : Int) (y : α) : Arr α n := ⟨a.l.set i.toNat y, by rw [List.length_set]; exact a.h⟩
theorem Arr.at_ {α : Type} [Inhabited α] {n : Nat} (a : Arr α n) {i : Int} (h : 0 ≤ i ∧ i < (n : Int)) : a.l[i.toNat]? = some (a.g i) := gi_at (by rw [a.h]; exact h)
def sgl {α : Type} [Inhabited α] (e : α → List AV) {n : Nat} (a : Arr α n) (j r : Nat) {i : Int} (h : 0 ≤ i ∧ i < (n : Int)) : It :=
  ⟨.sgx j i.toNat r (e (a.g i)), (a.l.map e)[i.toNat]? = some (e (a.g i)), by rw [List.getElem?_map, a.at_ h]; rfl⟩
def sgs {α : Type} [Inhabited α] (e : α → List AV) {n : Nat} (a : Arr α n) (j r : Nat) {i : Int} (vs : List AV) (y : α) (h : 0 ≤ i ∧ i < (n : Int)) (hy : splice (e (a.g i)) r vs = e y) : It :=
  ⟨.sgu j i.toNat r (e (a.g i)) ((a.s i y).l.map e), (a.l.map e)[i.toNat]? = some (e (a.g i)) ∧ (a.l.map e).set i.toNat (splice (e (a.g i)) r vs) = (a.s i y).l.map e,
    ⟨by rw [List.getElem?_map, a.at_ h]; rfl, by rw [hy]; simp only [Arr.s, List.map_set]⟩⟩
def sgn (ss : List Sg) : It := ⟨.seg ss, segF ss = segF ss, rfl⟩

@[irreducible] def OLe {α : Type} (a b : Option α) : Prop := ∀ r, a = some r → b = some r
theorem OLe.rfl' {α : Type} {a : Option α} : OLe a a := by unfold OLe; exact fun _ h => h
theorem OLe.to {α : Type} {a b : Option α} (h : OLe a b) {r : α} (e : a = some r) : b = some r := by unfold OLe at h; exact h r e
theorem OLe.of {α : Type} {a b : Option α} (h : ∀ r, a = some r → b = some r) : OLe a b := by unfold OLe; exact h
theorem OLe.bind {α β : Type} {a b : Option α} {f g : α → Option β} (h : OLe a b) (k : ∀ x, OLe (f x) (g x)) : OLe (a.bind f) (b.bind g) := by
  refine OLe.of fun r hr => ?_
  cases ha : a with
  | none => rw [ha] at hr; cases hr
  | some x =>
    rw [ha, Option.bind_some] at hr
    rw [h.to ha, Option.bind_some]
    exact (k x).to hr
theorem OLe.ite {α : Type} {c : Prop} [Decidable c] {a b a' b' : Option α} (h : OLe a a') (k : OLe b b') : OLe (if c then a else b) (if c then a' else b') := by
  by_cases hc : c
  · rw [if_pos hc, if_pos hc]; exact h
  · rw [if_neg hc, if_neg hc]; exact k
@[irreducible] def lpK {S O : Type} (f : S → Option (S ⊕ O)) (s : S) : Option O := loopF f 4000 s
theorem loopF_le {S O : Type} {f g : S → Option (S ⊕ O)} (h : ∀ s, OLe (f s) (g s)) : ∀ (n : Nat) (s : S) (o : O), loopF f n s = some o → loop g s = some o
  | 0, s, o, e => by cases e
  | n + 1, s, o, e => by
    unfold loopF at e
    split at e
    · cases e
    · rename_i s' hf; exact (loop_in ((h s).to hf)).trans (loopF_le h n s' o e)
    · rename_i o' hf; cases e; exact loop_out ((h s).to hf)
theorem OLe.lp {S O : Type} {f g : S → Option (S ⊕ O)} {s : S} (h : ∀ s, OLe (f s) (g s)) : OLe (lpK f s) (B.loop g s) := OLe.of fun o e => by unfold lpK at e; exact loopF_le h 4000 s o e
def letK {α β : Type} (a : α) (f : α → β) : β := f a
theorem OLe.lt {α β : Type} {a : α} {f g : α → Option β} (h : ∀ x, OLe (f x) (g x)) : OLe (letK a f) (letC a g) := h a
end Go.Proofs.Ytbdbmklkgjbehaa.X
