/- Operations on slices. -/
import Derived.Test.YtallojficgiemaaSlice
set_option linter.unusedVariables false
set_option linter.unusedSimpArgs false
set_option linter.unusedSectionVars false
namespace Go.Proofs.Ytallojficgiemaa.B
open Go Go.RowKit

section
variable {P : Program} {ops : Array Oper} {Q : Exit → Act → World → Prop} {n : Nat} {L : Env} {σ : Nat → Value} {ds : List Deferred} {w : World} {rest : List Oper}
variable {d : Nat} {ty : TypeId} {pos : String} {af : Array Edge} {v v1 v2 v3 : Value} {x y z : Operand}
variable {M I : Nat → Prop} {w0 wr : World} {R : List Rsc} {α : Type} {E : Enc α}

theorem RdS.now {A : Option Addr} {c : Nat} {xs : List α} (r : RdS E I wr A c xs) (h : Hp M I w0 wr w R) : RdS E I w A c xs := r.move h.imm fun _ h => h
theorem run_indexAddr {t e : TypeId} {A : Addr} {m c : Nat} {i : Int} {k' : IntKind} {sz : Nat} (hu : UT P t (.slice e)) (hs : SZ P e sz) (h0 : 0 ≤ i) (h1 : i < m) :
    (Instr.indexAt t (.slice (some A) m c) (.int k' i)).run P w = .ok (.pointer (some (A.add (i.toNat * sz)))) w := by
  simp [Instr.indexAt, asIntOf, Sem.run_bind, hu w, h0, h1, hs w]
/-- An element of a slice that is read. -/
theorem s_idx {t e : TypeId} {F : Nat → Prop} {A : Option Addr} {c : Nat} {xs : List α} {i : Int} {k' : IntKind} (hx : (st n L σ ds).eval x = .slice A xs.length c) (hy : (st n L σ ds).eval y = .int k' i)
    (hu : UT P t (.slice e)) (hs : SZ P e E.sz) (hr : RdS E F w A c xs) (h0 : 0 ≤ i) (h1 : i < xs.length) (hn : Nat.blt d n = true)
    (k : ∀ a, CellsAt w a (E.enc (gi E xs i)) → wpList P ops Q rest (st n ((d, .pointer (some a)) :: L) σ ds) w) :
    wpList P ops Q (⟨some d, .indexAddr t x y, ty, pos, af, none⟩ :: rest) (st n L σ ds) w := by
  obtain ⟨a, rfl, hc⟩ := hr.elem (i := i.toNat) (by omega)
  refine sv rfl rfl hn ?_ (k _ hc)
  simp only [execOp, hx, hy]
  rw [Sem.run_bind, run_indexAddr hu hs h0 h1]
  rfl
/-- An element of a slice that is owned: its place. -/
theorem s_idxO {t e e' : TypeId} {A : Option Addr} {c : Nat} {xs : List α} {X : Rsc} {i : Int} {k' : IntKind} (hx : (st n L σ ds).eval x = .slice A xs.length c) (hy : (st n L σ ds).eval y = .int k' i)
    (hu : UT P t (.slice e)) (hs : SZ P e E.sz) (ho : Own E e' A c xs X) (h0 : 0 ≤ i) (h1 : i < xs.length) (hn : Nat.blt d n = true)
    (k : ∀ g, A = some ⟨g, 0, none⟩ → wpList P ops Q rest (st n ((d, .pointer (some ⟨g, i.toNat * E.sz, none⟩)) :: L) σ ds) w) :
    wpList P ops Q (⟨some d, .indexAddr t x y, ty, pos, af, none⟩ :: rest) (st n L σ ds) w := by
  rcases ho with ⟨rfl, rfl, rfl, rfl⟩ | ⟨g, cur, rfl, _⟩
  · simp at h1; omega
  · refine sv rfl rfl hn ?_ (k g rfl)
    simp only [execOp, hx, hy]
    rw [Sem.run_bind, run_indexAddr hu hs h0 h1, add_none, Nat.zero_add]
    rfl
theorem set_cells {xs : List α} {i off : Nat} {y : α} {vs cur : List Value} (hi : i < xs.length) (henc : (E.enc (gn E xs i)).take off ++ vs ++ (E.enc (gn E xs i)).drop (off + vs.length) = E.enc y) (ho : off + vs.length ≤ E.sz)
    (hc : cur.take (xs.length * E.sz) = cat E xs) : (cur.take (i * E.sz + off) ++ vs ++ cur.drop (i * E.sz + off + vs.length)).take (xs.length * E.sz) = cat E (xs.set i y) := by
  have hlen : (cat E xs).length = xs.length * E.sz := cat_len xs
  have hle : i * E.sz + E.sz ≤ xs.length * E.sz := by rw [← Nat.succ_mul]; exact Nat.mul_le_mul_right _ hi
  have hcl : xs.length * E.sz ≤ cur.length := by rw [← hc] at hlen; rw [List.length_take] at hlen; omega
  have hgn : gn E xs i = xs[i] := by simp [gn, hi]
  apply List.ext_getElem?
  intro m
  by_cases hm : m < xs.length * E.sz
  · have hdiv : m / E.sz < xs.length := by rw [Nat.div_lt_iff_lt_mul E.pos]; exact hm
    have hmod : m % E.sz < E.sz := Nat.mod_lt _ E.pos
    have hmm : m / E.sz * E.sz + m % E.sz = m := by rw [Nat.mul_comm]; exact Nat.div_add_mod m E.sz
    have hold : cur[m]? = (cat E xs)[m]? := by rw [← hc, List.getElem?_take, if_pos hm]
    rw [List.getElem?_take, if_pos hm]
    have h2 : (cat E (xs.set i y))[m]? = if m / E.sz = i then (E.enc y)[m % E.sz]? else (cat E xs)[m]? := by
      have hl : m / E.sz < (xs.set i y).length := by simpa using hdiv
      have hl2 : m % E.sz < (E.enc (xs.set i y)[m / E.sz]).length := by rw [E.len]; exact hmod
      have g1 := cat_get (E := E) (List.getElem?_eq_getElem hl) (List.getElem?_eq_getElem hl2)
      rw [hmm] at g1
      rw [g1]
      split
      · rename_i e; subst e; rw [List.getElem?_eq_getElem (by rw [E.len]; exact hmod)]; simp
      · rename_i hne
        have hl3 : m % E.sz < (E.enc xs[m / E.sz]).length := by rw [E.len]; exact hmod
        have g2 := cat_get (E := E) (List.getElem?_eq_getElem hdiv) (List.getElem?_eq_getElem hl3)
        rw [hmm] at g2
        rw [g2]
        have : (xs.set i y)[m / E.sz] = xs[m / E.sz] := by rw [List.getElem_set]; simp [Ne.symm hne]
        simp [this]
    rw [h2]
    by_cases hmi : m / E.sz = i
    · rw [if_pos hmi, ← henc]
      have hmeq : m = i * E.sz + m % E.sz := by rw [← hmi]; exact hmm.symm
      have hold2 : cur[m]? = (E.enc (gn E xs i))[m % E.sz]? := by
        have hl3 : m % E.sz < (E.enc xs[i]).length := by rw [E.len]; exact hmod
        have g2 := cat_get (E := E) (List.getElem?_eq_getElem hi) (List.getElem?_eq_getElem hl3)
        rw [hold, hgn, List.getElem?_eq_getElem hl3, ← g2, ← hmeq]
      generalize hq : m % E.sz = q at *
      have hel : (E.enc (gn E xs i)).length = E.sz := E.len _
      simp only [List.getElem?_append, List.length_append, List.length_take, List.getElem?_take, List.getElem?_drop]
      rw [Nat.min_eq_left (by omega : i * E.sz + off ≤ cur.length), Nat.min_eq_left (by omega : off ≤ (E.enc (gn E xs i)).length)]
      by_cases c1 : q < off
      · rw [if_pos (by omega), if_pos (by omega), if_pos (by omega), if_pos (by omega), if_pos (by omega), if_pos (by omega), hold2]
      · by_cases c2 : q < off + vs.length
        · rw [if_pos (by omega), if_neg (by omega), if_pos (by omega), if_neg (by omega)]
          congr 1; omega
        · rw [if_neg (by omega), if_neg (by omega)]
          rw [show i * E.sz + off + vs.length + (m - (i * E.sz + off + vs.length)) = m by omega, show off + vs.length + (q - (off + vs.length)) = q by omega, hold2]
    · rw [if_neg hmi, ← hold]
      have hout : m < i * E.sz ∨ i * E.sz + E.sz ≤ m := by
        rcases Nat.lt_or_ge (m / E.sz) i with h' | h'
        · left
          have := Nat.mul_le_mul_right E.sz (Nat.succ_le_of_lt h')
          rw [Nat.succ_mul] at this; omega
        · right
          have : i + 1 ≤ m / E.sz := by omega
          have := Nat.mul_le_mul_right E.sz this
          rw [Nat.succ_mul] at this; omega
      simp only [List.getElem?_append, List.length_append, List.length_take, List.getElem?_take, List.getElem?_drop]
      rw [Nat.min_eq_left (by omega : i * E.sz + off ≤ cur.length)]
      rcases hout with h' | h'
      · rw [if_pos (by omega), if_pos (by omega), if_pos (by omega)]
      · rw [if_neg (by omega)]
        congr 1; omega
  · rw [List.getElem?_take, if_neg hm, List.getElem?_eq_none (by rw [cat_len, List.length_set]; omega)]
/-- A store into an element of an owned slice. -/
theorem s_storeO {t e : TypeId} {A : Option Addr} {c g r off sz : Nat} {xs : List α} {X : Rsc} {i : Nat} {el : α} {vs : List Value} (h : Hp M I w0 wr w R) (hA : A = some ⟨g, 0, none⟩)
    (hx : (st n L σ ds).eval x = .pointer (some ⟨g, i * E.sz + off, none⟩)) (hy : (st n L σ ds).eval y = v)
    (hv : v.cells = vs.toArray) (hs : SZ P t sz) (hl : vs.length = sz) (h1 : vs.all one = true)
    (hi : R[r]? = some X) (ho : Own E e A c xs X) (hlt : i < xs.length) (hoff : Nat.ble (off + vs.length) E.sz = true)
    (henc : (E.enc (gn E xs i)).take off ++ vs ++ (E.enc (gn E xs i)).drop (off + vs.length) = E.enc el)
    (k : ∀ w' X', Hp M I w0 wr w' (R.set r X') → Own E e A c (xs.set i el) X' → wpList P ops Q rest (st n L σ ds) w') :
    wpList P ops Q (⟨none, .store t x y, ty, pos, af, none⟩ :: rest) (st n L σ ds) w := by
  have hoff := Nat.le_of_ble_eq_true hoff
  rcases ho with ⟨rfl, rfl, rfl, rfl⟩ | ⟨g', cur, hA', rfl, h2, h3, hb, h4, h5⟩
  · simp at hlt
  · rw [hA] at hA'
    injection hA' with hA'; injection hA' with hA'; subst hA'
    have hfit : i * E.sz + E.sz ≤ xs.length * E.sz := by rw [← Nat.succ_mul]; exact Nat.mul_le_mul_right _ hlt
    have hcap : xs.length * E.sz ≤ c * E.sz := Nat.mul_le_mul_right _ h2
    have hcs : cur.toList.length = c * E.sz := by simpa using h4
    obtain ⟨w', hr, a1, a2, a3, a4, a5, a6⟩ := run_storeCells (P := P) (b := g) (e := e) vs 0 (i * E.sz + off) cur.toList w (by simpa using h.get hi (j := 0) (b := g) (o := .cells cur e (0, 0)) rfl) (fun u hu => List.all_eq_true.1 h1 u hu) (by omega)
    rw [Nat.add_zero] at a6
    refine su rfl rfl ?_ (k w' _ (h.upd hi (j := 0) rfl a1 a2 a3 a4 a5 a6) ?_)
    · simp only [execOp, hx, hy]
      simp [Instr.storeAt, Instr.sureAddr, storeVar, Sem.run_bind, hs w, hv, hl, hr]
    · refine .inr ⟨g, _, hA, rfl, by simpa using h2, h3, by simpa using hb, ?_, ?_⟩
      · simp only [List.size_toArray, List.length_append, List.length_take, List.length_drop]; omega
      · simp only [List.length_set]
        exact set_cells hlt henc hoff h5
/-- append onto an owned slice. -/
theorem s_append {t e : TypeId} {ti : TypeInfo} {zv : Value} {by_ : Nat} {A A' : Option Addr} {c c' r : Nat} {xs ys : List α} {X : Rsc} {F : Nat → Prop} (h : Hp M I w0 wr w R)
    (hx : (st n L σ ds).eval x = .slice A xs.length c) (hy : (st n L σ ds).eval y = .slice A' ys.length c')
    (hu : P.underlying t = some (.slice e)) (hi : P.info? e = some ti) (hz : ti.zero = some zv) (hsz : ti.size = E.sz) (hby : ti.bytes = by_) (hzs : zv.cells.size = E.sz) (hb0 : Nat.blt 0 by_ = true)
    (hr : R[r]? = some X) (ho : Own E e A c xs X) (hs : RdS E F w A' c' ys) (hlim : (xs.length + ys.length) * by_ ≤ 140737488355328) (hn : Nat.blt d n = true)
    (k : ∀ A2 c2 w' X', Hp M I w0 wr w' (R.set r X') → Own E e A2 c2 (xs ++ ys) X' → wpList P ops Q rest (st n ((d, .slice A2 (xs ++ ys).length c2) :: L) σ ds) w') :
    wpList P ops Q (⟨some d, .call { callee := .builtin .append, args := #[x, y], argTypes := #[t, t] }, ty, pos, af, none⟩ :: rest) (st n L σ ds) w := by
  have hb0 := blt hb0
  have hlen : xs.length + ys.length ≤ 140737488355328 := Nat.le_trans (Nat.le_mul_of_pos_right _ hb0) hlim
  have hown := ho.row h hr
  have main : ∃ v' w', (Builtin.append_ #[t, t] ty #[.slice A xs.length c, .slice A' ys.length c']).run P w = .ok v' w' ∧ w'.ownsRow 0 e E.sz v' (xs.length + ys.length) (cat E xs ++ cat E ys) ∧
      w.grownBy w' (Value.slice A xs.length c).ownBlock ∧ (v'.ownBlock = (Value.slice A xs.length c).ownBlock ∨ v'.ownBlock = some w.heap.size) := by
    by_cases hne : ys = []
    · subst hne
      refine ⟨.slice A xs.length c, w, ?_, by simpa [cat] using hown, ⟨rfl, rfl, rfl, Nat.le_refl _, fun _ _ _ => rfl⟩, .inl rfl⟩
      have hle := ho.le
      have hfc : (Builtin.firstCells E.sz 0 (.slice A' 0 c')).run P w = .ok #[] w := by cases A' <;> simp [Builtin.firstCells, loadCells, loadCellsFrom]
      cases A with
      | none => simp [Builtin.append_, run_underlying hu, sizeOf, typeInfo, hi, Builtin.lenOf, hle, hsz, hfc, Sem.run_bind]
      | some a => simp [Builtin.append_, run_underlying hu, sizeOf, typeInfo, hi, Builtin.lenOf, hle, hsz, hfc, Sem.run_bind, storeCells]
    · obtain ⟨a, rfl, _, hc⟩ := hs.at_ hne
      obtain ⟨v', w', h1, h2, h3, _, h5⟩ := run_append_own_at (P := P) w 0 t ty e ti zv E.sz by_ hu hi hz hsz hby hzs E.pos (.slice A xs.length c) xs.length (cat E xs) hown a ys.length c' (cat E ys) (cat_len ys) hc
        (fun u hu => cat_one_mem hu) (by simp only [maxLen]; omega) hlim (Nat.zero_le _)
      exact ⟨v', w', h1, h2, h3, h5⟩
  obtain ⟨v', w', hrun, hown', hg, hat⟩ := main
  have hres : ∃ A2 c2 X', v' = .slice A2 (xs ++ ys).length c2 ∧ Own E e A2 c2 (xs ++ ys) X' ∧ (∀ p ∈ X', w'.heap[p.1]? = some p.2) ∧ (∀ p ∈ X', (∃ q ∈ X, q.1 = p.1) ∨ w.heap.size ≤ p.1) ∧ (X'.map (·.1)).Nodup := by
    rw [← cat_append] at hown'
    rcases hown'.2 with ⟨rfl, h0⟩ | ⟨g, cap, cur, rfl, _, hg1, h1, h2, h3, h4⟩
    · have hnil : xs ++ ys = [] := List.eq_nil_of_length_eq_zero (by rw [List.length_append]; exact h0)
      refine ⟨none, 0, [], by rw [hnil]; rfl, by rw [hnil]; exact Own.nil E e, by simp, by simp, by simp⟩
    · refine ⟨some ⟨g, 0, none⟩, cap, [(g, .cells cur e (0, 0))], by simp, .inr ⟨g, cur, rfl, rfl, by simpa using h1, h2, by rw [List.length_append]; exact hlen, h3, by simpa using h4⟩, by simp [hg1], ?_, by simp⟩
      intro p hp
      simp at hp; subst hp
      rcases hat with hat | hat
      · left
        rcases ho with ⟨rfl, rfl, rfl, rfl⟩ | ⟨g', cur', rfl, rfl, _⟩
        · simp [Value.ownBlock] at hat
        · simp [Value.ownBlock] at hat; subst hat; exact ⟨_, List.mem_singleton.2 rfl, rfl⟩
      · right; simp [Value.ownBlock] at hat; omega
  obtain ⟨A2, c2, X', rfl, hO, hc1, hc2, hc3⟩ := hres
  refine sv rfl rfl hn ?_ (k A2 c2 w' X' (h.swap hr hg ?_ hc1 hc2 hc3) hO)
  · simp only [execOp, resolve]
    rw [show (#[x, y] : Array Operand).map (st n L σ ds).eval = #[.slice A xs.length c, .slice A' ys.length c'] by simp [hx, hy]]
    simp only [Sem.run_bind, Sem.run_pure, Result.andThen_ok, invoke, builtin]
    rw [hrun]; rfl
  · intro k hk
    rcases ho with ⟨rfl, rfl, rfl, rfl⟩ | ⟨g', cur', rfl, rfl, _⟩
    · simp [Value.ownBlock] at hk
    · simp [Value.ownBlock] at hk; subst hk; exact ⟨_, List.mem_singleton.2 rfl, rfl⟩
/-- A nil slice is owned. -/
theorem Hp.nilRes (h : Hp M I w0 wr w R) : Hp M I w0 wr w (R ++ [[]]) := by
  have : (R ++ [[]]).flatten = R.flatten := by simp
  exact ⟨h.os, h.tape, h.output, h.le, h.old, h.imm, h.ilt, by rw [this]; exact h.own, by rw [this]; exact h.fresh, by rw [this]; exact h.nodup⟩
/-- A literal. -/
theorem s_buildSlice {t e : TypeId} {m : Nat} {ps : List (Nat × Operand)} {vs : List (Nat × Value)} {xs : List α} {zv : Value} (h : Hp M I w0 wr w R)
    (hx : EvP (st n L σ ds).eval ps vs) (hu : UT P t (.slice e)) (hs : SZ P e E.sz) (hz : ZR P e zv) (hm : xs.length = m) (h0 : Nat.beq m 0 = false) (hsmall : Nat.ble (m * E.sz) 16777216 = true)
    (hf : Instr.fill (fun i => some (i * E.sz, E.sz)) ((Array.range (m * E.sz)).map (zv.cells[· % zv.cells.size]!)) vs = some (cat E xs).toArray) (hn : Nat.blt d n = true)
    (k : ∀ A c w' X, Hp M I w0 wr w' (R ++ [X]) → Own E e A c xs X → wpList P ops Q rest (st n ((d, .slice A xs.length c) :: L) σ ds) w') :
    wpList P ops Q (⟨some d, .buildSlice t m ps.toArray, ty, pos, af, none⟩ :: rest) (st n L σ ds) w := by
  have hsmall := Nat.le_of_ble_eq_true hsmall
  have h0 : ¬ m = 0 := fun e => by rw [e] at h0; cases h0
  subst hm
  refine sv rfl rfl hn ?_ (k (some ⟨w.heap.size, 0, none⟩) xs.length _ _ (h.alloc (.cells (cat E xs).toArray e (0, 0))) (.inr ⟨_, _, rfl, rfl, Nat.le_refl _, ?_, ?_, ?_, ?_⟩))
  · simp only [execOp, List.map_toArray, hx.map]
    have h1 : ¬ (xs.length * E.sz > 2 ^ 24) := by omega
    have h2 : ¬ (xs.length * E.sz = 0) := by have := Nat.mul_pos (Nat.pos_of_ne_zero h0) E.pos; omega
    simp only [Instr.buildSlice, Sem.run_bind, hu w, hs w, Result.andThen_ok, if_neg h1, Sem.run_pure, if_neg h2, hz w, hf]
    simp [newRow, newObj, Sem.run, Sem.run_bind]
  · have : xs.length ≤ xs.length * E.sz := Nat.le_mul_of_pos_right _ E.pos
    simp only [maxLen]; omega
  · have : xs.length ≤ xs.length * E.sz := Nat.le_mul_of_pos_right _ E.pos
    omega
  · simp [cat_len]
  · simp [← cat_len (E := E) xs]
/-- An empty literal. -/
theorem s_buildSlice0 {t e : TypeId} (E : Enc α) (h : Hp M I w0 wr w R) (hu : UT P t (.slice e)) (hs : SZ P e E.sz) (hn : Nat.blt d n = true)
    (k : ∀ A c w' X, Hp M I w0 wr w' (R ++ [X]) → Own E e A c ([] : List α) X → wpList P ops Q rest (st n ((d, .slice A 0 c) :: L) σ ds) w') :
    wpList P ops Q (⟨some d, .buildSlice t 0 #[], ty, pos, af, none⟩ :: rest) (st n L σ ds) w := by
  refine sv rfl rfl hn ?_ (k (some ⟨w.heap.size, 0, none⟩) 0 _ _ (h.alloc (.cells #[] e (0, 0))) (.inr ⟨_, _, rfl, rfl, Nat.le_refl _, by simp [maxLen], by simp, by simp, by simp [cat]⟩))
  simp only [execOp, Instr.buildSlice, Sem.run_bind, hu w, hs w, Result.andThen_ok, Nat.zero_mul]
  have hr : Array.range 0 = #[] := by simp [Array.range]
  simp [Instr.fill, newRow, newObj, Sem.run, Sem.run_bind, hr]
end
end Go.Proofs.Ytallojficgiemaa.B
