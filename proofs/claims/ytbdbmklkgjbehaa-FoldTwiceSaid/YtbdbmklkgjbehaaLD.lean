/- LD: several texts in one. -/
import Derived.Test.YtbdbmklkgjbehaaLC
set_option linter.unusedVariables false
set_option linter.unusedSimpArgs false
set_option linter.unusedSectionVars false
namespace Go.Proofs.Ytbdbmklkgjbehaa.X
open Go Go.RowKit Go.Proofs.Ytbdbmklkgjbehaa.B

section
variable {P : Program} {L : Fr} {H : List AO} {A : List (List AV)} {T : List (TE P)} {it : Option IK}
variable {dst : Option Tmp} {ty : TypeId} {pos : String} {af : Array Edge} {gd : Option (Nat × Bool)} {x y z : Operand} {q : Got}
def srcA (H : List AO) (k : Nat) : AV → Option (Nat × List (List AV) × List Nat × List (Nat × Nat))
  | .ro _ k' m ys => bif Nat.beq k' k then some (m, ys, [], []) else none
  | .sl _ h n off len => (match hget H h with
    | .arr _ _ k' n' xs => bif Nat.beq k' k then some (len, (xs.drop off).take len, [h], [(n, n')]) else none
    | _ => none)
  | .v (.slice none 0 0) => some (0, [], [], [])
  | _ => none
theorem one_eq (u : Value) : u.oneCell' = one u := by cases u <;> rfl
theorem ro_ones {gs : List Value} {off m k : Nat} (h : ∀ (j : Nat) (g : Value), j < m → gs[off + j]? = some g → one g = true) (hk : k ≤ m) : ∀ u ∈ (gs.drop off).take k, one u = true := by
  intro u hu
  obtain ⟨j, hj⟩ := List.getElem?_of_mem hu
  rw [List.getElem?_take] at hj
  split at hj
  · rw [List.getElem?_drop] at hj; exact h j u (by omega) hj
  · cases hj
theorem srcA_ok {s : Ms} {w : World} {k m : Nat} {v : AV} {g : Value} {ys : List (List AV)} {fp : List Nat} {eq : List (Nat × Nat)} (h : srcA H k v = some (m, ys, fp, eq)) (hW : Wd s w) (hv : V s v g) (hf : ∀ h ∈ fp, s.C h = hget H h) (he : ∀ e ∈ eq, e.1 = e.2) :
    ∃ A c, g = .slice A m c ∧ (m ≠ 0 → ∃ a gs, A = some a ∧ RowR s.J k ys gs ∧ ys.length = m ∧ (∀ j u, gs[j]? = some u → w.cell? (a.add j) = some u) ∧ Ones gs) ∧ (m = 0 → ys = []) := by
  unfold srcA at h
  split at h
  · rename_i c k' n xs
    obtain ⟨h1, h⟩ := condE' h
    cases h
    have hk := Nat.eq_of_beq_eq_true h1
    subst hk
    have hV := hv.roE
    cases hV with
    | nil hc => exact ⟨_, _, rfl, fun h => absurd rfl h, fun _ => rfl⟩
    | @ro c n xs b off k cap gs hn hj hb hc hl hk ho0 hh =>
      refine ⟨_, cap, rfl, fun h0 => ?_, fun h0 => by rw [h0] at hn; exact List.eq_nil_of_length_eq_zero hn⟩
      have hb' := hb h0
      obtain ⟨e, fr, more, ho⟩ := hW.imm _ _ hj
      refine ⟨_, (gs.drop off).take (ys.length * k'), rfl, RowR.of (by rw [hn]; simp; omega) hk (fun i x j y g a b c => ?_), hn, cellsAt_take (cellsAt_pre ho off) _, fun u hu => ro_ones ho0 (by rw [hn]; exact Nat.le_refl _) u hu⟩
      rw [List.getElem?_drop] at c
      exact hh i x j y g a b (by rw [← c]; congr 1; omega)
  · rename_i c hh n off len
    split at h
    · rename_i z te k' n' xs hc
      obtain ⟨h1, h⟩ := condE' h
      cases h
      have hk := Nat.eq_of_beq_eq_true h1
      subst hk
      have hn := he _ (List.mem_singleton.2 rfl)
      simp only at hn; subst hn
      have hC := (hf hh (by simp)).trans hc
      rcases hv.slE' hC with ⟨b, sz, cap, o, hr, k1, k2, k3, k4, k5, rfl⟩ | ⟨_, _, _, _, rfl, rfl⟩
      case inr => exact ⟨none, 0, rfl, fun h => absurd rfl h, fun _ => by simp⟩
      refine ⟨_, cap, rfl, fun h0 => ?_, fun h0 => by rw [h0]; simp⟩
      obtain ⟨ob, ho, hO⟩ := hW.obj _ _ _ hr
      rw [hC] at hO
      obtain ⟨gs, cap', rfl, hon, hsz, hcap, hmax, hnc, hk0, hlen, hk, hVV⟩ := hO
      have ho' : o = off * k' := by
        rcases k5 with k5 | ⟨_, k5⟩
        · exact k5
        · exact absurd k5 h0
      subst ho'
      have e1 : (off + m) * k' ≤ n * k' := Nat.mul_le_mul_right k' (by omega)
      have e2 : (off + m) * k' = off * k' + m * k' := Nat.add_mul off m k'
      have e3 : n * k' ≤ cap' * k' := Nat.mul_le_mul_right k' hnc
      have hyl : ((xs.drop off).take m).length = m := by simp; omega
      refine ⟨_, (gs.drop (off * k')).take (((xs.drop off).take m).length * k'), rfl, RowR.of (by rw [hyl]; simp; omega) ?_ ?_, hyl, cellsAt_take (cellsAt_drop ho _) _, ?_⟩
      · intro i x hi
        rw [List.getElem?_take] at hi
        split at hi
        · rw [List.getElem?_drop] at hi; exact hk _ _ hi
        · cases hi
      · intro i x j y g hi hj hg
        rw [List.getElem?_take] at hi
        split at hi
        · rw [List.getElem?_drop] at hi
          rw [List.getElem?_drop] at hg
          have e4 : (off + i) * k' = off * k' + i * k' := Nat.add_mul off i k'
          exact hVV _ _ j y g hi hj (by rw [← hg]; congr 1; omega)
        · cases hi
      · intro u hu
        rw [hyl] at hu
        obtain ⟨j, hj⟩ := List.getElem?_of_mem hu
        rw [List.getElem?_take] at hj
        split at hj
        · rw [List.getElem?_drop] at hj
          exact hon u (List.mem_of_getElem? (i := off * k' + j) (by rw [List.getElem?_take, if_pos (by omega)]; exact hj))
        · cases hj
    · cases h
  · cases h
    exact ⟨none, 0, hv.vE, fun h => absurd rfl h, fun _ => rfl⟩
  · cases h
def dstA (H : List AO) (k el : Nat) : AV → Option (Nat × Nat × List (List AV) × Bool × Bool × List Nat × List (Nat × Nat))
  | .v (.slice none 0 0) => some (H.length, 0, [], true, false, [], [])
  | .ro true k' n xs => bif Nat.beq k' k then some (H.length, n, xs, true, false, [], []) else none
  | .sl c h n off len => (match hget H h with
    | .arr z e' k' n' xs => bif Nat.beq k' k && Nat.beq e' el then some (h, n, xs, false, z, [h], [(n, n'), (c, 0), (off, 0), (len, n)]) else none
    | _ => none)
  | _ => none
def xApp (L : Fr) (H : List AO) (T : List (TE P)) (it : Option IK) (t : Nat) (x y : Operand) : Option Got := match tget T t with
  | some e => (match e.d with
    | .slice el => (match tget T el with
      | some e2 => (match rdx L x with
        | some vx => (match rdx L y with
          | some vy => (match dstA H e2.sz el vx with
            | some (h, n, xs, fresh, z, fp, eq) => (match srcA H e2.sz vy with
              | some (m, ys, fp', eq') => (match it with
                | some (.list n' zs) => bif !(Nat.beq e2.sz 0) && Nat.blt 0 e2.by_ && Nat.beq e2.zv.cells.size e2.sz then
                    some (⟨.sl 0 h n' 0 n', [(h, .arr z el e2.sz n' zs)], none, fp ++ fp', false⟩, some ((n + m) * e2.by_ ≤ 140737488355328 ∧ n' = n + m ∧ xs ++ ys = zs ∧ (fresh = true → 0 < m) ∧ xs.length = n), eq ++ eq') else none
                | _ => none)
              | none => none)
            | none => none)
          | none => none)
        | none => none)
      | none => none)
    | _ => none)
  | none => none
theorem e_append {t : TypeId} {a : Act} {w w' : World} {v : Value} (hr : (Builtin.append_ #[t, t] ty #[a.eval x, a.eval y]).run P w = .ok v w') :
    (execOp a.eval ⟨dst, .call { callee := .builtin .append, args := #[x, y], argTypes := #[t, t] }, ty, pos, af, gd⟩).run P w = .ok (.value v) w' := by
  simp only [execOp, resolve]
  rw [show (#[x, y] : Array Operand).map a.eval = #[a.eval x, a.eval y] by simp]
  simp only [Sem.run_bind, Sem.run_pure, Result.andThen_ok, invoke, builtin]
  rw [hr]; rfl
theorem appended {s : Ms} {w w' : World} (hW : Wd s w) {h n m el k n' : Nat} {z : Bool} {xs ys zs : List (List AV)} {cx news : List Value} {v' : Value} {row : Option Nat}
    (hrow : w'.ownsRow 0 el k v' (n + m) (cx ++ news)) (hg : w.grownBy w' row) (hv' : v'.ownBlock = row ∨ v'.ownBlock = some w.heap.size) (hr : ∀ b, row = some b → ∃ sz, s.ρ h = .at b sz)
    (h0 : 0 < m) (hk0 : 0 < k) (hx : RowR s.J k xs cx) (hy : RowR s.J k ys news) (hxl : xs.length = n) (hyl : ys.length = m) (ho1 : Ones cx) (ho2 : Ones news) (hn' : n' = n + m) (hz : xs ++ ys = zs)
    (hC : s.ρ h ≠ .unborn → ∃ z e' k' n0 xs0, s.C h = .arr z e' k' n0 xs0 ∧ n0 = n) :
    ∃ r, (Wd (s.put h r (.arr z el k n' zs)) w' ∧ Stp s w (s.put h r (.arr z el k n' zs)) w') ∧ V (s.put h r (.arr z el k n' zs)) (.sl 0 h n' 0 n') v' := by
  subst hn' hz
  rcases hrow.2 with ⟨_, e⟩ | ⟨g, cap, cur, rfl, _, hg1, h1, h2, h3, h4⟩
  · omega
  refine ⟨.at g (cap * k), Wd.put hW (fun e => ?_) hg.os hg.tape hg.output hg.size (fun b hb hne => ?_) (fun b sz e => ?_) (fun b sz e => ?_), ?_⟩
  · obtain ⟨z, e', k', n0, xs0, hc, rfl⟩ := hC e
    exact .grew hc put_C (by omega) (by rw [put_ρ]; simp) (by rw [put_ρ]; simp)
  · refine hg.block b hb fun e => ?_
    obtain ⟨sz, hs⟩ := hr b e.symm
    exact hne _ hs
  · injection e with e1 e2; subst e1
    rcases hv' with e | e
    · exact .inl (hr _ e.symm)
    · simp only [Value.ownBlock, Option.some.injEq] at e
      exact .inr (by omega)
  · injection e with e1 e2; subst e1 e2
    have hx' : RowR (s.put h (.at g (cap * k)) (.arr z el k (n + m) (xs ++ ys))).J k (xs ++ ys) (cx ++ news) := hx.app hy
    have hl := hx'.1
    have hnm : (xs ++ ys).length = n + m := by simp [hxl, hyl]
    refine ⟨_, hg1, cur.toList, cap, by simp, ?_, by simp [h3], rfl, h2, h1, hk0, hnm, hx'.2.1, ?_⟩
    · rw [h4]
      intro u hu
      rcases List.mem_append.1 hu with hu | hu
      · exact ho1 u hu
      · exact ho2 u hu
    · exact hx'.take (by rw [hl, hnm]; exact h4)
  · have := V.sl (s := s.put h (.at g (cap * k)) (.arr z el k (n + m) (xs ++ ys))) (c := 0) (h := h) (n := n + m) (off := 0) (len := n + m) (cap := cap) (o := 0) put_ρ put_C (by omega) h1 (fun _ => by simp) (fun e => by cases e) (.inl (by simp))
    exact this
theorem grownRow {w : World} {el k n m old : Nat} {z : Array Value} {olds news : List Value} (hzs : z.size = k) (h1 : olds.length = n * k) (h2 : news.length = m * k) (h63 : n + m ≤ maxLen) :
    (w.drew.alloc (.cells (olds.toArray ++ news.toArray ++ Builtin.zeroCells z (grownCap w (n + m) old el - (n + m))) el)).ownsRow 0 el k (.slice (some ⟨w.heap.size, 0, none⟩) (n + m) (grownCap w (n + m) old el)) (n + m) (olds ++ news) ∧
    w.grownBy (w.drew.alloc (.cells (olds.toArray ++ news.toArray ++ Builtin.zeroCells z (grownCap w (n + m) old el - (n + m))) el)) none := by
  have hge := grownCap_ge w (n + m) old el
  have hcm : grownCap w (n + m) old el ≤ maxLen := grownCap_le_maxLen w (n + m) old el h63
  have hlen : (olds ++ news).length = (n + m) * k := by rw [List.length_append, h1, h2, Nat.add_mul]
  refine ⟨⟨hlen, .inr ⟨w.heap.size, _, _, rfl, Nat.zero_le _, heap_alloc_new w.drew _, hge, hcm, ?_, ?_⟩⟩, ⟨rfl, rfl, rfl, by simp, fun k hk _ => heap_alloc_old w.drew _ k hk⟩⟩
  · simp only [Array.size_append, List.size_toArray, size_zeroCells, hzs, h1, h2, ← Nat.add_mul]
    congr 1
    omega
  · simp only [Array.toList_append, List.append_assoc]
    rw [← List.append_assoc, ← hlen]
    exact List.take_left
theorem xApp_ok {t : Nat} (h : xApp L H T it t x y = some q) (hq : okg q) : Sim P ⟨dst, .call { callee := .builtin .append, args := #[x, y], argTypes := #[t, t] }, ty, pos, af, gd⟩ L H A q.1 := by
  unfold xApp at h
  split at h
  · rename_i e he
    split at h
    · rename_i el hd
      have hu := tget_u he
      rw [hd] at hu
      split at h
      · rename_i e2 he2
        split at h
        · rename_i vx hvx
          split at h
          · rename_i vy hvy
            split at h
            · rename_i hh n xs fresh z fp eq hdst
              split at h
              · rename_i m ys fp' eq' hsrc
                split at h
                · rename_i n' zs
                  obtain ⟨h1, h⟩ := condE' h
                  simp only [Bool.and_eq_true] at h1
                  cases h
                  obtain ⟨hlim, hn', hz, hfr, hxn⟩ := hq.1 _ rfl
                  obtain ⟨h1, hzb⟩ := h1
                  have hk0 : 0 < e2.sz := by
                    rcases Nat.eq_zero_or_pos e2.sz with e | e
                    · rw [e] at h1; simp at h1
                    · exact e
                  have hby := blt h1.2
                  have hmx : x ∈ (Op.call { callee := .builtin .append, args := #[x, y], argTypes := #[t, t] }).operands.toList := by simp [Op.operands, Call.operands]
                  have hmy : y ∈ (Op.call { callee := .builtin .append, args := #[x, y], argTypes := #[t, t] }).operands.toList := by simp [Op.operands, Call.operands]
                  have hut : P.underlying t = some (.slice el) := by
                    have := hu default
                    cases hp : P.underlying t with
                    | none => simp [underlying, program, Sem.run_bind, Sem.run, hp, stuck] at this
                    | some d => simp [underlying, program, Sem.run_bind, Sem.run, hp] at this; rw [this]
                  obtain ⟨ti, hi, hb, hs, hzv⟩ := tget_i he2
                  refine Sim.run fun s w a hp => ?_
                  have hVx := hp.get hmx hvx
                  have hVy := hp.get hmy hvy
                  obtain ⟨Ay, cy, egy, hy1, hy0⟩ := srcA_ok hsrc hp.wd hVy (fun h hh => hp.fp h (by simp [hh])) (fun e hh => hq.2 e (by simp [hh]))
                  have heq : ∀ e ∈ eq, e.1 = e.2 := fun e hh => hq.2 e (by simp [hh])
                  have hlen : n + m ≤ 140737488355328 := Nat.le_trans (Nat.le_mul_of_pos_right _ hby) hlim
                  have hzs : e2.zv.cells.size = e2.sz := Nat.eq_of_beq_eq_true hzb
                  -- what there is
                  have main : ∀ (v : Value) (cx : List Value), a.eval x = v → w.ownsRow 0 el e2.sz v n cx → xs.length = n → RowR s.J e2.sz xs cx → Ones cx → (∀ b, v.ownBlock = some b → ∃ sz, s.ρ hh = .at b sz) →
                      (s.ρ hh ≠ .unborn → ∃ z e' k' n0 xs0, s.C hh = .arr z e' k' n0 xs0 ∧ n0 = n) → 0 < m →
                      ∃ s' w' g, (execOp a.eval ⟨dst, .call { callee := .builtin .append, args := #[x, y], argTypes := #[t, t] }, ty, pos, af, gd⟩).run P w = .ok (.value g) w' ∧ Post s w ⟨.sl 0 hh n' 0 n', [(hh, .arr z el e2.sz n' zs)], none, fp ++ fp', false⟩ s' w' g := by
                    intro v cx ev hrow hxl hx ho hob hC h0
                    obtain ⟨ay, news, rfl, hny, hyl, hcell, hon⟩ := hy1 (by omega)
                    obtain ⟨v', w', hrun, hrow', hg, _, hat⟩ := run_append_own_at (P := P) w 0 t ty el ti e2.zv e2.sz e2.by_ hut hi hzv hs hb hzs hk0 v n cx hrow ay m cy news (by rw [hny.1, hyl]) hcell
                      (fun u hu => by rw [one_eq]; exact hon u hu) (by simp only [maxLen]; omega) hlim (Nat.zero_le _)
                    obtain ⟨r, hres, hv⟩ := appended hp.wd hrow' hg hat hob h0 hk0 hx hny hxl hyl ho hon hn' hz hC
                    exact ⟨_, w', v', e_append (by rw [ev, egy]; exact hrun), Post.put rfl hres hv⟩
                  have hup := hp.up _ (List.mem_singleton.2 rfl)
                  unfold dstA at hdst
                  split at hdst
                  · cases hdst
                    refine main _ [] hVx.vE ⟨by simp, .inl ⟨rfl, rfl⟩⟩ rfl RowR.nil (fun u hu => by simp at hu) (fun b hb => by simp [Value.ownBlock] at hb) (fun e => absurd (hup.2 (Nat.le_refl _)) e) (hfr rfl)
                  · rename_i k' n0 xs0
                    obtain ⟨h2, hdst⟩ := condE' hdst
                    cases hdst
                    have hk := Nat.eq_of_beq_eq_true h2
                    subst hk
                    have hV := hVx.roE
                    generalize hgx : a.eval x = gx at hV
                    have hun := hup.2 (Nat.le_refl _)
                    have h0 := hfr rfl
                    cases hV with
                    | @nil _ _ cap A0 hc =>
                      have hcap := hc rfl
                      subst hcap
                      cases A0 with
                      | none => exact main _ [] hgx ⟨by simp, .inl ⟨rfl, rfl⟩⟩ rfl RowR.nil (fun u hu => by simp at hu) (fun b hb => by simp [Value.ownBlock] at hb) (fun e => absurd hun e) h0
                      | some a0 =>
                        obtain ⟨ay, news, rfl, hny, hyl, hcell, hon2⟩ := hy1 (by omega)
                        have hrun := run_append_grow (P := P) (w := w) t ty el ti e2.zv hut hi hzv a0 0 0 [] (by simp) (fun j v h => by simp at h) ay m cy news (by rw [hny.1, hyl, hs]) hcell (by omega) (by omega)
                          (by rw [hb]; have h5 := nextslicecap_le (need := 0 + m) (old := 0) (by omega); have h6 := Nat.mul_le_mul_right e2.by_ h5; rw [Nat.mul_assoc] at h6; omega)
                        have hg := grownRow (w := w) (el := el) (z := e2.zv.cells) (old := 0) hzs (by simp : ([] : List Value).length = 0 * e2.sz) (by rw [hny.1, hyl] : news.length = m * e2.sz) (by simp only [maxLen]; omega)
                        obtain ⟨r, hres, hv⟩ := appended (h := H.length) hp.wd hg.1 hg.2 (.inr rfl) (fun b e => by cases e) h0 hk0 RowR.nil hny rfl hyl (fun u hu => by simp at hu) hon2 hn' hz (fun e => absurd hun e)
                        exact ⟨_, _, _, e_append (by rw [hgx, egy]; exact hrun), Post.put rfl hres hv⟩
                    | @ro c n xs b off k cap gs hn hj hb' hc hl hk ho0 hh =>
                      have hcap := hc rfl
                      subst hcap
                      obtain ⟨te, fr, more, ho⟩ := hp.wd.imm _ _ hj
                      by_cases hn0 : cap = 0
                      · subst hn0
                        have hxn := List.eq_nil_of_length_eq_zero hn
                        subst hxn
                        obtain ⟨ay, news, rfl, hny, hyl, hcell, hon2⟩ := hy1 (by omega)
                        have hrun := run_append_grow (P := P) (w := w) t ty el ti e2.zv hut hi hzv ⟨b, off, none⟩ 0 0 [] (by simp) (fun j v h => by simp at h) ay m cy news (by rw [hny.1, hyl, hs]) hcell (by omega) (by omega)
                          (by rw [hb]; have h5 := nextslicecap_le (need := 0 + m) (old := 0) (by omega); have h6 := Nat.mul_le_mul_right e2.by_ h5; rw [Nat.mul_assoc] at h6; omega)
                        have hg := grownRow (w := w) (el := el) (z := e2.zv.cells) (old := 0) hzs (by simp : ([] : List Value).length = 0 * e2.sz) (by rw [hny.1, hyl] : news.length = m * e2.sz) (by simp only [maxLen]; omega)
                        obtain ⟨r, hres, hv⟩ := appended (h := H.length) hp.wd hg.1 hg.2 (.inr rfl) (fun b e => by cases e) h0 hk0 RowR.nil hny rfl hyl (fun u hu => by simp at hu) hon2 hn' hz (fun e => absurd hun e)
                        exact ⟨_, _, _, e_append (by rw [hgx, egy]; exact hrun), Post.put rfl hres hv⟩
                      · have hb2 := hb' hn0
                        have hrow : RowR s.J e2.sz xs ((gs.drop off).take (xs.length * e2.sz)) := RowR.of (by rw [hn]; simp; omega) hk (fun i x j y g a b c => by
                          rw [List.getElem?_drop] at c
                          exact hh i x j y g a b (by rw [← c]; congr 1; omega))
                        obtain ⟨ay, news, rfl, hny, hyl, hcell, hon2⟩ := hy1 (by omega)
                        have hrun := run_append_grow (P := P) (w := w) t ty el ti e2.zv hut hi hzv ⟨b, off, none⟩ cap cap _ (by rw [hrow.1, hn, hs]) (cellsAt_take (cellsAt_pre ho off) _) ay m cy news (by rw [hny.1, hyl, hs]) hcell (by omega) (by omega)
                          (by rw [hb]; have h5 := nextslicecap_le (need := cap + m) (old := cap) (by omega); have h6 := Nat.mul_le_mul_right e2.by_ h5; rw [Nat.mul_assoc] at h6; omega)
                        have hg := grownRow (w := w) (el := el) (z := e2.zv.cells) (old := cap) hzs (by rw [hrow.1, hn] : ((gs.drop off).take (xs.length * e2.sz)).length = cap * e2.sz) (by rw [hny.1, hyl] : news.length = m * e2.sz) (by simp only [maxLen]; omega)
                        obtain ⟨r, hres, hv⟩ := appended (h := H.length) hp.wd hg.1 hg.2 (.inr rfl) (fun b e => by cases e) h0 hk0 hrow hny hn hyl (fun u hu => ro_ones ho0 (by rw [hn]; exact Nat.le_refl _) u hu) hon2 hn' hz (fun e => absurd hun e)
                        exact ⟨_, _, _, e_append (by rw [hgx, egy]; exact hrun), Post.put rfl hres hv⟩
                  · rename_i c h0 n0 off len
                    split at hdst
                    · rename_i z0 e' k' n'' xs0 hc
                      obtain ⟨h2, hdst⟩ := condE' hdst
                      simp only [Bool.and_eq_true] at h2
                      cases hdst
                      have hk := Nat.eq_of_beq_eq_true h2.1
                      have hel := Nat.eq_of_beq_eq_true h2.2
                      subst hk hel
                      have q1 := heq (n, n'') (by simp)
                      have q2 := heq (c, 0) (by simp)
                      have q3 := heq (off, 0) (by simp)
                      have q4 := heq (len, n) (by simp)
                      simp only at q1 q2 q3 q4
                      subst q1 q2 q3 q4
                      have hC := (hp.fp hh (by simp)).trans hc
                      rcases hVx.slE' hC with ⟨b, sz, cap, o, hr, k1, k2, k3, k4, k5, ev⟩ | ⟨rfl, hnl, _, _, rfl, ev⟩
                      case inr =>
                        have hxe := List.eq_nil_of_length_eq_zero hxn
                        subst hxe
                        by_cases h0 : m = 0
                        · have hyn := hy0 h0
                          subst h0 hyn
                          simp only [Nat.add_zero] at hn'
                          subst hn'
                          have hz' : [] = zs := by simpa using hz
                          subst hz'
                          have hrun : (Builtin.append_ #[t, t] ty #[.slice none 0 0, .slice Ay 0 cy]).run P w = .ok (.slice none 0 0) w := by
                            have hfc : (Builtin.firstCells e2.sz 0 (.slice Ay 0 cy)).run P w = .ok #[] w := by cases Ay <;> simp [Builtin.firstCells, loadCells, loadCellsFrom]
                            simp [Builtin.append_, run_underlying hut, tget_s he2 w, Builtin.lenOf, hfc, Sem.run_bind]
                          have hf : Fate s (s.put hh .nl (.arr true e' e2.sz 0 [])) hh := .same (by rw [put_ρ, hnl]) (by rw [put_C, hC]; exact Kin.rfl')
                          have hle : Le s (s.put hh .nl (.arr true e' e2.sz 0 [])) := Le.put (fun _ => hf)
                          exact ⟨_, w, _, e_append (by rw [ev, egy]; exact hrun), Post.put (r := .nl) rfl (Wd.put hp.wd (fun _ => hf) rfl rfl rfl (Nat.le_refl _) (fun _ _ _ => rfl) (fun b' sz' e => by cases e) (fun b' sz' e => by cases e) (fun _ => ⟨_, _, rfl⟩)) (by rw [← ev]; exact hVx.mono hle)⟩
                        · exact main _ [] ev ⟨by simp, .inl ⟨rfl, rfl⟩⟩ rfl RowR.nil (fun u hu => by simp at hu) (fun b hb => by simp [Value.ownBlock] at hb) (fun _ => ⟨_, _, _, _, _, hC, rfl⟩) (by omega)
                      have ho : o = 0 := by
                        rcases k5 with k5 | ⟨k5, _⟩
                        · simpa using k5
                        · cases k5
                      subst ho
                      obtain ⟨ob, hob, hO⟩ := hp.wd.obj _ _ _ hr
                      rw [hC] at hO
                      obtain ⟨gs, cap', rfl, hon, hsz, hcap, hmax, hnc, _, hxl, hk, hVV⟩ := hO
                      have hcc : cap' = cap := by
                        have e1 := k3 rfl
                        rw [Nat.zero_add, hcap] at e1
                        exact (Nat.eq_of_mul_eq_mul_right hk0 e1).symm
                      subst hcc
                      have e3 : len * e2.sz ≤ cap' * e2.sz := Nat.mul_le_mul_right e2.sz hnc
                      have hrow : w.ownsRow 0 e' e2.sz (.slice (some ⟨b, 0, none⟩) len cap') len (gs.take (len * e2.sz)) := ⟨by simp; omega, .inr ⟨b, cap', gs.toArray, rfl, Nat.zero_le _, hob, k2, hmax, by simp; omega, by simp⟩⟩
                      by_cases h0 : m = 0
                      · have hyn := hy0 h0
                        subst h0 hyn
                        simp only [Nat.add_zero] at hn'
                        subst hn'
                        have hz' : xs = zs := by simpa using hz
                        subst hz'
                        have hrun : (Builtin.append_ #[t, t] ty #[.slice (some ⟨b, 0, none⟩) n' cap', .slice Ay 0 cy]).run P w = .ok (.slice (some ⟨b, 0, none⟩) n' cap') w := by
                          have hfc : (Builtin.firstCells e2.sz 0 (.slice Ay 0 cy)).run P w = .ok #[] w := by cases Ay <;> simp [Builtin.firstCells, loadCells, loadCellsFrom]
                          have hss := tget_s he2
                          simp [Builtin.append_, run_underlying hut, tget_s he2 w, Builtin.lenOf, k2, hfc, Sem.run_bind, storeCells]
                        have hf : Fate s (s.put hh (.at b sz) (.arr z e' e2.sz n' xs)) hh := .same (by rw [put_ρ, hr]) (by rw [put_C, hC]; exact Kin.rfl')
                        have hle : Le s (s.put hh (.at b sz) (.arr z e' e2.sz n' xs)) := Le.put (fun _ => hf)
                        refine ⟨_, w, _, e_append (by rw [ev, egy]; exact hrun), Post.put (r := .at b sz) rfl (Wd.put hp.wd (fun _ => hf) rfl rfl rfl (Nat.le_refl _) (fun _ _ _ => rfl) (fun b' sz' e => ?_) (fun b' sz' e => ?_)) ?_⟩
                        · injection e with e1 e2; subst e1; exact .inl ⟨_, hr⟩
                        · injection e with e1 e2; subst e1 e2
                          exact ⟨_, hob, gs, cap', rfl, hon, hsz, hcap, hmax, hnc, hk0, hxl, hk, fun i x j y g a b c => (hVV i x j y g a b c).mono hle.J⟩
                        · rw [← ev]; exact hVx.mono hle
                      · exact main _ _ ev hrow hxl (RowR.of (by rw [hxl]; omega) hk hVV |> fun h => by rw [hxl] at h; exact h) hon (fun b' hb => by simp [Value.ownBlock] at hb; subst hb; exact ⟨_, hr⟩) (fun _ => ⟨_, _, _, _, _, hC, rfl⟩) (by omega)
                    · cases hdst
                  · cases hdst
                · cases h
              · cases h
            · cases h
          · cases h
        · cases h
      · cases h
    · cases h
  · cases h
end
end Go.Proofs.Ytbdbmklkgjbehaa.X
namespace Go.Proofs.Ytbdbmklkgjbehaa.X
open Go Go.RowKit Go.MapKept Go.Proofs.Ytbdbmklkgjbehaa.B

section
variable {P : Program} {L : Fr} {H : List AO} {A : List (List AV)} {T : List (TE P)} {it : Option IK}
variable {dst : Option Tmp} {ty : TypeId} {pos : String} {af : Array Edge} {gd : Option (Nat × Bool)} {x y z : Operand} {q : Got}
theorem under_of {t : TypeId} {d : TypeDesc} (hu : UT P t d) : P.underlying t = some d := by
  have := hu default
  cases hp : P.underlying t with
  | none => simp [underlying, program, Sem.run_bind, Sem.run, hp, stuck] at this
  | some d => simp [underlying, program, Sem.run_bind, Sem.run, hp] at this; rw [this]
theorem RowR.rep {s : Ms} {zc : List AV} {zs : List Value} {k : Nat} (h : L2 (VI s.J) zc zs) (hk : zc.length = k) : ∀ n, RowR s.J k (List.replicate n zc) (List.replicate n zs).flatten
  | 0 => RowR.nil
  | n + 1 => by
    rw [List.replicate_succ, List.replicate_succ, List.flatten_cons]
    exact RowR.cons h hk (RowR.rep h hk n)
def xMkS (L : Fr) (H : List AO) (T : List (TE P)) (it : Option IK) (t : Nat) (x y : Operand) : Option Got := match tget T t with
  | some e => (match e.d with
    | .slice el => (match tget T el with
      | some e2 => (match rdx L x with
        | some (.v (.int _ l)) => (match rdx L y with
          | some (.v (.int _ c)) => (match it with
            | some (.list n xs) => bif !(Nat.beq e2.sz 0) && Nat.blt 0 e2.by_ && Nat.beq e2.zv.cells.size e2.sz && onesA (zeroA e2.zv) then
                some (⟨.sl 0 H.length n 0 n, [(H.length, .arr false el e2.sz n xs)], none, [], false⟩, some (l = (n : Int) ∧ l ≤ c ∧ c * e2.by_ ≤ 140737488355328 ∧ List.replicate n (zeroA e2.zv) = xs), []) else none
            | _ => none)
          | _ => none)
        | _ => none)
      | none => none)
    | _ => none)
  | none => none
theorem xMkS_ok {t : Nat} (h : xMkS L H T it t x y = some q) (hq : okg q) : Sim P ⟨dst, .makeSlice t x y, ty, pos, af, gd⟩ L H A q.1 := by
  unfold xMkS at h
  split at h
  · rename_i e he
    split at h
    · rename_i el hd
      have hu := tget_u he
      rw [hd] at hu
      split at h
      · rename_i e2 he2
        split at h
        · rename_i kl l hx
          split at h
          · rename_i kc c hy
            split at h
            · rename_i n xs
              obtain ⟨h1, h⟩ := condE' h
              simp only [Bool.and_eq_true] at h1
              obtain ⟨⟨⟨hz, hby⟩, hzs⟩, hon⟩ := h1
              cases h
              obtain ⟨rfl, hlc, hlim, rfl⟩ := hq.1 _ rfl
              have hk0 : 0 < e2.sz := by
                rcases Nat.eq_zero_or_pos e2.sz with e | e
                · rw [e] at hz; simp at hz
                · exact e
              have hby := blt hby
              have hzs := Nat.eq_of_beq_eq_true hzs
              obtain ⟨ti, hi, hb, hs, hzv⟩ := tget_i he2
              have hcb : c ≤ c * (e2.by_ : Int) := by
                have h1 : (1 : Int) ≤ e2.by_ := by omega
                have := Int.mul_le_mul_of_nonneg_left h1 (show 0 ≤ c by omega)
                omega
              refine Sim.run fun s w a hp => ?_
              have ex := (hp.get (x := x) (by simp [Op.operands]) hx).vE
              have ey := (hp.get (x := y) (by simp [Op.operands]) hy).vE
              have hrun := run_make (P := P) w t el ti e2.zv (under_of hu) hi hzv kl kc (n : Int) c (by omega) hlc (by rw [hb, Int.mul_comm]; omega) (by omega)
              have hun := (hp.up _ (List.mem_singleton.2 rfl)).2 (Nat.le_refl _)
              have hzc : L2 (VI s.J) (zeroA e2.zv) e2.zv.cells.toList := cstL s.J _
              have hzl : (zeroA e2.zv).length = e2.sz := by rw [hzc.1]; simp [hzs]
              have hrow := RowR.rep (s := s) hzc hzl n
              have hcells : ∀ m, n ≤ m → ((madeCells e2.zv.cells (m * ti.size)).toList.take ((List.replicate n e2.zv.cells.toList).flatten.length)) = (List.replicate n e2.zv.cells.toList).flatten := by
                intro m hm
                have hfl : (List.replicate n e2.zv.cells.toList).flatten.length = n * e2.sz := by rw [hrow.1]; simp
                apply List.ext_getElem?
                intro j
                rw [hfl, List.getElem?_take]
                by_cases hj : j < n * e2.sz
                · rw [if_pos hj, cs_replicate (sz := e2.sz) (by simp [hzs]) hk0 n j hj]
                  have hm2 : n * e2.sz ≤ m * e2.sz := Nat.mul_le_mul_right _ hm
                  have hjm : j < m * ti.size := by rw [hs]; omega
                  have hmod : j % e2.sz < e2.zv.cells.size := by rw [hzs]; exact Nat.mod_lt _ hk0
                  simp [madeCells, hjm, hzs]
                  rw [getElem!_pos e2.zv.cells (j % e2.sz) hmod]
                  simp [hmod]
                · rw [if_neg hj, List.getElem?_eq_none (by rw [hfl]; omega)]
              have hcn : n ≤ c.toNat := by omega
              have hmade := hcells c.toNat hcn
              have hres := Wd.new (sz := (madeCells e2.zv.cells (c.toNat * ti.size)).toList.length) (o := .arr false el e2.sz n (List.replicate n (zeroA e2.zv))) (ob := .cells (madeCells e2.zv.cells (c.toNat * ti.size)) el (0, 0)) hp.wd hun (fun s' hle => by
                refine ⟨(madeCells e2.zv.cells (c.toNat * ti.size)).toList, c.toNat, by simp, ?_, rfl, by simp [size_madeCells, hs], by simp only [maxLen]; omega, hcn, hk0, by simp, hrow.2.1, fun i x j y g a b d => ?_⟩
                · have h1 : (List.replicate n e2.zv.cells.toList).flatten.length = n * e2.sz := by rw [hrow.1]; simp
                  rw [← h1, hmade]
                  exact hrow.ones (fun x hx => by rw [List.eq_of_mem_replicate hx]; exact hon) hk0
                · exact (hrow.take hmade i x j y g a b d).mono hle.J)
              refine ⟨_, _, .slice (some ⟨w.heap.size, 0, none⟩) (n : Int).toNat c.toNat, ?_, Post.put rfl hres ?_⟩
              · simp only [execOp, ex, ey]
                rw [Sem.run_bind, hrun, Result.andThen_ok]
                rfl
              · have := V.sl (s := s.put H.length (.at w.heap.size ((madeCells e2.zv.cells (c.toNat * ti.size)).toList.length)) (.arr false el e2.sz n (List.replicate n (zeroA e2.zv)))) (c := 0) (h := H.length) (n := n) (off := 0) (len := n) (cap := c.toNat) (o := 0) put_ρ put_C (by omega) hcn (fun _ => by simp [size_madeCells, hs]) (fun e => by cases e) (.inl (by simp))
                simpa using this
            · cases h
          · cases h
        · cases h
      · cases h
    · cases h
  · cases h
theorem EntR.idx {J : Imm} {kk : IntKind} {m : List (Int × AV)} {mv : List (Int × Value)} (hl : m.length = mv.length) (h : ∀ (i : Nat) (p : Int × AV) (u : Int × Value), m[i]? = some p → mv[i]? = some u → p.1 = u.1 ∧ VI J p.2 u.2) (k : Int) :
    (aidx m k = none ∧ aidx mv k = none) ∨ ∃ i a v, aidx m k = some (i, a) ∧ aidx mv k = some (i, v) ∧ VI J a v := by
  induction m generalizing mv with
  | nil =>
    cases mv with
    | nil => exact .inl ⟨rfl, rfl⟩
    | cons u r => simp at hl
  | cons p r ih =>
    cases mv with
    | nil => simp at hl
    | cons u t =>
      obtain ⟨h1, h2⟩ := h 0 p u rfl rfl
      by_cases hk : k = p.1
      · exact .inr ⟨0, p.2, u.2, by simp [aidx, hk], by simp [aidx, hk, h1], h2⟩
      · have hk' : ¬ k = u.1 := by rw [← h1]; exact hk
        rcases ih (mv := t) (by simpa using hl) (fun i p u a b => h (i + 1) p u (by simpa using a) (by simpa using b)) with ⟨e1, e2⟩ | ⟨i, a, v, e1, e2, e3⟩
        · exact .inl ⟨by simp [aidx, hk, e1], by simp [aidx, hk', e2]⟩
        · exact .inr ⟨i + 1, a, v, by simp [aidx, hk, e1], by simp [aidx, hk', e2], e3⟩
def xMkM (H : List AO) (T : List (TE P)) (t : Nat) : Option Got := match tget T t with
  | some e => (match e.d with
    | .map kt _ => (match tget T kt with
      | some e2 => (match e2.d with
        | .int kk => some (⟨.mp H.length, [(H.length, .mp kk [])], none, [], false⟩, none, [])
        | _ => none)
      | none => none)
    | _ => none)
  | none => none
theorem xMkM_ok {t : Nat} (h : xMkM H T t = some q) : Sim P ⟨dst, .makeMap t none, ty, pos, af, gd⟩ L H A q.1 := by
  unfold xMkM at h
  split at h
  · split at h
    · split at h
      · split at h
        · cases h
          refine Sim.run fun s w a hp => ?_
          have hun := (hp.up _ (List.mem_singleton.2 rfl)).2 (Nat.le_refl _)
          rename_i kk _
          have hres := Wd.new (sz := 0) (o := .mp kk []) (ob := .map #[] 0) hp.wd hun (fun s' hle => ⟨#[], 0, rfl, [], rfl, rfl, fun i p u a => by simp at a⟩)
          refine ⟨_, _, .map (some w.heap.size), ?_, Post.put rfl hres (.mp put_ρ put_C)⟩
          simp [execOp, Instr.makeMap, Sem.run_bind, newObj, Sem.run]
        · cases h
      · cases h
    · cases h
  · cases h
def xLook (L : Fr) (H : List AO) (T : List (TE P)) (it : Option IK) (t : Nat) (x y : Operand) (ok : Bool) : Option Got := match tget T t with
  | some e => (match e.d with
    | .map kt et => (match tget T kt with
      | some e2 => (match e2.d with
        | .int kk => (match tget T et with
          | some e3 => (match rdx L x with
            | some (.mp h) => (match rdx L y with
              | some (.v (.int k' key)) => (match hget H h with
                | .mp kk' m => bif sameK kk k' && sameK kk kk' then (match it with
                  | some (.val r) => (match ok with
                    | true => some (⟨.tup [r.getD (cst e3.zv), .v (.bool r.isSome)], [], none, [h], false⟩, some (aget m key = r), [])
                    | false => some (⟨r.getD (cst e3.zv), [], none, [h], false⟩, some (aget m key = r), []))
                  | some (.valD v b) => (match ok with
                    | true => some (⟨.tup [v, .v (.bool b)], [], none, [h], false⟩, some ((aget m key).getD (cst e3.zv) = v ∧ (aget m key).isSome = b), [])
                    | false => some (⟨v, [], none, [h], false⟩, some ((aget m key).getD (cst e3.zv) = v ∧ (aget m key).isSome = b), []))
                  | _ => none) else none
                | _ => none)
              | _ => none)
            | _ => none)
          | none => none)
        | _ => none)
      | none => none)
    | _ => none)
  | none => none
theorem e_look {t : TypeId} {a : Act} {w : World} {ok : Bool} {v : Value} (hr : (Instr.lookup t (a.eval x) (a.eval y) ok).run P w = .ok v w) : (execOp a.eval ⟨dst, .lookup t x y ok, ty, pos, af, gd⟩).run P w = .ok (.value v) w := by
  simp only [execOp, Sem.run_bind, hr, Result.andThen_ok]
  rfl
theorem xLook_ok {t : Nat} {ok : Bool} (h : xLook L H T it t x y ok = some q) (hq : okg q) : Sim P ⟨dst, .lookup t x y ok, ty, pos, af, gd⟩ L H A q.1 := by
  unfold xLook at h
  split at h
  · rename_i e he
    split at h
    · rename_i kt et hd
      have hu := tget_u he
      rw [hd] at hu
      split at h
      · rename_i e2 he2
        split at h
        · rename_i kk hd2
          have hu2 := tget_u he2
          rw [hd2] at hu2
          split at h
          · rename_i e3 he3
            split at h
            · rename_i hh hx
              split at h
              · rename_i k' key hy
                split at h
                · rename_i kk' m hc
                  have h0 := condE' h
                  clear h
                  obtain ⟨h1, h⟩ := h0
                  simp only [Bool.and_eq_true] at h1
                  have q1 := kn_inj h1.1
                  have q2 := kn_inj h1.2
                  subst q1 q2
                  have main : ∀ (r : Option AV), aget m key = r → ∀ (s : Ms) (w : World) (a : Act), Wd s w → s.C hh = hget H hh → V s (.mp hh) (a.eval x) → V s (.v (.int kk key)) (a.eval y) →
                      ∃ g, VI s.J (r.getD (cst e3.zv)) g ∧ ∀ ok, (Instr.lookup t (a.eval x) (a.eval y) ok).run P w = .ok (if ok then .tuple #[g, .bool r.isSome] else g) w := by
                    rintro r rfl s w a hW hC hvx hvy
                    rw [hvy.vE]
                    obtain ⟨b, sz, hr, ex⟩ := hvx.mpE (hC.trans hc)
                    rw [ex]
                    obtain ⟨o, ho, hO⟩ := hW.obj _ _ _ hr
                    rw [hC.trans hc] at hO
                    obtain ⟨es, c, rfl, mv, hE, hl, hVV⟩ := hO
                    have hl' := fun ok => run_lookup (P := P) (ev := id) (F := fun _ => True) (w := w) (A := some b) (m := mv) (key := key) hu (under_of hu2) (tget_z he3) (.inr ⟨b, es, c, rfl, trivial, ho, hE⟩) ok
                    rcases EntR.idx (kk := kk) hl hVV key with ⟨e1, e2'⟩ | ⟨i, av, v, e1, e2', e3'⟩
                    · refine ⟨e3.zv, ?_, fun ok => ?_⟩
                      · simp only [aget, e1, Option.map_none, Option.getD_none]; exact cst_ok _ _
                      · rw [hl' ok]; simp [aget, e1, e2']
                    · refine ⟨v, ?_, fun ok => ?_⟩
                      · simp only [aget, e1, Option.map_some, Option.getD_some]; exact e3'
                      · rw [hl' ok]; simp [aget, e1, e2']
                  split at h
                  · rename_i r
                    split at h
                    · cases h
                      refine Sim.pure fun s w a hp => ?_
                      obtain ⟨g, hg, hrun⟩ := main r (hq.1 _ rfl) s w a hp.wd (hp.fp hh (by simp)) (hp.get (x := x) (by simp [Op.operands]) hx) (hp.get (x := y) (by simp [Op.operands]) hy)
                      refine ⟨_, e_look (hrun true), ?_⟩
                      exact .tup (cs := [_, _]) (gs := [g, .bool r.isSome]) rfl (L2.cons (.im hg) (L2.cons (.im (.v _)) L2.nil)).2
                    · cases h
                      refine Sim.pure fun s w a hp => ?_
                      obtain ⟨g, hg, hrun⟩ := main r (hq.1 _ rfl) s w a hp.wd (hp.fp hh (by simp)) (hp.get (x := x) (by simp [Op.operands]) hx) (hp.get (x := y) (by simp [Op.operands]) hy)
                      exact ⟨_, e_look (hrun false), .im hg⟩
                  · rename_i v b
                    split at h
                    · cases h
                      refine Sim.pure fun s w a hp => ?_
                      obtain ⟨e1, e2⟩ := hq.1 _ rfl
                      obtain ⟨g, hg, hrun⟩ := main _ rfl s w a hp.wd (hp.fp hh (by simp)) (hp.get (x := x) (by simp [Op.operands]) hx) (hp.get (x := y) (by simp [Op.operands]) hy)
                      rw [e1] at hg
                      refine ⟨_, e_look (hrun true), ?_⟩
                      rw [e2]
                      exact .tup (cs := [_, _]) (gs := [g, .bool b]) rfl (L2.cons (.im hg) (L2.cons (.im (.v _)) L2.nil)).2
                    · cases h
                      refine Sim.pure fun s w a hp => ?_
                      obtain ⟨e1, e2⟩ := hq.1 _ rfl
                      obtain ⟨g, hg, hrun⟩ := main _ rfl s w a hp.wd (hp.fp hh (by simp)) (hp.get (x := x) (by simp [Op.operands]) hx) (hp.get (x := y) (by simp [Op.operands]) hy)
                      rw [e1] at hg
                      exact ⟨_, e_look (hrun false), .im hg⟩
                  · cases h
                · cases h
              · cases h
            · cases h
          · cases h
        · cases h
      · cases h
    · cases h
  · cases h
def xUpd (L : Fr) (H : List AO) (T : List (TE P)) (it : Option IK) (t : Nat) (x y z : Operand) : Option Got := match tget T t with
  | some e => (match e.d with
    | .map kt _ => (match tget T kt with
      | some e2 => (match e2.d with
        | .int kk => (match rdx L x with
          | some (.mp h) => (match rdx L y with
            | some (.v (.int k' key)) => (match rdx L z with
              | some v => (match hget H h with
                | .mp kk' m => bif sameK kk k' && sameK kk kk' && pureA v then (match it with
                  | some (.kvs m') => some (⟨.v undef, [(h, .mp kk m')], none, [], false⟩, some (aset m key v = m'), [])
                  | _ => none) else none
                | _ => none)
              | none => none)
            | _ => none)
          | _ => none)
        | _ => none)
      | none => none)
    | _ => none)
  | none => none
theorem EntR.set {J : Imm} {kk : IntKind} {m : List (Int × AV)} {mv : List (Int × Value)} (hl : m.length = mv.length) (h : ∀ (i : Nat) (p : Int × AV) (u : Int × Value), m[i]? = some p → mv[i]? = some u → p.1 = u.1 ∧ VI J p.2 u.2) (k : Int) {v : AV} {g : Value} (hv : VI J v g) :
    (aset m k v).length = (aset mv k g).length ∧ ∀ (i : Nat) (p : Int × AV) (u : Int × Value), (aset m k v)[i]? = some p → (aset mv k g)[i]? = some u → p.1 = u.1 ∧ VI J p.2 u.2 := by
  rcases EntR.idx (kk := kk) hl h k with ⟨e1, e2⟩ | ⟨j, a, w, e1, e2, e3⟩
  · simp only [aset, e1, e2]
    refine ⟨by simp [hl], fun i p u hp hu => ?_⟩
    rw [List.getElem?_append] at hp hu
    rw [← hl] at hu
    split at hp
    · rename_i hi; rw [if_pos hi] at hu; exact h i p u hp hu
    · rename_i hi; rw [if_neg hi] at hu
      cases hq : i - m.length with
      | zero => rw [hq] at hp hu; simp at hp hu; subst hp hu; exact ⟨rfl, hv⟩
      | succ n => rw [hq] at hp; simp at hp
  · simp only [aset, e1, e2]
    refine ⟨by simp [hl], fun i p u hp hu => ?_⟩
    rw [List.getElem?_set] at hp hu
    rw [← hl] at hu
    split at hp
    · rename_i hi
      subst hi
      split at hp
      · rename_i hlt; simp at hp hu
        obtain ⟨_, hu⟩ := hu
        subst hp hu; exact ⟨rfl, hv⟩
      · cases hp
    · rename_i hi
      rw [if_neg hi] at hu
      exact h i p u hp hu
theorem xUpd_ok {t : Nat} (h : xUpd L H T it t x y z = some q) (hq : okg q) : Sim P ⟨dst, .mapUpdate t x y z, ty, pos, af, gd⟩ L H A q.1 := by
  unfold xUpd at h
  split at h
  · rename_i e he
    split at h
    · rename_i kt et hd
      have hu := tget_u he
      rw [hd] at hu
      split at h
      · rename_i e2 he2
        split at h
        · rename_i kk hd2
          have hu2 := tget_u he2
          rw [hd2] at hu2
          have hk := under_of hu2
          split at h
          · rename_i hh hx
            split at h
            · rename_i k' key hy
              split at h
              · rename_i v hz
                split at h
                · rename_i kk' m hc
                  have h0 := condE' h
                  clear h
                  obtain ⟨h1, h⟩ := h0
                  simp only [Bool.and_eq_true] at h1
                  obtain ⟨⟨h1, h2⟩, hpv⟩ := h1
                  have q1 := kn_inj h1
                  have q2 := kn_inj h2
                  subst q1 q2
                  split at h
                  · rename_i m'
                    cases h
                    have hm := hq.1 _ rfl
                    subst hm
                    refine Sim.skip fun s w a hp => ?_
                    have hb := hp.up _ (List.mem_singleton.2 rfl)
                    have hlt : hh < H.length := by
                      rcases Nat.lt_or_ge hh H.length with c | c
                      · exact c
                      · simp [hget, List.getD, List.getElem?_eq_none c] at hc
                    have hC := (hb.1 hlt).trans hc
                    have ey := (hp.get (x := y) (by simp [Op.operands]) hy).vE
                    have hV := hp.get (x := z) (by simp [Op.operands]) hz
                    obtain ⟨b, sz, hr, ex⟩ := (hp.get (x := x) (by simp [Op.operands]) hx).mpE hC
                    obtain ⟨o, ho, hO⟩ := hp.wd.obj _ _ _ hr
                    rw [hC] at hO
                    obtain ⟨es, c, rfl, mv, hE, hl, hVV⟩ := hO
                    have hI := hV.pure hpv
                    obtain ⟨l1, l2⟩ := EntR.set (kk := kk) hl hVV key hI
                    have hg : (getObj b).run P w = .ok (.map es c) w := by simp [getObj, Sem.run, ho]
                    have hck : (Instr.checkKey false 10000 kt (.int kk key)).run P w = .ok () w := by
                      unfold Instr.checkKey
                      rw [Sem.run_bind, run_underlying hk, Result.andThen_ok]
                      rfl
                    have hs : ∀ o', (setObj b o').run P w = .ok () { w with heap := w.heap.setIfInBounds b o' } := by
                      intro o'; simp [setObj, Sem.run, ho]
                    have hf : Fate s (s.put hh (.at b sz) (.mp kk (aset m key v))) hh := .same (by rw [put_ρ, hr]) (by rw [put_C, hC]; exact rfl)
                    have hle : Le s (s.put hh (.at b sz) (.mp kk (aset m key v))) := Le.put (fun _ => hf)
                    have fin : ∀ es' c', Ent kk id es'.toList (aset mv key (a.eval z)) → (execOp a.eval ⟨dst, .mapUpdate t x y z, ty, pos, af, gd⟩).run P w = .ok .skip { w with heap := w.heap.setIfInBounds b (.map es' c') } →
                        ∃ s' w', (execOp a.eval ⟨dst, .mapUpdate t x y z, ty, pos, af, gd⟩).run P w = .ok .skip w' ∧ Post s w ⟨.v undef, [(hh, .mp kk (aset m key v))], none, [], false⟩ s' w' undef := by
                      intro es' c' he' hrun
                      have hbl : b < w.heap.size := (Array.getElem?_eq_some_iff.1 ho).1
                      refine ⟨_, _, hrun, Post.put (r := .at b sz) rfl (Wd.put (w' := { w with heap := w.heap.setIfInBounds b (.map es' c') }) hp.wd (fun _ => hf) rfl rfl rfl (by simp) (fun k hk hne => ?_) (fun b' sz' e => ?_) (fun b' sz' e => ?_)) Post.undef⟩
                      · have : k ≠ b := fun e => by subst e; exact hne _ hr
                        simp only [Array.getElem?_setIfInBounds]
                        rw [if_neg (fun e => this e.symm)]
                      · injection e with e1 e2; subst e1; exact .inl ⟨_, hr⟩
                      · injection e with e1 e2; subst e1 e2
                        refine ⟨.map es' c', ?_, es', c', rfl, _, he', l1, fun i p u a b => ⟨(l2 i p u a b).1, (l2 i p u a b).2⟩⟩
                        simp [hbl]
                    cases hq : aidx mv key with
                    | none =>
                      refine fin (es.push { key := .int kk key, val := a.eval z, born := c }) (c + 1) ?_ ?_
                      · simp only [Ent, aset, hq] at hE ⊢
                        simp [hE]
                      · have hf := run_findKey (P := P) (w := w) hk (find_ent (k' := kk) hE key 0)
                        rw [hq] at hf
                        simp only [execOp, Instr.mapUpdate, ex, ey, Sem.run_bind, hu w, Result.andThen_ok, hg, hck, hf, Option.map_none, hs]
                        rfl
                    | some q =>
                      obtain ⟨j, b0⟩ := q
                      have hj := aidx_lt hq
                      have hjs : j < es.size := by
                        have h1 : j < mv.length := (List.getElem?_eq_some_iff.1 hj).1
                        have h2 := congrArg List.length hE
                        simp at h2; omega
                      have hkey : es[j].key = .int kk key := by
                        have h1 := congrArg (fun l => l[j]?) hE
                        simp only [List.getElem?_map, hj, Option.map_some] at h1
                        simp [hjs] at h1
                        exact h1.1
                      refine fin (es.modify j fun e => { e with key := .int kk key, val := a.eval z }) c ?_ ?_
                      · simp only [Ent, aset, hq] at hE ⊢
                        apply List.ext_getElem?
                        intro i'
                        have h1 := congrArg (fun l => l[i']?) hE
                        simp only [List.getElem?_map] at h1 ⊢
                        by_cases hij : j = i'
                        · subst hij
                          simp [Array.getElem?_modify, hjs, (List.getElem?_eq_some_iff.1 hj).1]
                        · simpa [Array.getElem?_modify, hij, List.getElem?_set_ne hij] using h1
                      · have hf := run_findKey (P := P) (w := w) hk (find_ent (k' := kk) hE key 0)
                        rw [hq] at hf
                        have hst : (Instr.keyThatStays (((es[0 + j]?).map (·.key)).getD (.int kk key)) (.int kk key)).run P w = .ok (.int kk key) w := by
                          have : ((es[0 + j]?).map (·.key)).getD (.int kk key) = .int kk key := by simp [hjs, hkey]
                          rw [this]
                          unfold Instr.keyThatStays
                          rw [if_pos (by simp [Instr.sameBits])]
                          rfl
                        simp only [execOp, Instr.mapUpdate, ex, ey, Sem.run_bind, hu w, Result.andThen_ok, hg, hck, hf, Option.map_some, hst, hs]
                        simp
                  · cases h
                · cases h
              · cases h
            · cases h
          · cases h
        · cases h
      · cases h
    · cases h
  · cases h
end
end Go.Proofs.Ytbdbmklkgjbehaa.X
namespace Go.Proofs.Ytbdbmklkgjbehaa.X
open Go Go.RowKit Go.Proofs.Ytbdbmklkgjbehaa.B

section
variable {P : Program} {L : Fr} {H : List AO} {A : List (List AV)} {T : List (TE P)} {it : Option IK}
variable {dst : Option Tmp} {ty : TypeId} {pos : String} {af : Array Edge} {gd : Option (Nat × Bool)} {x y z : Operand} {q : Got}
theorem write_arr {s : Ms} {w : World} (hW : Wd s w) {h o b sz te k n : Nat} {z : Bool} {xs ys zs : List (List AV)} {us : List Value} (hC : s.C h = .arr z te k n xs) (hr : s.ρ h = .at b sz) (hy : RowR s.J k ys us) (h1 : ∀ u ∈ us, one u = true) (hl : o + ys.length ≤ n)
    (hz : xs.take o ++ ys ++ xs.drop (o + ys.length) = zs) :
    ∃ w', (storeCells ⟨b, o * k, none⟩ us 0).run P w = .ok () w' ∧ Wd (s.put h (.at b sz) (.arr z te k n zs)) w' ∧ Stp s w (s.put h (.at b sz) (.arr z te k n zs)) w' := by
  subst hz
  obtain ⟨ob, ho, hO⟩ := hW.obj _ _ _ hr
  rw [hC] at hO
  obtain ⟨gs, cap, rfl, hon, hsz, hcap, hmax, hn, hk0, hlen, hk, hV⟩ := hO
  have hul := hy.1
  have e1 : (o + ys.length) * k ≤ n * k := Nat.mul_le_mul_right k hl
  have e2 : (o + ys.length) * k = o * k + ys.length * k := Nat.add_mul o ys.length k
  have e3 : n * k ≤ cap * k := Nat.mul_le_mul_right k hn
  obtain ⟨w', hrun, a1, a2, a3, a4, a5, a6⟩ := run_storeCells (P := P) us 0 (o * k) gs w ho h1 (by omega)
  rw [Nat.add_zero] at a6
  have hzl : (xs.take o ++ ys ++ xs.drop (o + ys.length)).length = n := by simp; omega
  have hf : Fate s (s.put h (.at b sz) (.arr z te k n (xs.take o ++ ys ++ xs.drop (o + ys.length)))) h := .same (by rw [put_ρ, hr]) (by rw [put_C, hC]; exact ⟨id, rfl, rfl, rfl⟩)
  refine ⟨w', hrun, Wd.put hW (fun _ => hf) a1 a2 a3 (by omega) (fun k hk hne => a5 k fun e => ?_) (fun b' sz' e => ?_) (fun b' sz' e => ?_)⟩
  · subst e; exact hne _ hr
  · injection e with e1 e2; subst e1; exact .inl ⟨_, hr⟩
  · injection e with e4 e5; subst e4 e5
    have r1 : RowR s.J k (xs.take o) (gs.take (o * k)) := by
      refine ⟨by simp; rw [Nat.min_eq_left (by omega : o ≤ xs.length)]; omega, fun i x hi => ?_, fun i x j y g hi hj hg => ?_⟩
      · rw [List.getElem?_take] at hi
        split at hi
        · exact hk _ _ hi
        · cases hi
      · rw [List.getElem?_take] at hi hg
        split at hi
        · split at hg
          · exact hV _ _ _ _ _ hi hj hg
          · cases hg
        · cases hi
    have r2 : RowR s.J k (xs.drop (o + ys.length)) ((gs.drop (o * k + us.length)).take (n * k - (o * k + us.length))) := by
      refine ⟨?_, fun i x hi => ?_, fun i x j y g hi hj hg => ?_⟩
      · simp only [List.length_take, List.length_drop, hlen, Nat.sub_mul]; omega
      · rw [List.getElem?_drop] at hi; exact hk _ _ hi
      · rw [List.getElem?_drop] at hi
        rw [List.getElem?_take] at hg
        split at hg
        · rw [List.getElem?_drop] at hg
          refine hV _ _ j y g hi hj ?_
          rw [← hg]
          congr 1
          rw [Nat.add_mul, e2, hul]; omega
        · cases hg
    have hrow := (r1.app hy).app r2
    have hul2 : us.length = ys.length * k := hul
    have htake : (gs.take (o * k) ++ us ++ gs.drop (o * k + us.length)).take (n * k) = gs.take (o * k) ++ us ++ (gs.drop (o * k + us.length)).take (n * k - (o * k + us.length)) := by
      rw [List.take_append]
      have hl1 : (gs.take (o * k) ++ us).length = o * k + us.length := by simp; omega
      rw [hl1, List.take_of_length_le (by rw [hl1]; omega)]
    refine ⟨_, a6, _, cap, rfl, ?_, ?_, hcap, hmax, hn, hk0, hzl, hrow.2.1, hrow.take ?_⟩
    · rw [htake]
      intro u hu
      rcases List.mem_append.1 hu with hu | hu
      · rcases List.mem_append.1 hu with hu | hu
        · refine hon u ?_
          obtain ⟨m, hm⟩ := List.getElem?_of_mem hu
          rw [List.getElem?_take] at hm
          split at hm
          · exact List.mem_of_getElem? (i := m) (by rw [List.getElem?_take, if_pos (by omega)]; exact hm)
          · cases hm
        · exact h1 u hu
      · obtain ⟨m, hm⟩ := List.getElem?_of_mem hu
        rw [List.getElem?_take] at hm
        split at hm
        · rw [List.getElem?_drop] at hm
          exact hon u (List.mem_of_getElem? (i := o * k + us.length + m) (by rw [List.getElem?_take, if_pos (by omega)]; exact hm))
        · cases hm
    · simp only [List.length_append, List.length_take, List.length_drop]; omega
    · rw [show (gs.take (o * k) ++ us ++ (gs.drop (o * k + us.length)).take (n * k - (o * k + us.length))).length = n * k by rw [hrow.1, hzl]]
      exact htake
def xAps (L : Fr) (H : List AO) (T : List (TE P)) (it : Option IK) (t : Nat) (x y : Operand) : Option Got := match it with
  | some (.aps zs) => (match tget T t with
    | some e => (match e.d with
      | .slice el => (match tget T el with
        | some e2 => (match rdx L x with
          | some (.sl c h n off a) => (match rdx L y with
            | some (.sl c' h' n' b l) => (match hget H h with
              | .arr z te k n0 xs => bif Nat.beq k e2.sz && Nat.blt 0 e2.by_ then
                  some (⟨.sl 0 h n 0 (a + l), [(h, .arr z te k n zs)], none, [h], false⟩, some (a + l ≤ n ∧ xs.take a ++ (xs.drop b).take l ++ xs.drop (a + l) = zs), [(n, n0), (n', n0), (c, 0), (off, 0), (h, h')]) else none
              | _ => none)
            | _ => none)
          | _ => none)
        | none => none)
      | _ => none)
    | none => none)
  | _ => xApp L H T it t x y
theorem xAps_ok {t : Nat} (h : xAps L H T it t x y = some q) (hq : okg q) : Sim P ⟨dst, .call { callee := .builtin .append, args := #[x, y], argTypes := #[t, t] }, ty, pos, af, gd⟩ L H A q.1 := by
  unfold xAps at h
  split at h
  · rename_i zs
    split at h
    · rename_i e he
      split at h
      · rename_i el hd
        have hu := tget_u he
        rw [hd] at hu
        split at h
        · rename_i e2 he2
          split at h
          · rename_i c hh n off a hvx
            split at h
            · rename_i c' hh' n' b l hvy
              split at h
              · rename_i z te k n0 xs hc
                obtain ⟨h1, h⟩ := condE' h
                simp only [Bool.and_eq_true] at h1
                cases h
                obtain ⟨hal, hz⟩ := hq.1 _ rfl
                have q1 := hq.2 (n, n0) (by simp)
                have q2 := hq.2 (n', n0) (by simp)
                have q3 := hq.2 (c, 0) (by simp)
                have q4 := hq.2 (off, 0) (by simp)
                have q5 := hq.2 (hh, hh') (by simp)
                simp only at q1 q2 q3 q4 q5
                subst q1 q3 q4 q5
                have q2 := q2.symm
                subst q2
                have hk := Nat.eq_of_beq_eq_true h1.1
                subst hk
                have hmx : x ∈ (Op.call { callee := .builtin .append, args := #[x, y], argTypes := #[t, t] }).operands.toList := by simp [Op.operands, Call.operands]
                have hmy : y ∈ (Op.call { callee := .builtin .append, args := #[x, y], argTypes := #[t, t] }).operands.toList := by simp [Op.operands, Call.operands]
                have hut := under_of hu
                obtain ⟨ti, hi, hb, hs, hzv⟩ := tget_i he2
                refine Sim.run fun s w ac hp => ?_
                have hC := (hp.fp hh (by simp)).trans hc
                have hVx := hp.get hmx hvx
                have hVy := hp.get hmy hvy
                obtain ⟨Ay, cy, egy, hy1, hy0⟩ := srcA_ok (k := e2.sz) (v := .sl c' hh n b l) (eq := [(n, n)]) (fp := [hh]) (m := l) (ys := (xs.drop b).take l) (by simp [srcA, hc, Nat.beq_refl]) hp.wd hVy (fun h hm => hp.fp h (by simpa using hm)) (fun e hm => by simp at hm; subst hm; rfl)
                rcases hVx.slE' hC with ⟨bb, sz, cap, o, hr, k1, k2, k3, k4, k5, ev⟩ | ⟨rfl, hnl, rfl, _, rfl, ev⟩
                · have ho : o = 0 := by
                    rcases k5 with k5 | ⟨k5, _⟩
                    · simpa using k5
                    · cases k5
                  subst ho
                  obtain ⟨m1, m2⟩ := sl_room hp.wd hr hC k1 k2 k3
                  simp only [show Nat.beq 0 0 = true from rfl, cond_true] at m1
                  have hxl : xs.length = n := by
                    obtain ⟨ob, hob, hO⟩ := hp.wd.obj _ _ _ hr
                    rw [hC] at hO
                    obtain ⟨gs, cap', _, _, _, _, _, _, _, hxl, _⟩ := hO
                    exact hxl
                  have hroom : a + l ≤ cap := by omega
                  obtain ⟨news, hfc, hrow, hones, hyl⟩ : ∃ news, (Builtin.firstCells e2.sz l (.slice Ay l cy)).run P w = .ok news.toArray w ∧ RowR s.J e2.sz ((xs.drop b).take l) news ∧ (∀ u ∈ news, one u = true) ∧ ((xs.drop b).take l).length = l := by
                    by_cases h0 : l = 0
                    · subst h0
                      refine ⟨[], ?_, by simpa using RowR.nil, fun u hu => by simp at hu, by simp⟩
                      cases Ay <;> simp [Builtin.firstCells, loadCells, loadCellsFrom]
                    · obtain ⟨ay, news, rfl, hny, hyl, hcell, hon⟩ := hy1 h0
                      exact ⟨news, run_firstCells_some (P := P) w e2.sz l ay l cy news (by rw [hny.1, hyl]) hcell, hny, hon, hyl⟩
                  obtain ⟨w', hst, hW', hS'⟩ := write_arr (P := P) (o := a) hp.wd hC hr hrow hones (zs := zs) (by rw [hyl]; exact hal) (by rw [hyl]; exact hz)
                  refine ⟨_, w', _, e_append (v := .slice (some ⟨bb, 0, none⟩) (a + l) cap) ?_, Post.put (r := .at bb sz) rfl ⟨hW', hS'⟩ ?_⟩
                  · rw [ev, egy]
                    simp [Builtin.append_, run_underlying hut, tget_s he2 w, Builtin.lenOf, hroom, hfc, Sem.run_bind, add_none, hst]
                  · have := V.sl (s := s.put hh (.at bb sz) (.arr z te e2.sz n zs)) (c := 0) (h := hh) (n := n) (off := 0) (len := a + l) (cap := cap) (o := 0) put_ρ put_C (by omega) hroom k3 (fun e => by cases e) (.inl (by simp))
                    exact this
                · have hl0 : l = 0 := by omega
                  subst hl0
                  have hxs : xs = [] := by
                    obtain ⟨te', tk, hcc⟩ := hp.wd.nl _ hnl
                    rw [hC] at hcc
                    injection hcc with c1 c2 c3 c4 c5
                  subst hxs
                  have hz' : [] = zs := by simpa using hz
                  subst hz'
                  have hrun : (Builtin.append_ #[t, t] ty #[.slice none 0 0, .slice Ay 0 cy]).run P w = .ok (.slice none 0 0) w := by
                    have hfc : (Builtin.firstCells e2.sz 0 (.slice Ay 0 cy)).run P w = .ok #[] w := by cases Ay <;> simp [Builtin.firstCells, loadCells, loadCellsFrom]
                    simp [Builtin.append_, run_underlying hut, tget_s he2 w, Builtin.lenOf, hfc, Sem.run_bind]
                  have hf : Fate s (s.put hh .nl (.arr true te e2.sz 0 [])) hh := .same (by rw [put_ρ, hnl]) (by rw [put_C, hC]; exact Kin.rfl')
                  have hle : Le s (s.put hh .nl (.arr true te e2.sz 0 [])) := Le.put (fun _ => hf)
                  exact ⟨_, w, _, e_append (by rw [ev, egy]; exact hrun), Post.put (r := .nl) rfl (Wd.put hp.wd (fun _ => hf) rfl rfl rfl (Nat.le_refl _) (fun _ _ _ => rfl) (fun b' sz' e => by cases e) (fun b' sz' e => by cases e) (fun _ => ⟨_, _, rfl⟩)) (.sl0 put_ρ put_C)⟩
              · cases h
            · cases h
          · cases h
        · cases h
      · cases h
    · cases h
  · exact xApp_ok h hq
def xClr (L : Fr) (H : List AO) (T : List (TE P)) (it : Option IK) (t : Nat) (x : Operand) : Option Got := match it with
  | some (.aps zs) => (match tget T t with
    | some e => (match e.d with
      | .slice el => (match tget T el with
        | some e2 => (match rdx L x with
          | some (.sl c h n off len) => (match hget H h with
            | .arr z te k n0 xs => bif Nat.beq k e2.sz && onesA (zeroA e2.zv) && Nat.beq (zeroA e2.zv).length e2.sz && !(Nat.beq e2.sz 0) then
                some (⟨.v undef, [(h, .arr z te k n zs)], none, [h], false⟩, some (off + len ≤ n ∧ xs.take off ++ List.replicate len (zeroA e2.zv) ++ xs.drop (off + len) = zs), [(n, n0)]) else none
            | _ => none)
          | _ => none)
        | none => none)
      | _ => none)
    | none => none)
  | _ => none
theorem xClr_ok {t : Nat} (h : xClr L H T it t x = some q) (hq : okg q) : Sim P ⟨dst, .call { callee := .builtin .clear, args := #[x], argTypes := #[t] }, ty, pos, af, gd⟩ L H A q.1 := by
  unfold xClr at h
  split at h
  · rename_i zs
    split at h
    · rename_i e he
      split at h
      · rename_i el hd
        have hu := tget_u he
        rw [hd] at hu
        split at h
        · rename_i e2 he2
          split at h
          · rename_i c hh n off len hvx
            split at h
            · rename_i z te k n0 xs hc
              obtain ⟨h1, h⟩ := condE' h
              simp only [Bool.and_eq_true] at h1
              cases h
              obtain ⟨hal, hz⟩ := hq.1 _ rfl
              have q1 := hq.2 (n, n0) (by simp)
              simp only at q1
              subst q1
              have hk := Nat.eq_of_beq_eq_true h1.1.1.1
              subst hk
              have hmx : x ∈ (Op.call { callee := .builtin .clear, args := #[x], argTypes := #[t] }).operands.toList := by simp [Op.operands, Call.operands]
              have hut := under_of hu
              have hk0 : 0 < e2.sz := by
                rcases Nat.eq_zero_or_pos e2.sz with e | e
                · have := h1.2; rw [e] at this; simp at this
                · exact e
              refine Sim.run fun s w ac hp => ?_
              have hC := (hp.fp hh (by simp)).trans hc
              have hVx := hp.get hmx hvx
              have hzc := zeroA_ok s e2.zv
              have hex : ∀ {u : Value} {w' : World}, (Builtin.clear_ #[t] ty #[ac.eval x]).run P w = .ok u w' → (execOp ac.eval ⟨dst, .call { callee := .builtin .clear, args := #[x], argTypes := #[t] }, ty, pos, af, gd⟩).run P w = .ok (.value u) w' := fun he => by
                simp only [execOp, resolve]
                rw [show (#[x] : Array Operand).map ac.eval = #[ac.eval x] by simp]
                simp only [Sem.run_bind, Sem.run_pure, Result.andThen_ok, invoke, builtin]
                rw [he]; rfl
              have same : ∀ (r : RS), s.ρ hh = r → len = 0 → (Builtin.clear_ #[t] ty #[ac.eval x]).run P w = .ok undef w → xs.length = n → ∃ s' w' g, (execOp ac.eval ⟨dst, .call { callee := .builtin .clear, args := #[x], argTypes := #[t] }, ty, pos, af, gd⟩).run P w = .ok (.value g) w' ∧ Post s w ⟨.v undef, [(hh, .arr z te e2.sz n zs)], none, [hh], false⟩ s' w' g := by
                intro r hr h0 hrun hxl
                subst h0
                simp only [List.replicate_zero, List.append_nil, Nat.add_zero, List.take_append_drop] at hz
                subst hz
                have hf : Fate s (s.put hh r (.arr z te e2.sz n xs)) hh := .same (by rw [put_ρ, hr]) (by rw [put_C, hC]; exact Kin.rfl')
                have hle : Le s (s.put hh r (.arr z te e2.sz n xs)) := Le.put (fun _ => hf)
                refine ⟨_, w, _, hex hrun, Post.put (r := r) rfl (Wd.put hp.wd (fun _ => hf) rfl rfl rfl (Nat.le_refl _) (fun _ _ _ => rfl) (fun b' sz' e => .inl ⟨_, hr.trans e⟩) (fun b' sz' e => ?_) (fun e => ?_)) Post.undef⟩
                · obtain ⟨ob, hob, hO⟩ := hp.wd.obj _ _ _ (hr.trans e)
                  rw [hC] at hO
                  exact ⟨ob, hob, hO.mono hle⟩
                · obtain ⟨te', tk, hcc⟩ := hp.wd.nl _ (hr.trans e)
                  exact ⟨te', tk, hC.symm.trans hcc⟩
              rcases hVx.slE' hC with ⟨bb, sz, cap, o, hr, k1, k2, k3, k4, k5, ev⟩ | ⟨rfl, hnl, rfl, _, rfl, ev⟩
              · have hxl : xs.length = n := by
                  obtain ⟨ob, hob, hO⟩ := hp.wd.obj _ _ _ hr
                  rw [hC] at hO
                  obtain ⟨gs, cap', _, _, _, _, _, _, _, hxl, _⟩ := hO
                  exact hxl
                by_cases h0 : len = 0
                · refine same _ hr h0 ?_ hxl
                  subst h0
                  rw [ev]
                  simp [Builtin.clear_, run_underlying hut, Sem.run_bind, undef]
                · have ho : o = off * e2.sz := by
                    rcases k5 with k5 | ⟨_, k5⟩
                    · exact k5
                    · exact absurd k5 h0
                  subst ho
                  have hzl : e2.zv.cells.toList.length = e2.sz := by rw [← hzc.1]; exact Nat.eq_of_beq_eq_true h1.1.2
                  have hzs := zeroCells_eq (zv := e2.zv.cells) (zc := e2.zv.cells.toList) (by simp) hzl hk0 len
                  have hpz : L2 (VI s.J) (zeroA e2.zv) e2.zv.cells.toList := cstL s.J _
                  have hrow : RowR s.J e2.sz (List.replicate len (zeroA e2.zv)) (List.replicate len e2.zv.cells.toList).flatten := RowR.rep hpz (Nat.eq_of_beq_eq_true h1.1.2) len
                  have hones : ∀ u ∈ (List.replicate len e2.zv.cells.toList).flatten, one u = true := fun u hu' => by
                    obtain ⟨l', hl', hu2⟩ := List.mem_flatten.1 hu'
                    rw [(List.mem_replicate.1 hl').2] at hu2
                    exact hzc.ones h1.1.1.2 u hu2
                  obtain ⟨w', hst, hW', hS'⟩ := write_arr (P := P) (o := off) hp.wd hC hr hrow hones (zs := zs) (by rw [List.length_replicate]; exact hal) (by rw [List.length_replicate]; exact hz)
                  refine ⟨_, w', undef, hex ?_, Post.put (r := .at bb sz) rfl ⟨hW', hS'⟩ Post.undef⟩
                  rw [ev]
                  obtain ⟨m, rfl⟩ : ∃ q, len = q + 1 := ⟨len - 1, by omega⟩
                  have hzr := tget_z he2 w
                  simp [Builtin.clear_, run_underlying hut, Sem.run_bind, hzr, hzs, hst, undef]
              · refine same _ hnl rfl ?_ ?_
                · rw [ev]
                  simp [Builtin.clear_, run_underlying hut, Sem.run_bind, undef]
                · obtain ⟨te', tk, hcc⟩ := hp.wd.nl _ hnl
                  rw [hC] at hcc
                  injection hcc with c1 c2 c3 c4 c5
                  subst c5; rfl
            · cases h
          · cases h
        · cases h
      · cases h
    · cases h
  · cases h
end

def Born (s : Ms) (H : List AO) : Prop := ∀ h, H.length ≤ h → s.ρ h = .unborn
structure Is (s : Ms) (H : List AO) (A : List (List AV)) : Prop where
  C : ∀ h, s.C h = hget H h
  A : s.A = A
  b : Born s H
def Ev (P : Program) (f : FuncId) (args : List AV) (H : List AO) (A : List (List AV)) (o : Out) : Prop :=
  (∀ args w, (callFunc f args).run P w = .ok (.enter f args) w) ∧ ∀ s w gs, Wd s w → Is s H A → L2 (V s) args gs →
    RetP P f gs w (fun g w' => ∃ v H' A' s', o = .ret v H' A' ∧ Wd s' w' ∧ Stp s w s' w' ∧ Is s' H' A' ∧ V s' v g)
      (fun c w' => ∃ v H' A' s' g, o = .pan v H' A' ∧ c = [{ v := g, recovered := false }] ∧ Wd s' w' ∧ Stp s w s' w' ∧ Is s' H' A' ∧ V s' v g)

def renS (τ : Rn) : List Sg → Option (List Sg)
  | [] => some []
  | .c x :: r => (ren τ x).bind fun x' => (renS τ r).map fun r' => .c x' :: r'
  | .a k n xs :: r => (renS τ r).map fun r' => .a k n xs :: r'
theorem SegR.ren {τ : Rn} {s s' : Ms} (hs : Sees τ s s') : ∀ {ss : List Sg} {gs : List Value} {ss' : List Sg}, SegR s ss gs → renS τ ss = some ss' → SegR s' ss' gs
  | [], gs, ss', h, e => by cases e; exact h
  | .c x :: r, gs, ss', h, e => by
    simp only [renS, Option.bind_eq_some_iff, Option.map_eq_some_iff] at e
    obtain ⟨x', hx, r', hr, rfl⟩ := e
    obtain ⟨g, t, rfl, h1, h2⟩ := h
    exact ⟨g, t, rfl, h1.ren hs hx, SegR.ren hs h2 hr⟩
  | .a k n xs :: r, gs, ss', h, e => by
    simp only [renS, Option.map_eq_some_iff] at e
    obtain ⟨r', hr, rfl⟩ := e
    obtain ⟨us, t, rfl, h1, h2⟩ := h
    exact ⟨us, t, rfl, by rw [hs.J]; exact h1, SegR.ren hs h2 hr⟩
def renO (τ : Rn) : AO → Option AO
  | .box cs => (renL τ cs).map .box
  | .seg ss => (renS τ ss).map .seg
  | o => some o
theorem renO_kin {τ : Rn} {o o' : AO} (h : renO τ o = some o') : Kin o o' := by
  cases o with
  | box cs => simp only [renO, Option.map_eq_some_iff] at h; obtain ⟨c, _, rfl⟩ := h; trivial
  | seg ss => simp only [renO, Option.map_eq_some_iff] at h; obtain ⟨c, _, rfl⟩ := h; trivial
  | _ => cases h; exact Kin.rfl'
theorem renO_ok {τ : Rn} {s s' : Ms} (hs : Sees τ s s') {o o' : AO} (h : renO τ o = some o') {sz : Nat} {ob : Obj} (H : OR s o sz ob) : OR s' o' sz ob := by
  cases o with
  | box cs =>
    simp only [renO, Option.map_eq_some_iff] at h
    obtain ⟨c, hc, rfl⟩ := h
    obtain ⟨gs, e, h1, h2, h3, h4⟩ := H
    exact ⟨gs, e, h1, h2, h3, h4.ren hs hc⟩
  | seg ss =>
    simp only [renO, Option.map_eq_some_iff] at h
    obtain ⟨c, hc, rfl⟩ := h
    obtain ⟨gs, e, h1, h2, h3, h4⟩ := H
    exact ⟨gs, e, h1, h2, h3, h4.ren hs hc⟩
  | dead => cases h; trivial
  | arr z e k n xs =>
    cases h
    obtain ⟨gs, cap, h1, h10, h2, h3, h4, h5, h6, h9, h7, h8⟩ := H
    exact ⟨gs, cap, h1, h10, h2, h3, h4, h5, h6, h9, h7, fun i x j y g a b c => by rw [hs.J]; exact h8 i x j y g a b c⟩
  | mp kk m =>
    cases h
    obtain ⟨es, c, h1, mv, h2, h3, h4⟩ := H
    exact ⟨es, c, h1, mv, h2, h3, fun i p u a b => by rw [hs.J]; exact h4 i p u a b⟩
def renOL (τ : Rn) : List AO → Option (List AO)
  | [] => some []
  | o :: r => (renO τ o).bind fun o' => (renOL τ r).map fun r' => o' :: r'
theorem renOL_at {τ : Rn} : ∀ {l l' : List AO}, renOL τ l = some l' → l'.length = l.length ∧ ∀ i, i < l.length → renO τ (hget l i) = some (hget l' i)
  | [], l', h => by cases h; exact ⟨rfl, fun i hi => by simp at hi⟩
  | o :: r, l', h => by
    simp only [renOL, Option.bind_eq_some_iff, Option.map_eq_some_iff] at h
    obtain ⟨o', h1, r', h2, rfl⟩ := h
    obtain ⟨k1, k2⟩ := renOL_at h2
    refine ⟨by simp [k1], fun i hi => ?_⟩
    cases i with
    | zero => simpa [hget] using h1
    | succ i => simpa [hget] using k2 i (by simpa using hi)
def hand (σ : List Nat) (nd : Bool) : Rn := ⟨posn σ, nd⟩
def calleeS (s : Ms) (σ : List Nat) (nd : Bool) (Hc : List AO) : Ms where
  ρ := fun i => match σ[i]? with | some h => s.ρ h | none => .unborn
  C := hget Hc
  J := s.J
  bs := bif nd then s.bs else []
  A := bif nd then s.A else []
section
variable {s : Ms} {w : World} {σ : List Nat} {nd : Bool} {H Hc : List AO}
theorem hget_map (σ : List Nat) {i h : Nat} (hi : σ[i]? = some h) : hget (σ.map (hget H)) i = hget H h := by
  simp [hget, List.getD, hi]
theorem callee_sees (hC : ∀ h ∈ σ, s.C h = hget H h) (hc : renOL (hand σ nd) (σ.map (hget H)) = some Hc) : Sees (hand σ nd) s (calleeS s σ nd Hc) := by
  obtain ⟨k1, k2⟩ := renOL_at hc
  refine ⟨rfl, fun h i hi => ?_, fun hn => ?_⟩
  · have hi' := posn_at hi
    have hm := List.mem_of_getElem? hi'
    have hlt := (List.getElem?_eq_some_iff.1 hi').1
    refine ⟨by simp [calleeS, hi'], ?_⟩
    rw [hC h hm, ← hget_map σ hi']
    exact renO_kin (k2 i (by simpa using hlt))
  · have hn : nd = true := hn
    simp [calleeS, hn]
theorem callee_wd (hW : Wd s w) (hnod : σ.Nodup) (hC : ∀ h ∈ σ, s.C h = hget H h) (hc : renOL (hand σ nd) (σ.map (hget H)) = some Hc) :
    Wd (calleeS s σ nd Hc) w := by
  have hs := callee_sees hC hc
  obtain ⟨k1, k2⟩ := renOL_at hc
  have hat : ∀ i b sz, (calleeS s σ nd Hc).ρ i = .at b sz → ∃ h, σ[i]? = some h ∧ s.ρ h = .at b sz := by
    intro i b sz e
    simp only [calleeS] at e
    cases hi : σ[i]? with
    | none => rw [hi] at e; cases e
    | some h => rw [hi] at e; exact ⟨h, rfl, e⟩
  have hnd : nd = true → ∀ cs ∈ s.A, ∃ ds, renL (hand σ nd) cs = some ds ∧ ds = cs := fun e cs hcs => ⟨cs, cln_ren (by simpa [hand] using e) fun x hx => hW.cln cs hcs x hx, rfl⟩
  refine ⟨?_, ?_, ?_, ?_, ?_, hW.imm, ?_, ?_, ?_, ?_, ?_⟩
  · intro i b sz e
    obtain ⟨h, hi, hr⟩ := hat i b sz e
    obtain ⟨o, ho, hO⟩ := hW.obj h b sz hr
    have hlt := (List.getElem?_eq_some_iff.1 hi).1
    refine ⟨o, ho, renO_ok hs ?_ hO⟩
    rw [hC h (List.mem_of_getElem? hi), ← hget_map σ hi]
    exact k2 i (by simpa using hlt)
  · intro i j b sz sz' e e'
    obtain ⟨h, hi, hr⟩ := hat i b sz e
    obtain ⟨h', hj, hr'⟩ := hat j b sz' e'
    have := hW.inj h h' b sz sz' hr hr'
    subst this
    obtain ⟨l1, v1⟩ := List.getElem?_eq_some_iff.1 hi
    obtain ⟨l2, v2⟩ := List.getElem?_eq_some_iff.1 hj
    exact (List.getElem_inj hnod).1 (v1.trans v2.symm)
  · intro i b e
    cases hn : nd
    · simp [calleeS, hn] at e
    · simp only [calleeS, hn, cond_true] at e ⊢
      obtain ⟨gs, te, cs, a1, a0, a2, a3⟩ := hW.node i b e
      obtain ⟨ds, hd, rfl⟩ := hnd hn cs (List.mem_of_getElem? a2)
      have := a3.ren hs hd
      rw [hn] at this
      exact ⟨gs, te, ds, a1, a0, a2, by simpa [calleeS, hn] using this⟩
  · cases hn : nd <;> simp [calleeS, hW.len]
  · cases hn : nd <;> simp [calleeS, hW.nodup]
  · intro i b sz e
    obtain ⟨h, hi, hr⟩ := hat i b sz e
    exact hW.d1 h b sz hr
  · intro b hb
    cases hn : nd
    · simp [calleeS, hn] at hb
    · simp only [calleeS, hn, cond_true] at hb; exact hW.d2 b hb
  · intro i b sz e hb
    obtain ⟨h, hi, hr⟩ := hat i b sz e
    cases hn : nd
    · simp [calleeS, hn] at hb
    · simp only [calleeS, hn, cond_true] at hb; exact hW.d3 h b sz hr hb
  · intro i e
    simp only [calleeS] at e ⊢
    cases hi : σ[i]? with
    | none => rw [hi] at e; cases e
    | some h =>
      rw [hi] at e
      obtain ⟨te, k, hk⟩ := hW.nl h e
      have hlt := (List.getElem?_eq_some_iff.1 hi).1
      have := k2 i (by simpa using hlt)
      rw [hget_map σ hi, ← hC h (List.mem_of_getElem? hi), hk] at this
      simp only [renO, Option.some.injEq] at this
      exact ⟨te, k, this.symm⟩
  · cases hn : nd
    · simp [calleeS, hn]
    · simpa [calleeS, hn] using hW.cln
theorem callee_is (hc : renOL (hand σ nd) (σ.map (hget H)) = some Hc) : Is (calleeS s σ nd Hc) Hc (bif nd then s.A else []) := by
  obtain ⟨k1, k2⟩ := renOL_at hc
  refine ⟨fun _ => rfl, rfl, fun h hh => ?_⟩
  have : σ[h]? = none := List.getElem?_eq_none (by rw [k1, List.length_map] at hh; exact hh)
  simp [calleeS, this]

theorem posn_nodup : ∀ {l : List Nat} {i h : Nat}, l.Nodup → l[i]? = some h → posn l h = some i
  | [], i, h, _, e => by simp at e
  | a :: r, 0, h, _, e => by
    simp at e; subst e
    simp [posn]
  | a :: r, i + 1, h, hn, e => by
    simp only [List.nodup_cons] at hn
    have e' : r[i]? = some h := by simpa using e
    have hne : a ≠ h := fun e2 => by subst e2; exact hn.1 (List.mem_of_getElem? e')
    have hb : Nat.beq a h = false := by
      cases hq : Nat.beq a h
      · rfl
      · exact absurd (Nat.eq_of_beq_eq_true hq) hne
    simp [posn, hb, posn_nodup hn.2 e']
theorem upC_zip {C : Nat → AO} : ∀ {ks : List Nat} {os : List AO} {h : Nat}, ks.Nodup → os.length = ks.length → upC C (ks.zip os) h = match posn ks h with | some i => hget os i | none => C h
  | [], [], h, _, _ => rfl
  | [], o :: os, h, _, e => by simp at e
  | k :: ks, [], h, _, e => by simp at e
  | k :: ks, o :: os, h, hn, e => by
    simp only [List.nodup_cons] at hn
    simp only [List.zip_cons_cons, upC]
    have ih := upC_zip (C := fun j => bif Nat.beq j k then o else C j) (h := h) hn.2 (by simpa using e : os.length = ks.length)
    rw [ih]
    cases hb : Nat.beq k h
    · simp only [posn, hb, cond_false]
      cases hp : posn ks h with
      | none =>
        simp only [Option.map_none]
        have : Nat.beq h k = false := by
          cases hq : Nat.beq h k
          · rfl
          · rw [Nat.eq_of_beq_eq_true hq, Nat.beq_refl] at hb; cases hb
        rw [this]; rfl
      | some i => simp [hget]
    · have := Nat.eq_of_beq_eq_true hb
      subst this
      have hnone : posn ks k = none := by
        cases hp : posn ks k with
        | none => rfl
        | some i => exact absurd (List.mem_of_getElem? (posn_at hp)) hn.1
      rw [hnone]
      simp [posn, hget]
def keys (σ : List Nat) (N m : Nat) : List Nat := σ ++ (List.range (m - σ.length)).map (N + ·)
theorem keys_nodup {σ : List Nat} {N m : Nat} (h : σ.Nodup) (hl : ∀ x ∈ σ, x < N) : (keys σ N m).Nodup := by
  unfold keys
  rw [List.nodup_append]
  refine ⟨h, ?_, ?_⟩
  · refine List.Pairwise.map _ (fun a b h => ?_) List.nodup_range
    omega
  · intro a ha b hb
    obtain ⟨c, _, rfl⟩ := List.mem_map.1 hb
    have := hl a ha
    omega
theorem keys_len {σ : List Nat} {N m : Nat} (h : σ.length ≤ m) : (keys σ N m).length = m := by
  simp [keys]; omega
def back (ks : List Nat) (nd : Bool) : Rn := ⟨fun i => ks[i]?, nd⟩
def callerS (s s1 : Ms) (ks : List Nat) (os : List AO) (nd : Bool) : Ms where
  ρ := fun h => match posn ks h with | some i => s1.ρ i | none => s.ρ h
  C := upC s.C (ks.zip os)
  J := s1.J
  bs := bif nd then s1.bs else s.bs
  A := bif nd then s1.A else s.A
theorem caller_ok {s s1 : Ms} {w w' : World} {σ : List Nat} {H Hc H1 os : List AO} {N : Nat} (hW : Wd s w) (hnod : σ.Nodup) (hlt : ∀ h ∈ σ, h < N) (hC : ∀ h ∈ σ, s.C h = hget H h)
    (hc : renOL (hand σ nd) (σ.map (hget H)) = some Hc) (hW1 : Wd s1 w') (hS : Stp (calleeS s σ nd Hc) w s1 w') (hI : ∀ h, s1.C h = hget H1 h) (hb : Born s1 H1) (hm : σ.length ≤ H1.length)
    (ho : renOL (back (keys σ N H1.length) nd) H1 = some os) (hun : ∀ h ∈ keys σ N H1.length, N ≤ h → s.ρ h = .unborn) :
    Wd (callerS s s1 (keys σ N H1.length) os nd) w' ∧ Stp s w (callerS s s1 (keys σ N H1.length) os nd) w' ∧ Sees (back (keys σ N H1.length) nd) s1 (callerS s s1 (keys σ N H1.length) os nd) := by
  have hkn : (keys σ N H1.length).Nodup := keys_nodup hnod hlt
  have hkl : (keys σ N H1.length).length = H1.length := keys_len hm
  generalize hks : keys σ N H1.length = ks at *
  obtain ⟨o1, o2⟩ := renOL_at ho
  have hs0 := callee_sees (nd := nd) hC hc
  obtain ⟨c1, c2⟩ := renOL_at hc
  have hρ : ∀ {i h : Nat}, ks[i]? = some h → (callerS s s1 ks os nd).ρ h = s1.ρ i := fun e => by simp [callerS, posn_nodup hkn e]
  have hCC : ∀ {i h : Nat}, ks[i]? = some h → (callerS s s1 ks os nd).C h = hget os i := fun {i h} e => by
    simp only [callerS]; rw [upC_zip hkn (by rw [o1, hkl]), posn_nodup hkn e]
  have hρn : ∀ {h}, posn ks h = none → (callerS s s1 ks os nd).ρ h = s.ρ h := fun e => by simp [callerS, e]
  have hCn : ∀ {h}, posn ks h = none → (callerS s s1 ks os nd).C h = s.C h := fun {h} e => by
    simp only [callerS]; rw [upC_zip hkn (by rw [o1, hkl]), e]
  have hsees : Sees (back ks nd) s1 (callerS s s1 ks os nd) := by
    refine ⟨rfl, fun i h hi => ⟨hρ hi, ?_⟩, fun h => by have h : nd = true := h; simp [callerS, h]⟩
    have hi : ks[i]? = some h := hi
    rw [hCC hi, hI i]
    have hil := (List.getElem?_eq_some_iff.1 hi).1
    exact renO_kin (o2 i (by omega))
  have hσk : ∀ {i h : Nat}, σ[i]? = some h → ks[i]? = some h := fun {i h} e => by
    rw [← hks]; unfold keys
    rw [List.getElem?_append_left (List.getElem?_eq_some_iff.1 e).1]; exact e
  have hnew : ∀ {i h : Nat}, ks[i]? = some h → σ.length ≤ i → N ≤ h := fun {i h} e hl => by
    rw [← hks] at e; unfold keys at e
    rw [List.getElem?_append_right hl, List.getElem?_map, Option.map_eq_some_iff] at e
    obtain ⟨a, _, rfl⟩ := e; omega
  have hown : ∀ b, Own (calleeS s σ nd Hc) b → (∃ (i h sz : Nat), σ[i]? = some h ∧ s.ρ h = .at b sz) ∨ (nd = true ∧ b ∈ s.bs) := by
    rintro b (⟨i, sz, e⟩ | hb)
    · simp only [calleeS] at e
      cases hi : σ[i]? with
      | none => rw [hi] at e; cases e
      | some h => rw [hi] at e; exact .inl ⟨i, h, sz, hi, e⟩
    · cases hn : nd
      · simp [calleeS, hn] at hb
      · exact .inr ⟨rfl, by simpa [calleeS, hn] using hb⟩
  have hother : ∀ {h b sz}, posn ks h = none → s.ρ h = .at b sz → ¬ Own (calleeS s σ nd Hc) b := by
    intro h b sz hp hr ho
    rcases hown b ho with ⟨i, h', sz', hi, hr'⟩ | ⟨_, hb⟩
    case inr => exact hW.d3 _ _ _ hr hb
    have := hW.inj h h' b sz sz' hr hr'
    subst this
    rw [posn_nodup hkn (hσk hi)] at hp; cases hp
  have hJ : ∀ b gs, s.J b = some gs → s1.J b = some gs := hS.le.J
  have hle : Le s (callerS s s1 ks os nd) := by
    refine ⟨hJ, fun i b e => by
      cases hn : nd
      · simpa [callerS, hn] using e
      · have := hS.le.bs i b (by simpa [calleeS, hn] using e)
        simpa [callerS, hn] using this, fun h hr => ?_⟩
    cases hp : posn ks h with
    | none => refine .same (hρn hp) ?_; rw [hCn hp]; exact Kin.rfl'
    | some i =>
      have hi := posn_at hp
      by_cases hl : i < σ.length
      · have hσi : σ[i]? = some h := by
          have : σ[i]? = some σ[i] := by simp [hl]
          rw [this]; have := hσk this; rw [hi] at this; exact this.symm
        obtain ⟨r1, r2⟩ := hs0.h h i (posn_nodup hnod hσi)
        obtain ⟨t1, t2⟩ := hsees.h i h hi
        have hrc : (calleeS s σ nd Hc).ρ i ≠ .unborn := by rw [r1]; exact hr
        cases hS.le.f i hrc with
        | same h1 h2 => exact .same (t1.trans (h1.trans r1)) ((r2.trans h2).trans t2)
        | died h1 h2 => rw [h2] at t2; exact .died (t1.trans h1) t2.dead
        | grew h1 h2 h3 h4 h5 =>
          rw [h1] at r2; rw [h2] at t2
          obtain ⟨_, xs1, e1⟩ := r2.arr'
          obtain ⟨_, xs2, e2, _⟩ := t2.arr
          exact .grew e1 e2 h3 (by rw [t1]; exact h4) (by rw [t1]; exact h5)
      · exact absurd (hun h (List.mem_of_getElem? hi) (hnew hi (by omega))) hr
  refine ⟨⟨?_, ?_, ?_, by cases hn : nd <;> simp [callerS, hW.len, hW1.len], by cases hn : nd <;> simp [callerS, hW.nodup, hW1.nodup], hW1.imm, ?_, ?_, ?_, ?_, by
    cases hn : nd
    · simpa [callerS, hn] using hW.cln
    · simpa [callerS, hn] using hW1.cln⟩, ⟨hle, hS.os, hS.tape, hS.output, hS.sz, ?_, ?_, ?_⟩, hsees⟩
  · intro h b sz e
    cases hp : posn ks h with
    | none =>
      rw [hρn hp] at e; rw [hCn hp]
      obtain ⟨o, ho', hO⟩ := hW.obj h b sz e
      exact ⟨o, (hS.old b (hW.lt (.inl ⟨h, sz, e⟩)) (hother hp e)).trans ho', hO.mono hle⟩
    | some i =>
      have hi := posn_at hp
      rw [hρ hi] at e; rw [hCC hi]
      obtain ⟨o, ho', hO⟩ := hW1.obj i b sz e
      have hil := (List.getElem?_eq_some_iff.1 hi).1
      refine ⟨o, ho', renO_ok hsees ?_ hO⟩
      rw [hI i]; exact o2 i (by omega)
  · intro h h' b sz sz' e e'
    have key : ∀ {i h b sz sz'}, s1.ρ i = .at b sz → posn ks h = none → s.ρ h = .at b sz' → False := by
      intro i h b sz sz' e1 hp e2
      rcases hS.own b (.inl ⟨i, sz, e1⟩) with ho' | ho'
      · exact hother hp e2 ho'
      · have := hW.lt (.inl ⟨h, sz', e2⟩); omega
    cases hp : posn ks h with
    | none =>
      rw [hρn hp] at e
      cases hp' : posn ks h' with
      | none => rw [hρn hp'] at e'; exact hW.inj h h' b sz sz' e e'
      | some i' => rw [hρ (posn_at hp')] at e'; exact (key e' hp e).elim
    | some i =>
      rw [hρ (posn_at hp)] at e
      cases hp' : posn ks h' with
      | none => rw [hρn hp'] at e'; exact (key e hp' e').elim
      | some i' =>
        rw [hρ (posn_at hp')] at e'
        have := hW1.inj i i' b sz sz' e e'
        subst this
        have k1 := posn_at hp; have k2 := posn_at hp'
        rw [k1] at k2; exact Option.some.inj k2
  · intro i b e
    cases hn : nd
    · have e : s.bs[i]? = some b := by simpa [callerS, hn] using e
      obtain ⟨gs, te, cs, a1, a0, a2, a3⟩ := hW.node i b e
      have hm' : b ∈ s.bs := List.mem_of_getElem? e
      refine ⟨gs, te, cs, (hS.old b (hW.lt (.inr hm')) fun ho' => ?_).trans a1, a0, by simpa [callerS, hn] using a2, hn ▸ a3.mono fun x g h => h.mono hle⟩
      rcases hown b ho' with ⟨j, h, sz, _, hr⟩ | ⟨h, _⟩
      · exact hW.d3 h b sz hr hm'
      · rw [hn] at h; cases h
    · have e : s1.bs[i]? = some b := by simpa [callerS, hn] using e
      obtain ⟨gs, te, cs, a1, a0, a2, a3⟩ := hW1.node i b e
      exact ⟨gs, te, cs, a1, a0, by simpa [callerS, hn] using a2, hn ▸ a3.ren hsees (cln_ren hn fun x hx => hW1.cln cs (List.mem_of_getElem? a2) x hx)⟩
  · intro h b sz e
    cases hp : posn ks h with
    | none =>
      rw [hρn hp] at e
      cases hj : s1.J b with
      | none => exact hj
      | some gs =>
        rcases hS.jn b gs hj with e1 | e1 | e1
        · have := hW.d1 h b sz e; rw [show s.J b = some gs from e1] at this; cases this
        · exact (hother hp e e1).elim
        · have := hW.lt (.inl ⟨h, sz, e⟩); omega
    | some i => rw [hρ (posn_at hp)] at e; exact hW1.d1 i b sz e
  · intro b hb'
    cases hn : nd
    · have hb' : b ∈ s.bs := by simpa [callerS, hn] using hb'
      cases hj : s1.J b with
      | none => exact hj
      | some gs =>
        rcases hS.jn b gs hj with e1 | e1 | e1
        · have := hW.d2 b hb'; rw [show s.J b = some gs from e1] at this; cases this
        · rcases hown b e1 with ⟨j, h, sz, _, hr⟩ | ⟨h, _⟩
          · exact (hW.d3 h b sz hr hb').elim
          · rw [hn] at h; cases h
        · have := hW.lt (.inr hb'); omega
    · exact hW1.d2 b (by simpa [callerS, hn] using hb')
  · intro h b sz e hb'
    cases hp : posn ks h with
    | none =>
      rw [hρn hp] at e
      cases hn : nd
      · exact hW.d3 h b sz e (by simpa [callerS, hn] using hb')
      · have hb' : b ∈ s1.bs := by simpa [callerS, hn] using hb'
        rcases hS.own b (.inr hb') with ho' | ho'
        · exact hother hp e ho'
        · have := hW.lt (.inl ⟨h, sz, e⟩); omega
    | some i =>
      rw [hρ (posn_at hp)] at e
      cases hn : nd
      · have hb' : b ∈ s.bs := by simpa [callerS, hn] using hb'
        rcases hS.own b (.inl ⟨i, sz, e⟩) with ho' | ho'
        · rcases hown b ho' with ⟨j, h', sz', _, hr⟩ | ⟨h, _⟩
          · exact hW.d3 h' b sz' hr hb'
          · rw [hn] at h; cases h
        · have := hW.lt (.inr hb'); omega
      · exact hW1.d3 i b sz e (by simpa [callerS, hn] using hb')
  · intro h e
    cases hp : posn ks h with
    | none => rw [hρn hp] at e; rw [hCn hp]; exact hW.nl h e
    | some i =>
      have hi := posn_at hp
      rw [hρ hi] at e; rw [hCC hi]
      obtain ⟨te, k, hk⟩ := hW1.nl i e
      have hil := (List.getElem?_eq_some_iff.1 hi).1
      have := o2 i (by omega)
      rw [← hI i, hk] at this
      simp only [renO, Option.some.injEq] at this
      exact ⟨te, k, this.symm⟩
  · intro b hb' hno
    refine hS.old b hb' fun ho' => hno ?_
    rcases hown b ho' with ⟨j, h, sz, _, hr⟩ | ⟨_, h⟩
    · exact .inl ⟨h, sz, hr⟩
    · exact .inr h
  · rintro b (⟨h, sz, e⟩ | hb')
    · cases hp : posn ks h with
      | none => rw [hρn hp] at e; exact .inl (.inl ⟨h, sz, e⟩)
      | some i =>
        rw [hρ (posn_at hp)] at e
        rcases hS.own b (.inl ⟨i, sz, e⟩) with ho' | ho'
        · rcases hown b ho' with ⟨j, h', sz', _, hr⟩ | ⟨_, h⟩
          · exact .inl (.inl ⟨h', sz', hr⟩)
          · exact .inl (.inr h)
        · exact .inr ho'
    · cases hn : nd
      · exact .inl (.inr (by simpa [callerS, hn] using hb'))
      · have hb' : b ∈ s1.bs := by simpa [callerS, hn] using hb'
        rcases hS.own b (.inr hb') with ho' | ho'
        · rcases hown b ho' with ⟨j, h', sz', _, hr⟩ | ⟨_, h⟩
          · exact .inl (.inl ⟨h', sz', hr⟩)
          · exact .inl (.inr h)
        · exact .inr ho'
  · intro b gs hj
    rcases hS.jn b gs hj with e1 | e1 | e1
    · exact .inl e1
    · rcases hown b e1 with ⟨j, h, sz, _, hr⟩ | ⟨_, h⟩
      · exact .inr (.inl (.inl ⟨h, sz, hr⟩))
      · exact .inr (.inl (.inr h))
    · exact .inr (.inr e1)
end

theorem frz_val {s : Ms} {w : World} (hW : Wd s w) {h b sz e k n : Nat} {z : Bool} {xs : List (List AV)} (hC : s.C h = .arr z e k n xs) (hr : s.ρ h = .at b sz) :
    ∃ gs more te fr, w.heap[b]? = some (.cells (gs ++ more).toArray te fr) ∧ Ones gs ∧ ∀ off len cap o, off + len ≤ n → len ≤ cap → (o = off * k ∨ len = 0) → VI (frzS s h b gs).J (.ro false k len ((xs.drop off).take len)) (.slice (some ⟨b, o, none⟩) len cap) := by
  obtain ⟨ob, ho, hO⟩ := hW.obj _ _ _ hr
  rw [hC] at hO
  obtain ⟨gs, cap', rfl, hon, hsz, hcap, hmax, hnc, hk0, hlen, hk, hVV⟩ := hO
  refine ⟨gs.take (n * k), gs.drop (n * k), e, (0, 0), by rw [List.take_append_drop]; exact ho, hon, fun off len cap o h1 h2 h3 => ?_⟩
  have hle := frz_le (gs := gs.take (n * k)) hW hr
  have e3 : n * k ≤ cap' * k := Nat.mul_le_mul_right k hnc
  have hl : ((xs.drop off).take len).length = len := by simp; omega
  refine .ro hl (b := b) (gs := gs.take (n * k)) (by simp [frzS]) (fun h0 => ?_) (fun e => by cases e) h2 (fun i x hi => ?_) (fun j g hj hg => hon g (List.mem_of_getElem? hg)) (fun i x j y g hi hj hg => ?_)
  · rcases h3 with rfl | h3
    · have e1 : (off + len) * k ≤ n * k := Nat.mul_le_mul_right k h1
      have e2 : (off + len) * k = off * k + len * k := Nat.add_mul off len k
      simp; omega
    · exact absurd h3 h0
  · rw [List.getElem?_take] at hi
    split at hi
    · rw [List.getElem?_drop] at hi; exact hk _ _ hi
    · cases hi
  · rw [List.getElem?_take] at hi
    split at hi
    · rename_i hil
      rw [List.getElem?_drop] at hi
      have ho' : o = off * k := by
        rcases h3 with h3 | h3
        · exact h3
        · omega
      subst ho'
      rw [List.getElem?_take] at hg
      split at hg
      · have e4 : (off + i) * k = off * k + i * k := Nat.add_mul off i k
        exact (hVV _ _ j y g hi hj (by rw [← hg]; congr 1; omega)).mono hle.J
      · cases hg
    · cases hi
theorem frz_all {s : Ms} {w : World} (hW : Wd s w) : ∀ hs : List Nat, ∃ s', Wd s' w ∧ (∀ b gs, s.J b = some gs → s'.J b = some gs) ∧ (∀ h, (s'.ρ h = s.ρ h ∧ s'.C h = s.C h) ∨ h ∈ hs) ∧
    ∀ h ∈ hs, ∀ z e k n xs, s.C h = .arr z e k n xs → ∀ c off len g, V s (.sl c h n off len) g → VI s'.J (.ro false k len ((xs.drop off).take len)) g
  | [] => ⟨s, hW, fun _ _ h => h, fun h => .inl ⟨rfl, rfl⟩, fun h hh => by simp at hh⟩
  | a :: r => by
    obtain ⟨s1, k1, k2, k3, k4⟩ := frz_all hW r
    by_cases ha : a ∈ r
    · refine ⟨s1, k1, k2, fun h => (k3 h).imp id fun h => by simp [h], fun h hh => ?_⟩
      rcases List.mem_cons.1 hh with rfl | hh
      · exact k4 _ ha
      · exact k4 _ hh
    · obtain ⟨r1, r2⟩ := (k3 a).resolve_right ha
      have nil : ∀ {s' : Ms} {c off len k n : Nat} {xs : List (List AV)} {z : Bool} {e : Nat} {g : Value}, s.ρ a = .nl → s.C a = .arr z e k n xs → V s (.sl c a n off len) g → VI s'.J (.ro false k len ((xs.drop off).take len)) g := by
        intro s' c off len k n xs z e g hnl hC hv
        obtain ⟨te, tk, hc⟩ := hW.nl a hnl
        rw [hC] at hc
        injection hc with c1 c2 c3 c4 c5
        subst c4 c5
        rcases hv.slE' hC with ⟨b, sz, _, _, hr, _⟩ | ⟨_, _, _, rfl, rfl, rfl⟩
        · rw [hnl] at hr; cases hr
        · simpa using (VI.nil0 : VI s'.J (.ro false k 0 []) (.slice none 0 0))
      by_cases hb : ∃ z e k n xs, s.C a = .arr z e k n xs ∧ ∃ b sz, s.ρ a = .at b sz
      · obtain ⟨z, e, k, n, xs, hC, b, sz, hr⟩ := hb
        obtain ⟨gs, more, te, fr, h1, h2, h3⟩ := frz_val k1 (r2.trans hC) (r1.trans hr)
        have hf := frz_wd k1 (r1.trans hr) h1
        have hle := frz_le (gs := gs) k1 (r1.trans hr)
        refine ⟨_, hf.1, fun c us hc => hle.J c us (k2 c us hc), fun h => ?_, fun h hh z' e' k' n' xs' hC' c off len g hv => ?_⟩
        · by_cases e : h = a
          · right; simp [e]
          · rcases k3 h with ⟨t1, t2⟩ | t
            · left; simp only [frzS, if_neg e]; exact ⟨t1, t2⟩
            · right; simp [t]
        · by_cases e : h = a
          · subst e
            rw [hC] at hC'
            injection hC' with c1 c2 c3 c4 c5
            subst c3 c4 c5
            rcases hv.slE' hC with ⟨b', sz', cap, o, hr', m1, m2, _, _, m5, rfl⟩ | ⟨_, hnl, _⟩
            · rw [hr] at hr'; cases hr'
              exact h3 off len cap o m1 m2 (m5.imp id fun h => h.2)
            · rw [hr] at hnl; cases hnl
          · have hm : h ∈ r := by
              rcases List.mem_cons.1 hh with h' | h'
              · exact absurd h' e
              · exact h'
            exact (k4 h hm z' e' k' n' xs' hC' c off len g hv).mono hle.J
      · refine ⟨s1, k1, k2, fun h => (k3 h).imp id fun h => by simp [h], fun h hh z e k n xs hC c off len g hv => ?_⟩
        by_cases e' : h = a
        · subst e'
          rcases hv.slE' hC with ⟨b, sz, _, _, hr, _⟩ | ⟨_, hnl, _⟩
          · exact absurd ⟨_, _, _, _, _, hC, b, sz, hr⟩ hb
          · exact nil hnl hC hv
        · have hm : h ∈ r := by
            rcases List.mem_cons.1 hh with h' | h'
            · exact absurd h' e'
            · exact h'
          exact k4 h hm z e k n xs hC c off len g hv
def memB (l : List Nat) (a : Nat) : Bool := l.any (Nat.beq a)
theorem memB_ok {l : List Nat} {a : Nat} (h : memB l a = true) : a ∈ l := by
  obtain ⟨x, hx, e⟩ := List.any_eq_true.1 h
  rw [Nat.eq_of_beq_eq_true e]; exact hx
def lendA (H : List AO) (hs : List Nat) : AV → Option (AV × List (Nat × Nat))
  | .v x => some (.v x, [])
  | .flt b => some (.flt b, [])
  | .ro c k n xs => some (.ro c k n xs, [])
  | .ptr cs => some (.ptr cs, [])
  | .sl c h n off len => bif memB hs h then (match hget H h with
    | .arr _ _ k n' xs => (match c with
      | 2 => some (.ro false k len ((xs.drop off).take len), [(n, n')])
      | _ => some (.ro false k n' xs, [(n, n'), (off, 0), (len, n)]))
    | _ => none) else none
  | .fn f fi ca => (match lendL H hs fi with
    | some (fi', e1) => (match lendL H hs ca with
      | some (ca', e2) => some (.fn f fi' ca', e1 ++ e2)
      | none => none)
    | none => none)
  | .agg cs => (match lendL H hs cs with
    | some (cs', e) => some (.agg cs', e)
    | none => none)
  | _ => none
where
  lendL (H : List AO) (hs : List Nat) : List AV → Option (List AV × List (Nat × Nat))
  | [] => some ([], [])
  | x :: r => (match lendA H hs x with
    | some (y, e) => (match lendL H hs r with
      | some (ys, e') => some (y :: ys, e ++ e')
      | none => none)
    | none => none)
theorem eqA {l1 l2 : List (Nat × Nat)} (h : ∀ e ∈ l1 ++ l2, e.1 = e.2) : (∀ e ∈ l1, e.1 = e.2) ∧ ∀ e ∈ l2, e.1 = e.2 := ⟨fun e he => h e (List.mem_append.2 (.inl he)), fun e he => h e (List.mem_append.2 (.inr he))⟩
section
variable {H : List AO} {hs : List Nat} {s s' : Ms}
theorem xs_full {xs : List (List AV)} {n : Nat} (h : xs.length = n) : (xs.drop 0).take n = xs := by subst h; simp
mutual
theorem lendA_ok (hC : ∀ h ∈ hs, s.C h = hget H h) (hl : ∀ h ∈ hs, ∀ z e k n xs, s.C h = .arr z e k n xs → ∀ c off len g, V s (.sl c h n off len) g → xs.length = n) (hJ : ∀ b gs, s.J b = some gs → s'.J b = some gs)
    (hk : ∀ h ∈ hs, ∀ z e k n xs, s.C h = .arr z e k n xs → ∀ c off len g, V s (.sl c h n off len) g → VI s'.J (.ro false k len ((xs.drop off).take len)) g) :
    ∀ {x y : AV} {eq : List (Nat × Nat)} {g : Value}, lendA H hs x = some (y, eq) → (∀ e ∈ eq, e.1 = e.2) → V s x g → VI s'.J y g
  | .v x, y, eq, g, h, _, hv => by simp only [lendA, Option.some.injEq, Prod.mk.injEq] at h; obtain ⟨rfl, _⟩ := h; rw [hv.vE]; exact .v _
  | .flt b, y, eq, g, h, _, hv => by simp only [lendA, Option.some.injEq, Prod.mk.injEq] at h; obtain ⟨rfl, _⟩ := h; obtain ⟨c, rfl, rfl⟩ := hv.fltE; exact .flt
  | .ro c k n xs, y, eq, g, h, _, hv => by simp only [lendA, Option.some.injEq, Prod.mk.injEq] at h; obtain ⟨rfl, _⟩ := h; exact hv.roE.mono hJ
  | .ptr cs, y, eq, g, h, _, hv => by simp only [lendA, Option.some.injEq, Prod.mk.injEq] at h; obtain ⟨rfl, _⟩ := h; exact hv.ptrE.mono hJ
  | .sl c hh n off len, y, eq, g, h, he, hv => by
    simp only [lendA] at h
    obtain ⟨hm, h⟩ := condE' h
    have hm := memB_ok hm
    split at h
    · rename_i z te k n' xs hc
      have hCC := (hC hh hm).trans hc
      split at h
      · simp only [Option.some.injEq, Prod.mk.injEq] at h
        obtain ⟨rfl, rfl⟩ := h
        have hn := he _ (List.mem_singleton.2 rfl)
        simp only at hn; subst hn
        exact hk hh hm _ _ _ _ _ hCC _ _ _ _ hv
      · simp only [Option.some.injEq, Prod.mk.injEq] at h
        obtain ⟨rfl, rfl⟩ := h
        have q1 := he (n, n') (by simp)
        have q2 := he (off, 0) (by simp)
        have q3 := he (len, n) (by simp)
        simp only at q1 q2 q3
        subst q1 q2 q3
        have := hk hh hm _ _ _ _ _ hCC _ _ _ _ hv
        rwa [xs_full (hl hh hm _ _ _ _ _ hCC _ _ _ _ hv)] at this
    · cases h
  | .fn f fi ca, y, eq, g, h, he, hv => by
    simp only [lendA] at h
    split at h
    · rename_i fi' e1 h1
      split at h
      · rename_i ca' e2 h2
        simp only [Option.some.injEq, Prod.mk.injEq] at h
        obtain ⟨rfl, rfl⟩ := h
        obtain ⟨q1, q2⟩ := eqA he
        obtain ⟨gf, gc, rfl, l1, l2⟩ := hv.fnE
        have m1 := lendL_ok hC hl hJ hk h1 q1 l1
        have m2 := lendL_ok hC hl hJ hk h2 q2 l2
        exact .fn m1.1 m2.1 m1.2 m2.2
      · cases h
    · cases h
  | .agg cs, y, eq, g, h, he, hv => by
    simp only [lendA] at h
    split at h
    · rename_i cs' e h1
      simp only [Option.some.injEq, Prod.mk.injEq] at h
      obtain ⟨rfl, rfl⟩ := h
      obtain ⟨gs, rfl, l⟩ := hv.aggE
      have m := lendL_ok hC hl hJ hk h1 he l
      exact .agg m.1 m.2
    · cases h
  | .ref _ _, _, _, _, h, _, _ => by simp [lendA] at h
  | .el _ _ _ _, _, _, _, h, _, _ => by simp [lendA] at h
  | .mp _, _, _, _, h, _, _ => by simp [lendA] at h
  | .nd _ _, _, _, _, h, _, _ => by simp [lendA] at h
  | .tup _, _, _, _, h, _, _ => by simp [lendA] at h
  | .ifc _ _, _, _, _, h, _, _ => by simp [lendA] at h
theorem lendL_ok (hC : ∀ h ∈ hs, s.C h = hget H h) (hl : ∀ h ∈ hs, ∀ z e k n xs, s.C h = .arr z e k n xs → ∀ c off len g, V s (.sl c h n off len) g → xs.length = n) (hJ : ∀ b gs, s.J b = some gs → s'.J b = some gs)
    (hk : ∀ h ∈ hs, ∀ z e k n xs, s.C h = .arr z e k n xs → ∀ c off len g, V s (.sl c h n off len) g → VI s'.J (.ro false k len ((xs.drop off).take len)) g) :
    ∀ {xs ys : List AV} {eq : List (Nat × Nat)} {gs : List Value}, lendA.lendL H hs xs = some (ys, eq) → (∀ e ∈ eq, e.1 = e.2) → L2 (V s) xs gs → L2 (VI s'.J) ys gs
  | [], ys, eq, gs, h, _, hv => by
    simp only [lendA.lendL, Option.some.injEq, Prod.mk.injEq] at h
    obtain ⟨rfl, _⟩ := h
    exact ⟨hv.1, fun j y g a => by simp at a⟩
  | x :: r, ys, eq, gs, h, he, hv => by
    simp only [lendA.lendL] at h
    split at h
    · rename_i y e1 h1
      split at h
      · rename_i ys' e2 h2
        simp only [Option.some.injEq, Prod.mk.injEq] at h
        obtain ⟨rfl, rfl⟩ := h
        obtain ⟨q1, q2⟩ := eqA he
        obtain ⟨g, r', rfl, m1, m2⟩ := hv.uncons
        exact .cons (lendA_ok hC hl hJ hk h1 q1 m1) (lendL_ok hC hl hJ hk h2 q2 m2)
      · cases h
    · cases h
end
end
def scalA : AV → Bool
  | .v _ => true
  | .flt _ => true
  | .agg cs => scalL cs
  | .tup cs => scalL cs
  | _ => false
where
  scalL : List AV → Bool
  | [] => true
  | x :: r => scalA x && scalL r
mutual
theorem scal_ok {s s' : Ms} : ∀ {x : AV} {g : Value}, scalA x = true → V s x g → V s' x g
  | .v x, g, _, h => by rw [h.vE]; exact .im (.v _)
  | .flt b, g, _, h => by obtain ⟨c, rfl, rfl⟩ := h.fltE; exact .im .flt
  | .agg cs, g, k, h => by
    obtain ⟨gs, rfl, l⟩ := h.aggE
    have := scalL_ok (s' := s') (by simpa [scalA] using k) l
    exact .agg this.1 this.2
  | .tup cs, g, k, h => by
    obtain ⟨gs, rfl, l⟩ := h.tupE
    have := scalL_ok (s' := s') (by simpa [scalA] using k) l
    exact .tup this.1 this.2
  | .ro _ _ _ _, _, k, _ => by cases k
  | .ptr _, _, k, _ => by cases k
  | .ref _ _, _, k, _ => by cases k
  | .el _ _ _ _, _, k, _ => by cases k
  | .sl _ _ _ _ _, _, k, _ => by cases k
  | .mp _, _, k, _ => by cases k
  | .nd _ _, _, k, _ => by cases k
  | .fn _ _ _, _, k, _ => by cases k
  | .ifc _ _, _, k, _ => by cases k
theorem scalL_ok {s s' : Ms} : ∀ {cs : List AV} {gs : List Value}, scalA.scalL cs = true → L2 (V s) cs gs → L2 (V s') cs gs
  | [], gs, _, h => ⟨h.1, fun j y g a => by simp at a⟩
  | x :: r, gs, k, h => by
    simp only [scalA.scalL, Bool.and_eq_true] at k
    obtain ⟨g, r', rfl, h1, h2⟩ := h.uncons
    exact .cons (scal_ok k.1 h1) (scalL_ok k.2 h2)
end

section
variable {P : Program} {L : Fr} {H : List AO} {A : List (List AV)} {T : List (TE P)} {it : Option IK}
variable {dst : Option Tmp} {ty : TypeId} {pos : String} {af : Array Edge} {gd : Option (Nat × Bool)} {x y z : Operand} {q : Got}
def SimP (P : Program) (o : Oper) (L : Fr) (H : List AO) (A : List (List AV)) (E : Ef) : Prop :=
  ∀ s w a, Pre s w L H A o a E → ∀ (K : Act → World → Prop) (Q : Exit → Act → World → Prop), (∀ s' w' g, Post s w E s' w' g → Q (.panic [{ v := g, recovered := false }]) a w') → o.wp P a w K Q
def nodupB : List Nat → Bool
  | [] => true
  | a :: r => !(r.any (Nat.beq a)) && nodupB r
theorem nodupB_ok : ∀ {l : List Nat}, nodupB l = true → l.Nodup
  | [], _ => List.nodup_nil
  | a :: r, h => by
    simp only [nodupB, Bool.and_eq_true] at h
    refine List.nodup_cons.2 ⟨fun hm => ?_, nodupB_ok h.2⟩
    have : r.any (Nat.beq a) = true := List.any_eq_true.2 ⟨a, hm, Nat.beq_refl a⟩
    rw [this] at h; simp at h
def xCallG (P : Program) (H : List AO) (A : List (List AV)) (nd : Bool) (σ : List Nat) (o : Out) (f : Nat) (args : List AV) : Option (Bool × Got) := bif nodupB σ && σ.all (fun h => Nat.blt h H.length) then
    (match renL (hand σ nd) args with
    | some as => (match renOL (hand σ nd) (σ.map (hget H)) with
      | some Hc => (match o with
        | .ret v H1 A1 => bif Nat.ble σ.length H1.length then (match renOL (back (keys σ H.length H1.length) nd) H1 with
          | some os => (match ren (back (keys σ H.length H1.length) nd) v with
            | some v' => some (false, ⟨v', (keys σ H.length H1.length).zip os, bif nd then some A1 else none, σ, nd⟩, some (Ev P f as Hc (bif nd then A else []) o), [])
            | none => none)
          | none => none) else none
        | .pan v H1 A1 => bif Nat.ble σ.length H1.length then (match renOL (back (keys σ H.length H1.length) nd) H1 with
          | some os => (match ren (back (keys σ H.length H1.length) nd) v with
            | some v' => some (true, ⟨v', (keys σ H.length H1.length).zip os, bif nd then some A1 else none, σ, nd⟩, some (Ev P f as Hc (bif nd then A else []) o), [])
            | none => none)
          | none => none) else none)
      | none => none)
    | none => none) else none
def xCall (P : Program) (H : List AO) (A : List (List AV)) (it : Option IK) (f : Nat) (args : List AV) : Option (Bool × Got) := match it with
  | some (.call σ o) => xCallG P H A false σ o f args
  | some (.calln σ o) => xCallG P H A true σ o f args
  | _ => none
theorem mem_zip_fst {α β : Type} : ∀ {ks : List α} {os : List β} {p : α × β}, p ∈ ks.zip os → p.1 ∈ ks := fun h => (List.of_mem_zip h).1
theorem zip_fst {α β : Type} : ∀ {ks : List α} {os : List β}, os.length = ks.length → ∀ k ∈ ks, ∃ p ∈ ks.zip os, p.1 = k
  | [], _, _, k, h => by simp at h
  | a :: r, [], e, k, h => by simp at e
  | a :: r, o :: os, e, k, h => by
    rcases List.mem_cons.1 h with rfl | h
    · exact ⟨(k, o), by simp, rfl⟩
    · obtain ⟨p, h1, h2⟩ := zip_fst (os := os) (by simpa using e) k h
      exact ⟨p, by simp [h1], h2⟩
theorem call_main {f : Nat} {σ : List Nat} {args as : List AV} {Hc : List AO} {o : Out} {nd : Bool} (hn : nodupB σ = true) (hl : σ.all (fun h => Nat.blt h H.length) = true) (ha : renL (hand σ nd) args = some as)
    (hc : renOL (hand σ nd) (σ.map (hget H)) = some Hc) (hE : Ev P f as Hc (bif nd then A else []) o) {s : Ms} {w : World} {gs : List Value} (hW : Wd s w) (hA : nd = true → s.A = A) (hC : ∀ h ∈ σ, s.C h = hget H h) (hv : L2 (V s) args gs)
    {v v' : AV} {H1 os : List AO} {A1 : List (List AV)} (ho : o = .ret v H1 A1 ∨ o = .pan v H1 A1) (hm : Nat.ble σ.length H1.length = true) (hos : renOL (back (keys σ H.length H1.length) nd) H1 = some os)
    (hv' : ren (back (keys σ H.length H1.length) nd) v = some v') (hun : ∀ h ∈ keys σ H.length H1.length, H.length ≤ h → s.ρ h = .unborn) :
    RetP P f gs w (fun g w' => (∃ v H1 A1, o = .ret v H1 A1) ∧ ∃ s', Post s w ⟨v', (keys σ H.length H1.length).zip os, bif nd then some A1 else none, σ, nd⟩ s' w' g)
      (fun c w' => (∃ v H1 A1, o = .pan v H1 A1) ∧ ∃ s' g, c = [{ v := g, recovered := false }] ∧ Post s w ⟨v', (keys σ H.length H1.length).zip os, bif nd then some A1 else none, σ, nd⟩ s' w' g) := by
  have hnod := nodupB_ok hn
  have hlt : ∀ h ∈ σ, h < H.length := fun h hh => blt (List.all_eq_true.1 hl h hh)
  have hsee := callee_sees (nd := nd) hC hc
  have key : ∀ {s1 w' g}, Wd s1 w' → Stp (calleeS s σ nd Hc) w s1 w' → Is s1 H1 A1 → V s1 v g → ∃ s', Post s w ⟨v', (keys σ H.length H1.length).zip os, bif nd then some A1 else none, σ, nd⟩ s' w' g := by
    intro s1 w' g k1 k2 k3 k4
    obtain ⟨c1, c2, c3⟩ := caller_ok hW hnod hlt hC hc k1 k2 k3.C k3.b (Nat.le_of_ble_eq_true hm) hos hun
    refine ⟨_, c1, c2, fun h => rfl, by cases hn : nd <;> simp [callerS, hn, k3.A], fun h hh => ?_, k4.ren c3 hv'⟩
    have hlen : os.length = (keys σ H.length H1.length).length := by rw [(renOL_at hos).1, keys_len (Nat.le_of_ble_eq_true hm)]
    cases hp : posn (keys σ H.length H1.length) h with
    | none => simp [callerS, hp]
    | some i =>
      obtain ⟨p, p1, p2⟩ := zip_fst hlen h (List.mem_of_getElem? (posn_at hp))
      exact absurd p2 (hh p p1)
  refine (hE.2 (calleeS s σ nd Hc) w gs (callee_wd hW hnod hC hc) (by
    have := callee_is (s := s) (nd := nd) hc
    cases hn : nd
    · simpa [hn] using this
    · rw [← hA hn]; simpa [hn] using this) (hv.ren hsee ha)).mono ?_ ?_
  · rintro g w' ⟨v0, H0, A0, s1, e, k1, k2, k3, k4⟩
    rcases ho with rfl | rfl
    · injection e with e1 e2 e3; subst e1 e2 e3
      exact ⟨⟨_, _, _, rfl⟩, key k1 k2 k3 k4⟩
    · cases e
  · rintro c w' ⟨v0, H0, A0, s1, g, e, rfl, k1, k2, k3, k4⟩
    rcases ho with rfl | rfl
    · cases e
    · injection e with e1 e2 e3; subst e1 e2 e3
      obtain ⟨s', h⟩ := key k1 k2 k3 k4
      exact ⟨⟨_, _, _, rfl⟩, s', g, rfl, h⟩
theorem xCallG_ok {o : Oper} {f : Nat} {args : List AV} {b nd : Bool} {σ : List Nat} {out : Out} (h : xCallG P H A nd σ out f args = some (b, q)) (hq : okg q)
    (hx : ∀ s w a E, Pre s w L H A o a E → ∃ gs, L2 (V s) args gs ∧ ((∀ args w, (callFunc f args).run P w = .ok (.enter f args) w) → (execOp a.eval o).run P w = .ok (.enter f gs.toArray) w)) :
    (b = false → Sim P o L H A q.1) ∧ (b = true → SimP P o L H A q.1) := by
  unfold xCallG at h
  · obtain ⟨h1, h⟩ := condE' h
    simp only [Bool.and_eq_true] at h1
    split at h
    · rename_i as has
      split at h
      · rename_i Hc hHc
        cases out with
        | ret v H1 A1 =>
          obtain ⟨h2, h⟩ := condE' h
          split at h
          · rename_i os hos
            split at h
            · rename_i v' hv'
              cases h
              refine ⟨fun _ => ?_, fun e => by cases e⟩
              intro s w a hp K Q hk
              have hE := hq.1 _ rfl
              obtain ⟨gs, hgs, hrun⟩ := hx s w a _ hp
              unfold Oper.wp
              rw [hrun hE.1, Oper.upon_enter]
              have hlen : os.length = (keys σ H.length H1.length).length := by rw [(renOL_at hos).1, keys_len (Nat.le_of_ble_eq_true h2)]
              refine Calls.mono (call_main h1.1 h1.2 has hHc hE hp.wd (fun e => hp.ar (.inl e)) hp.fp hgs (.inl rfl) h2 hos hv' (fun h hh hl => by
                obtain ⟨p, p1, p2⟩ := zip_fst hlen h hh
                rw [← p2]; exact (hp.up p p1).2 (by rw [p2]; exact hl))) fun e w' he => ?_
              rcases he with ⟨g, rfl, _, s', hpost⟩ | ⟨c, rfl, ⟨_, _, _, e⟩, _⟩
              · exact hk _ _ _ hpost
              · cases e
            · cases h
          · cases h
        | pan v H1 A1 =>
          obtain ⟨h2, h⟩ := condE' h
          split at h
          · rename_i os hos
            split at h
            · rename_i v' hv'
              cases h
              refine ⟨fun e => (by cases e), fun _ => ?_⟩
              intro s w a hp K Q hk
              have hE := hq.1 _ rfl
              obtain ⟨gs, hgs, hrun⟩ := hx s w a _ hp
              unfold Oper.wp
              rw [hrun hE.1, Oper.upon_enter]
              have hlen : os.length = (keys σ H.length H1.length).length := by rw [(renOL_at hos).1, keys_len (Nat.le_of_ble_eq_true h2)]
              refine Calls.mono (call_main h1.1 h1.2 has hHc hE hp.wd (fun e => hp.ar (.inl e)) hp.fp hgs (.inr rfl) h2 hos hv' (fun h hh hl => by
                obtain ⟨p, p1, p2⟩ := zip_fst hlen h hh
                rw [← p2]; exact (hp.up p p1).2 (by rw [p2]; exact hl))) fun e w' he => ?_
              rcases he with ⟨g, rfl, ⟨_, _, _, e⟩, _⟩ | ⟨c, rfl, _, s', g, rfl, hpost⟩
              · cases e
              · exact hk _ _ _ hpost
            · cases h
          · cases h
      · cases h
    · cases h
theorem xCall_ok {o : Oper} {f : Nat} {args : List AV} {b : Bool} (h : xCall P H A it f args = some (b, q)) (hq : okg q)
    (hx : ∀ s w a E, Pre s w L H A o a E → ∃ gs, L2 (V s) args gs ∧ ((∀ args w, (callFunc f args).run P w = .ok (.enter f args) w) → (execOp a.eval o).run P w = .ok (.enter f gs.toArray) w)) :
    (b = false → Sim P o L H A q.1) ∧ (b = true → SimP P o L H A q.1) := by
  unfold xCall at h
  split at h
  · exact xCallG_ok h hq hx
  · exact xCallG_ok h hq hx
  · cases h
def xCallO (P : Program) (L : Fr) (H : List AO) (A : List (List AV)) (it : Option IK) (c : Operand) (xs : List Operand) : Option (Bool × Got) := match rdx L c with
  | some (.fn f [] ca) => (match rdL L xs with
    | some vs => xCall P H A it f (vs ++ ca)
    | none => none)
  | _ => none
theorem xCallO_ok {c : Operand} {xs : List Operand} {ts : Array TypeId} {b : Bool} (h : xCallO P L H A it c xs = some (b, q)) (hq : okg q) :
    (b = false → Sim P ⟨dst, .call { callee := .value c, args := xs.toArray, argTypes := ts }, ty, pos, af, gd⟩ L H A q.1) ∧
    (b = true → SimP P ⟨dst, .call { callee := .value c, args := xs.toArray, argTypes := ts }, ty, pos, af, gd⟩ L H A q.1) := by
  unfold xCallO at h
  split at h
  · rename_i f ca hc
    split at h
    · rename_i vs hvs
      refine xCall_ok h hq fun s w a E hp => ?_
      have hV := hp.get (x := c) (by simp [Op.operands, Call.operands]) hc
      obtain ⟨gf, gc, eg, l1, l2⟩ := hV.fnE
      have hgf : gf = [] := List.eq_nil_of_length_eq_zero (by rw [← l1.1]; rfl)
      subst hgf
      have k := rdL_ok (s := s) (a := a) hvs fun x hx y hy => hp.rd x (by simp [Op.operands, Call.operands, hx]) y hy
      refine ⟨xs.map a.eval ++ gc, k.app l2, fun hcf => ?_⟩
      simp only [execOp, resolve, List.map_toArray, eg]
      simp [Deferred.ofValue, Sem.run_bind, invoke, hcf]
    · cases h
  · cases h
def xPan (L : Fr) (x : Operand) : Option (Bool × Got) := match rdx L x with
  | some (.ifc t v) => some (true, got (.ifc t v))
  | _ => none
theorem xPan_ok {b : Bool} (h : xPan L x = some (b, q)) : (b = false → Sim P ⟨dst, .panic x, ty, pos, af, gd⟩ L H A q.1) ∧ (b = true → SimP P ⟨dst, .panic x, ty, pos, af, gd⟩ L H A q.1) := by
  unfold xPan at h
  split at h
  · rename_i t v hx
    cases h
    refine ⟨fun e => (by cases e), fun _ => ?_⟩
    intro s w a hp K Q hk
    have hV := hp.get (x := x) (by simp [Op.operands]) hx
    obtain ⟨u, eg, hu⟩ := hV.ifcE
    have hrun : (execOp a.eval ⟨dst, .panic x, ty, pos, af, gd⟩).run P w = .halt (.panic (.iface t u)) w := by
      simp only [execOp, eg]
      rfl
    unfold Oper.wp
    rw [hrun, Oper.upon_panic]
    exact hk s w _ (.pure hp.wd (.ifc hu))
  · cases h
end

def lift : Option Got → Option (Bool × Got)
  | some q => some (false, q)
  | none => none
theorem lift_ok {P : Program} {o : Oper} {L : Fr} {H : List AO} {A : List (List AV)} {r : Option Got} {b : Bool} {q : Got} (h : lift r = some (b, q)) (k : r = some q → Sim P o L H A q.1) :
    (b = false → Sim P o L H A q.1) ∧ (b = true → SimP P o L H A q.1) := by
  unfold lift at h
  split at h
  · cases h; exact ⟨fun _ => k rfl, fun e => by cases e⟩
  · cases h
def xBuiltin {P : Program} (T : List (TE P)) (L : Fr) (H : List AO) (it : Option IK) (b : Builtin) (xs : List Operand) (ts : List TypeId) : Option Got := match xs with
  | [x] => (match ts with
    | [t] => (match b with | .len => xLen L H T t x | .clear => xClr L H T it t x | _ => none)
    | _ => none)
  | [x, y] => (match b with
    | .append => (match ts with | [t, t'] => bif Nat.beq t t' then xAps L H T it t x y else none | _ => none)
    | b => xMM L b x y)
  | _ => none
def Ext (P : Program) (f : Nat) (args : List AV) (v : AV) : Prop := ∀ (s : Ms) (gs : List Value) (w : World), Wd s w → L2 (V s) args gs → ∃ g, (callFunc f gs.toArray).run P w = .ok (.value g) w ∧ V s v g
def ExM (P : Program) (f : Nat) : Prop := ∀ (t r : Nat) (es : Array MapEntry) (clock : Nat) (w : World), w.heap[r]? = some (.map es clock) → (callFunc f #[.iface t (.map (some r))]).run P w = .ok (.value (.iface t (.map (some w.heap.size)))) { w with heap := w.heap.push (.map es clock) }
def xCallE (P : Program) (L : Fr) (H : List AO) (A : List (List AV)) (it : Option IK) (c : Operand) (xs : List Operand) : Option (Bool × Got) := match it with
  | some (.ext v) => (match rdx L c with
    | some (.fn f [] ca) => (match rdL L xs with
      | some vs => some (false, got1 (v, some (Ext P f (vs ++ ca) v)))
      | none => none)
    | _ => none)
  | some .exm => (match rdx L c with
    | some (.fn f [] []) => (match xs with
      | [x] => (match rdx L x with
        | some (.ifc t (.mp h)) => (match hget H h with
          | .mp kk m => some (false, ⟨.ifc t (.mp H.length), [(H.length, .mp kk m)], none, [h], false⟩, some (ExM P f), [])
          | _ => none)
        | _ => none)
      | _ => none)
    | _ => none)
  | _ => xCallO P L H A it c xs
def xAlA {P : Program} (H : List AO) (A : List (List AV)) (T : List (TE P)) (it : Option IK) (t : Nat) : Option Got := match it with
  | some (.list n xs) => (match tget T t with
    | some e => (match e.d with
      | .array _ el => (match tget T el with
        | some e2 => bif onesA (zeroA e.zv) && !(Nat.beq e2.sz 0) && Nat.ble n 1000000 then
            some (⟨.el H.length n 0 0, [(H.length, .arr false t e2.sz n xs)], none, [], false⟩, some (xs.length = n ∧ (∀ x ∈ xs, x.length = e2.sz) ∧ xs.flatten = zeroA e.zv), []) else none
        | none => none)
      | _ => xAlloc H A T it t)
    | none => none)
  | _ => xAlloc H A T it t
def eqC (d : TypeDesc) : AV → AV → Option Bool
  | .v (.int k a), .v (.int k' b) => (match d with
    | .int _ => bif sameK k k' then some (a == b) else none
    | _ => none)
  | .v (.bool a), .v (.bool b) => (match d with
    | .bool => some (a == b)
    | _ => none)
  | .v (.string a), .v (.string b) => (match d with
    | .string => some (a.toList == b.toList)
    | _ => none)
  | _, _ => none
def eqF {P : Program} (T : List (TE P)) (cs ds : List AV) : List Field → Option Bool
  | [] => some true
  | f :: r => bif f.name == "_" then none else (match tget T f.type with
    | some e => (match cs[f.offset]? with
      | some x => (match ds[f.offset]? with
        | some y => (match eqC e.d x y with
          | some b => (match eqF T cs ds r with
            | some c => some (b && c)
            | none => none)
          | none => none)
        | none => none)
      | none => none)
    | none => none)
def xBinE (P : Program) (L : Fr) (H : List AO) (T : List (TE P)) (it : Option IK) (op : BinOp) (xt : Nat) (x y : Operand) : Option Got := match it with
  | some .eqs => (match rdx L x with
    | some (.agg cs) => (match rdx L y with
      | some (.agg ds) => (match tget T xt with
        | some e => (match e.d with
          | .struct fs => (match eqF T cs ds fs.toList with
            | some r => (match op with
              | .eql => some (got1 (.v (.bool r), some (P.stoodInHeld xt = false ∧ P.eqGuardType P.depth xt = false)))
              | .neq => some (got1 (.v (.bool (!r)), some (P.stoodInHeld xt = false ∧ P.eqGuardType P.depth xt = false)))
              | _ => none)
            | none => none)
          | _ => none)
        | none => none)
      | _ => none)
    | _ => none)
  | _ => xBin H L T op xt x y
def xMv (L : Fr) (H : List AO) (it : Option IK) (x : Operand) : Option Got := match it with
  | some (.nzm k) => (match rdx L x with
    | some (.v (.slice none 0 0)) => some (got1 (.ro false k 0 [], some True))
    | _ => none)
  | some (.nlm e k) => (match rdx L x with
    | some (.v (.slice none 0 0)) => some (⟨.sl 0 H.length 0 0 0, [(H.length, .arr true e k 0 [])], none, [], false⟩, some True, [])
    | _ => none)
  | some .nln => (match rdx L x with
    | some (.v (.pointer none)) => some (got1 (.nd none 0, some True))
    | _ => none)
  | _ => xMove L x
def xPk (L : Fr) (it : Option IK) (c x y : Operand) : Option Got := match it with
  | some (.pk d) => (match rdx L c with
    | some (.v (.bool b)) => (match rdx L (match d with | true => x | false => y) with
      | some v => some (got1 (v, some (b = d)))
      | none => none)
    | _ => none)
  | _ => xPick L c x y
def aop0 {P : Program} (T : List (TE P)) (L : Fr) (H : List AO) (A : List (List AV)) (it : Option IK) (op : Op) : Option (Bool × Got) := match op with
  | .move x => lift (xMv L H it x)
  | .assign x => lift (xMv L H it x)
  | .pick c x y => lift (xPk L it c x y)
  | .alloc t => lift (xAlA H A T it t)
  | .box _ x => lift (xBox L H A it x)
  | .build t ps => lift (xBuild L T t ps.toList)
  | .buildSlice t n ps => lift (xBuildS L H T t n ps.toList)
  | .load t x => lift (xLoad L H A T it t x)
  | .store t x y => lift (xStore L H A T it t x y)
  | .nilCheck x => lift (xNilCk L H it x)
  | .binOp o xt x y _ => lift (xBinE P L H T it o xt x y)
  | .unOp o _ x => lift (xUn L o x)
  | .convert s d x => lift (xConv L T s d x)
  | .makeInterface t x => lift (xMkI L T t x)
  | .typeAssert x _ t co => lift (xAss L T x t co)
  | .makeFunc f fi ca => lift (xMkF L f fi.toList ca.toList)
  | .makeMap t none => lift (xMkM H T t)
  | .makeSlice t x y => lift (xMkS L H T it t x y)
  | .slice t x lo hi mx => lift (xSl L H T it t x lo hi mx)
  | .fieldAddr t x f => lift (xFA L H T t x f)
  | .field t x f => lift (xField L T t x f)
  | .indexAddr t x y => lift (xIxA L H T it t x y)
  | .index t x y => lift (xIx L T it t x y)
  | .lookup t x y ok => lift (xLook L H T it t x y ok)
  | .mapUpdate t x y z => lift (xUpd L H T it t x y z)
  | .extract x i => lift (xExt L x i)
  | .call c => (match c.callee with
    | .value f => xCallE P L H A it f c.args.toList
    | .builtin b => lift (xBuiltin T L H it b c.args.toList c.argTypes.toList)
    | _ => none)
  | .panic x => xPan L x
  | _ => none
section
variable {P : Program} {L : Fr} {H : List AO} {A : List (List AV)} {T : List (TE P)} {it : Option IK}
variable {dst : Option Tmp} {ty : TypeId} {pos : String} {af : Array Edge} {gd : Option (Nat × Bool)} {x y z : Operand} {q : Got}
theorem xBuiltin_ok {b : Builtin} {xs : List Operand} {ts : List TypeId} (h : xBuiltin T L H it b xs ts = some q) (hq : okg q) :
    Sim P ⟨dst, .call { callee := .builtin b, args := xs.toArray, argTypes := ts.toArray }, ty, pos, af, gd⟩ L H A q.1 := by
  unfold xBuiltin at h
  split at h
  · rename_i x
    split at h
    · split at h
      · exact xLen_ok h hq
      · exact xClr_ok h hq
      · cases h
    · cases h
  · rename_i x y
    split at h
    · split at h
      · rename_i t t'
        have h0 := condE' h
        clear h
        obtain ⟨h1, h⟩ := h0
        have e := Nat.eq_of_beq_eq_true h1
        subst e
        exact xAps_ok h hq
      · cases h
    · exact xMM_ok h
  · cases h
theorem eqC_ok {s : Ms} {t : TypeId} {d : TypeDesc} {x y : AV} {g u : Value} {r : Bool} (hu : UT P t d) (h : eqC d x y = some r) (hx : V s x g) (hy : V s y u) : QE P t g u r := by
  unfold eqC at h
  split at h
  · split at h
    · have h0 := condE' h
      clear h
      obtain ⟨h1, h⟩ := h0
      cases h
      rw [hx.vE, hy.vE]
      rw [kn_inj h1]
      exact q_int (under_of hu)
    · cases h
  · split at h
    · cases h; rw [hx.vE, hy.vE]; exact q_bool (under_of hu)
    · cases h
  · split at h
    · cases h; rw [hx.vE, hy.vE]; exact q_str (under_of hu)
    · cases h
  · cases h
theorem eqF_ok {s : Ms} {cs ds : List AV} {gs us : List Value} (hx : L2 (V s) cs gs) (hy : L2 (V s) ds us) : ∀ {fs : List Field} {r : Bool}, eqF T cs ds fs = some r → Qf P gs.toArray us.toArray fs r
  | [], r, h => by cases h; exact q_nil
  | f :: fs, r, h => by
    simp only [eqF] at h
    cases hn : f.name == "_"
    · rw [hn] at h
      simp only [cond_false] at h
      split at h
      · rename_i e he
        split at h
        · rename_i x hcx
          split at h
          · rename_i y hcy
            split at h
            · rename_i b hb
              split at h
              · rename_i c hc
                cases h
                obtain ⟨g, hg, hv⟩ := hx.get hcx
                obtain ⟨u, hu, hw⟩ := hy.get hcy
                exact q_cons hn (by simpa using hg) (by simpa using hu) (eqC_ok (tget_u he) hb hv hw) (eqF_ok hx hy hc)
              · cases h
            · cases h
          · cases h
        · cases h
      · cases h
    · rw [hn] at h; cases h
theorem xBinE_ok {op : BinOp} {xt yt : Nat} (h : xBinE P L H T it op xt x y = some q) (hq : okg q) : Sim P ⟨dst, .binOp op xt x y yt, ty, pos, af, gd⟩ L H A q.1 := by
  unfold xBinE at h
  split at h
  · split at h
    · rename_i cs hx
      split at h
      · rename_i ds hy
        split at h
        · rename_i e he
          split at h
          · rename_i fs hfs
            have hu := tget_u he
            rw [hfs] at hu
            split at h
            · rename_i r hr
              have hP : P.underlying xt = some (.struct fs.toList.toArray) := by simpa using under_of hu
              cases op <;> first | (cases h; done) | skip
              · cases h
                obtain ⟨p1, p2⟩ := hq.1 _ rfl
                refine Sim.pure fun s w a hp => ?_
                obtain ⟨gs, e1, l1⟩ := (hp.get (x := x) (by simp [Op.operands]) hx).aggE
                obtain ⟨us, e2, l2⟩ := (hp.get (x := y) (by simp [Op.operands]) hy).aggE
                exact ⟨_, e_bin e1 e2 (r_eqs hP p1 p2 (eqF_ok l1 l2 hr)), .im (.v _)⟩
              · cases h
                obtain ⟨p1, p2⟩ := hq.1 _ rfl
                refine Sim.pure fun s w a hp => ?_
                obtain ⟨gs, e1, l1⟩ := (hp.get (x := x) (by simp [Op.operands]) hx).aggE
                obtain ⟨us, e2, l2⟩ := (hp.get (x := y) (by simp [Op.operands]) hy).aggE
                exact ⟨_, e_bin e1 e2 (r_nes hP p1 p2 (eqF_ok l1 l2 hr)), .im (.v _)⟩
            · cases h
          · cases h
        · cases h
      · cases h
    · cases h
  · exact xBin_ok h hq
theorem xCallE_ok {c : Operand} {xs : List Operand} {ts : Array TypeId} {b : Bool} (h : xCallE P L H A it c xs = some (b, q)) (hq : okg q) :
    (b = false → Sim P ⟨dst, .call { callee := .value c, args := xs.toArray, argTypes := ts }, ty, pos, af, gd⟩ L H A q.1) ∧
    (b = true → SimP P ⟨dst, .call { callee := .value c, args := xs.toArray, argTypes := ts }, ty, pos, af, gd⟩ L H A q.1) := by
  unfold xCallE at h
  split at h
  · split at h
    · rename_i f ca hc
      split at h
      · rename_i vs hvs
        cases h
        have hE : Ext P f (vs ++ ca) _ := hq.1 _ rfl
        refine ⟨fun _ => Sim.pure fun s w a hp => ?_, fun e => (by cases e)⟩
        have hV := hp.get (x := c) (by simp [Op.operands, Call.operands]) hc
        obtain ⟨gf, gc, eg, l1, l2⟩ := hV.fnE
        have hgf : gf = [] := List.eq_nil_of_length_eq_zero (by rw [← l1.1]; rfl)
        subst hgf
        have k := rdL_ok (s := s) (a := a) hvs fun x hx y hy => hp.rd x (by simp [Op.operands, Call.operands, hx]) y hy
        obtain ⟨g, hr, hv⟩ := hE s (xs.map a.eval ++ gc) w hp.wd (k.app l2)
        refine ⟨g, ?_, hv⟩
        simp only [execOp, resolve, List.map_toArray, eg]
        simp [Deferred.ofValue, Sem.run_bind, invoke, hr]
      · cases h
    · cases h
  · split at h
    · rename_i f hc
      split at h
      · rename_i x
        split at h
        · rename_i t0 hh hx
          split at h
          · rename_i kk m hm
            cases h
            have hE : ExM P f := hq.1 _ rfl
            refine ⟨fun _ => Sim.run fun s w a hp => ?_, fun e => (by cases e)⟩
            have hun := (hp.up _ (List.mem_singleton.2 rfl)).2 (Nat.le_refl _)
            have hV := hp.get (x := c) (by simp [Op.operands, Call.operands]) hc
            obtain ⟨gf, gc, eg, l1, l2⟩ := hV.fnE
            have hgf : gf = [] := List.eq_nil_of_length_eq_zero (by rw [← l1.1]; rfl)
            have hgc : gc = [] := List.eq_nil_of_length_eq_zero (by rw [← l2.1]; rfl)
            subst hgf hgc
            obtain ⟨u, eu, hu⟩ := (hp.get (x := x) (by simp [Op.operands, Call.operands]) hx).ifcE
            have hC := (hp.fp hh (by simp)).trans hm
            obtain ⟨b, sz, hr, rfl⟩ := hu.mpE hC
            obtain ⟨ob, ho, hO⟩ := hp.wd.obj _ _ _ hr
            rw [hC] at hO
            obtain ⟨es, ck, rfl, hent⟩ := hO
            have hres := Wd.new (sz := 0) (o := .mp kk m) (ob := .map es ck) hp.wd hun (fun s' hle => ⟨es, ck, rfl, hent.mono hle.J⟩)
            refine ⟨_, _, .iface t0 (.map (some w.heap.size)), ?_, Post.put rfl hres (.ifc (.mp put_ρ put_C))⟩
            simp only [execOp, resolve, List.map_toArray, eg]
            simp [Deferred.ofValue, Sem.run_bind, invoke, eu, hE t0 b es ck w ho]
          · cases h
        · cases h
      · cases h
    · cases h
  · exact xCallO_ok h hq
theorem flat_at {α : Type} {k : Nat} : ∀ {xs : List (List α)} {i j : Nat} {x : List α} {y : α}, (∀ x ∈ xs, x.length = k) → xs[i]? = some x → x[j]? = some y → xs.flatten[i * k + j]? = some y
  | [], i, j, x, y, _, h, _ => by simp at h
  | a :: r, 0, j, x, y, hk, h, hy => by
    simp only [List.getElem?_cons_zero, Option.some.injEq] at h
    subst h
    have hj := (List.getElem?_eq_some_iff.1 hy).1
    rw [Nat.zero_mul, Nat.zero_add, List.flatten_cons, List.getElem?_append_left hj]; exact hy
  | a :: r, i + 1, j, x, y, hk, h, hy => by
    have ha := hk a (by simp)
    have h' : r[i]? = some x := by simpa using h
    have := flat_at (fun x hx => hk x (List.mem_cons_of_mem _ hx)) h' hy
    rw [List.flatten_cons, List.getElem?_append_right (by rw [ha, Nat.succ_mul]; omega), ha, Nat.succ_mul, ← this]
    congr 1; omega
theorem flat_len {α : Type} {k : Nat} : ∀ {xs : List (List α)}, (∀ x ∈ xs, x.length = k) → xs.flatten.length = xs.length * k
  | [], _ => by simp
  | a :: r, hk => by
    rw [List.flatten_cons, List.length_append, hk a (by simp), flat_len (fun x hx => hk x (by simp [hx])), List.length_cons, Nat.succ_mul]; omega
theorem xAlA_ok {t : Nat} (h : xAlA H A T it t = some q) (hq : okg q) : Sim P ⟨dst, .alloc t, ty, pos, af, gd⟩ L H A q.1 := by
  unfold xAlA at h
  split at h
  · rename_i n xs
    split at h
    · rename_i e he
      split at h
      · split at h
        · rename_i e2 he2
          have h0 := condE' h
          clear h
          obtain ⟨h1, h⟩ := h0
          simp only [Bool.and_eq_true] at h1
          cases h
          obtain ⟨p1, p2, p3⟩ := hq.1 _ rfl
          refine Sim.run fun s w a hp => ?_
          have hun := (hp.up _ (List.mem_singleton.2 rfl)).2 (Nat.le_refl _)
          have hz := zeroA_ok s e.zv
          have hlen : e.zv.cells.toList.length = n * e2.sz := by rw [← hz.1, ← p3, flat_len p2, p1]
          have hk0 : 0 < e2.sz := by
            rcases Nat.eq_zero_or_pos e2.sz with e0 | e0
            · rw [e0] at h1; simp at h1
            · exact e0
          have hn := Nat.le_of_ble_eq_true h1.2
          have := Wd.new (sz := n * e2.sz) (o := .arr false t e2.sz n xs) (ob := .cells e.zv.cells.toList.toArray t (0, 0)) hp.wd hun fun s' hle =>
            ⟨e.zv.cells.toList, n, rfl, fun u hu => hz.ones h1.1.1 u (List.mem_of_mem_take hu), hlen, rfl, by simp only [maxLen]; omega, Nat.le_refl _, hk0, p1, fun i x hi => p2 x (List.mem_of_getElem? hi), fun i x j y g hi hj hg => by
              have e1 := flat_at p2 hi hj
              rw [p3] at e1
              exact (cstL s'.J _).2 _ _ _ e1 hg⟩
          have hv := V.el (s := s.put H.length (.at w.heap.size (n * e2.sz)) (.arr false t e2.sz n xs)) (h := H.length) (n := n) (j := 0) (r := 0) put_ρ put_C
          simp only [Nat.zero_mul, Nat.add_zero] at hv
          refine ⟨_, _, _, ?_, Post.put rfl this hv⟩
          simp only [execOp]
          simp [Instr.alloc, newVar, newRow, newObj, Sem.run_bind, Sem.run, tget_z he w]
        · cases h
      · exact xAlloc_ok h hq
    · cases h
  · exact xAlloc_ok h hq
theorem nl_post {s : Ms} {w : World} {n e k : Nat} (hW : Wd s w) (hun : s.ρ n = .unborn) : Post s w ⟨.sl 0 n 0 0 0, [(n, .arr true e k 0 [])], none, [], false⟩ (s.put n .nl (.arr true e k 0 [])) w (.slice none 0 0) :=
  Post.put rfl (Wd.put (r := .nl) (o := .arr true e k 0 []) (w' := w) hW (fun e => absurd hun e) rfl rfl rfl (Nat.le_refl _) (fun _ _ _ => rfl) (fun b sz e => by cases e) (fun b sz e => by cases e) (fun _ => ⟨e, k, rfl⟩)) (.sl0 put_ρ put_C)
theorem xMv_ok (h : xMv L H it x = some q) : Sim P ⟨dst, .move x, ty, pos, af, gd⟩ L H A q.1 ∧ Sim P ⟨dst, .assign x, ty, pos, af, gd⟩ L H A q.1 := by
  unfold xMv at h
  split at h
  · split at h
    · rename_i hx
      cases h
      exact ⟨Sim.pure fun s w a hp => ⟨_, e_move rfl, by rw [(hp.get (by simp [Op.operands]) hx).vE]; exact .im .nil0⟩, Sim.pure fun s w a hp => ⟨_, e_assign rfl, by rw [(hp.get (by simp [Op.operands]) hx).vE]; exact .im .nil0⟩⟩
    · cases h
  · split at h
    · rename_i e k hx
      cases h
      exact ⟨Sim.run fun s w a hp => ⟨_, _, _, e_move rfl, by rw [(hp.get (by simp [Op.operands]) hx).vE]; exact nl_post hp.wd ((hp.up _ (List.mem_singleton.2 rfl)).2 (Nat.le_refl _))⟩,
        Sim.run fun s w a hp => ⟨_, _, _, e_assign rfl, by rw [(hp.get (by simp [Op.operands]) hx).vE]; exact nl_post hp.wd ((hp.up _ (List.mem_singleton.2 rfl)).2 (Nat.le_refl _))⟩⟩
    · cases h
  · split at h
    · rename_i hx
      cases h
      exact ⟨Sim.pure fun s w a hp => ⟨_, e_move rfl, by rw [(hp.get (by simp [Op.operands]) hx).vE]; exact .nd0⟩, Sim.pure fun s w a hp => ⟨_, e_assign rfl, by rw [(hp.get (by simp [Op.operands]) hx).vE]; exact .nd0⟩⟩
    · cases h
  · exact ⟨xMove_ok h, xAssign_ok h⟩
theorem xPk_ok (h : xPk L it z x y = some q) (hq : okg q) : Sim P ⟨dst, .pick z x y, ty, pos, af, gd⟩ L H A q.1 := by
  unfold xPk at h
  split at h
  · rename_i d
    split at h
    · rename_i b hz
      split at h
      · rename_i v hv
        cases h
        have e : b = d := hq.1 _ rfl
        subst e
        refine Sim.pure fun s w a hp => ⟨bif b then a.eval x else a.eval y, ?_, ?_⟩
        · exact e_pick (hp.get (by simp [Op.operands]) hz).vE (fun e => rfl) (fun e => rfl) rfl
        · cases b
          · exact hp.get (by simp [Op.operands]) hv
          · exact hp.get (by simp [Op.operands]) hv
      · cases h
    · cases h
  · exact xPick_ok h
theorem aop0_ok {op : Op} {b : Bool} (h : aop0 T L H A it op = some (b, q)) (hq : okg q) : (b = false → Sim P ⟨dst, op, ty, pos, af, gd⟩ L H A q.1) ∧ (b = true → SimP P ⟨dst, op, ty, pos, af, gd⟩ L H A q.1) := by
  cases op <;> try (cases h; done)
  case move => exact lift_ok h fun h => (xMv_ok h).1
  case assign => exact lift_ok h fun h => (xMv_ok h).2
  case pick => exact lift_ok h fun h => xPk_ok h hq
  case alloc => exact lift_ok h fun h => xAlA_ok h hq
  case box => exact lift_ok h fun h => xBox_ok h hq
  case build t ps => exact lift_ok h fun h => by have := xBuild_ok (dst := dst) (ty := ty) (pos := pos) (af := af) (gd := gd) (H := H) (A := A) h; simpa using this
  case buildSlice t n ps => exact lift_ok h fun h => by have := xBuildS_ok (dst := dst) (ty := ty) (pos := pos) (af := af) (gd := gd) (A := A) h; simpa using this
  case load => exact lift_ok h fun h => xLoad_ok h hq
  case store => exact lift_ok h fun h => xStore_ok h hq
  case nilCheck => exact lift_ok h fun h => xNilCk_ok h hq
  case binOp => exact lift_ok h fun h => xBinE_ok h hq
  case unOp => exact lift_ok h fun h => xUn_ok h
  case convert => exact lift_ok h fun h => xConv_ok h
  case makeInterface => exact lift_ok h fun h => xMkI_ok h
  case typeAssert x xt t co => exact lift_ok h fun h => xAss_ok h
  case makeFunc f fi ca => exact lift_ok h fun h => by have := xMkF_ok (P := P) (dst := dst) (ty := ty) (pos := pos) (af := af) (gd := gd) (H := H) (A := A) h; simpa using this
  case makeMap t r =>
    cases r with
    | none => exact lift_ok h fun h => xMkM_ok h
    | some r => cases h
  case makeSlice => exact lift_ok h fun h => xMkS_ok h hq
  case slice => exact lift_ok h fun h => xSl_ok h hq
  case fieldAddr => exact lift_ok h fun h => xFA_ok h hq
  case field => exact lift_ok h fun h => xField_ok h
  case indexAddr => exact lift_ok h fun h => xIxA_ok h hq
  case index => exact lift_ok h fun h => xIx_ok h hq
  case lookup => exact lift_ok h fun h => xLook_ok h hq
  case mapUpdate => exact lift_ok h fun h => xUpd_ok h hq
  case extract => exact lift_ok h fun h => xExt_ok h
  case call c =>
    obtain ⟨cal, args, ats⟩ := c
    cases cal with
    | value f => have := xCallE_ok (dst := dst) (ty := ty) (pos := pos) (af := af) (gd := gd) (A := A) (ts := ats) h hq; simpa using this
    | invoke r m => cases h
    | builtin bb => exact lift_ok h fun h => by have := xBuiltin_ok (dst := dst) (ty := ty) (pos := pos) (af := af) (gd := gd) (A := A) h hq; simpa using this
  case panic => exact xPan_ok h
def nilB : AV → Bool
  | .v (.slice none 0 0) => true
  | _ => false
theorem nilB_e {x : AV} (h : nilB x = true) : x = .v (.slice none 0 0) := by
  unfold nilB at h
  split at h
  · rfl
  · cases h
def nzC : List (Nat × Nat) → List AV → Option (List AV)
  | [], cs => some cs
  | (i, k) :: r, cs => (match cs[i]? with
    | some x => bif nilB x then nzC r (cs.set i (.ro false k 0 [])) else none
    | none => none)
def nzG (is : List (Nat × Nat)) (v : AV) : Option AV := match v with
  | .agg cs => (match nzC is cs with
    | some ds => some (.agg ds)
    | none => none)
  | _ => none
theorem nzC_ok {s : Ms} : ∀ {is : List (Nat × Nat)} {cs ds : List AV} {gs : List Value}, nzC is cs = some ds → L2 (V s) cs gs → L2 (V s) ds gs
  | [], cs, ds, gs, h, hv => by cases h; exact hv
  | (i, k) :: r, cs, ds, gs, h, hv => by
    simp only [nzC] at h
    split at h
    · rename_i x hx
      have h0 := condE' h
      clear h
      obtain ⟨h1, h⟩ := h0
      refine nzC_ok h ⟨by rw [List.length_set]; exact hv.1, fun j y g hj hg => ?_⟩
      by_cases e : i = j
      · subst e
        rw [List.getElem?_set_self (List.getElem?_eq_some_iff.1 hx).1] at hj
        cases hj
        have := hv.2 _ _ _ hx hg
        rw [nilB_e h1] at this
        rw [this.vE]; exact .im .nil0
      · rw [List.getElem?_set_ne e] at hj
        exact hv.2 _ _ _ hj hg
    · cases h
theorem nzG_ok {s : Ms} {is : List (Nat × Nat)} {v v' : AV} {g : Value} (h : nzG is v = some v') (hv : V s v g) : V s v' g := by
  unfold nzG at h
  split at h
  · split at h
    · rename_i ds hd
      cases h
      obtain ⟨gs, rfl, hl⟩ := hv.aggE
      have := nzC_ok hd hl
      exact .agg this.1 this.2
    · cases h
  · cases h
def hdl : AV → Option Nat
  | .ref h _ => some h
  | .el h _ _ _ => some h
  | .sl _ h _ _ _ => some h
  | .mp h => some h
  | _ => none
def isH (k : Nat) (x : AV) : Bool := match hdl x with
  | some h => Nat.beq h k
  | none => false
theorem isH_born {s : Ms} {x : AV} {g : Value} {k : Nat} (hv : V s x g) (h : isH k x = true) : s.ρ k ≠ .unborn := by
  unfold isH at h
  split at h
  · rename_i j hj
    have := Nat.eq_of_beq_eq_true h
    subst this
    cases hv with
    | im hi => cases hi <;> cases hj
    | ref hr => cases hj; rw [hr]; simp
    | refd hr => cases hj; exact hr
    | sl hr => cases hj; rw [hr]; simp
    | sl0 hr => cases hj; rw [hr]; simp
    | sls _ hr => cases hj; exact hr
    | el hr => cases hj; rw [hr]; simp
    | els _ hr => cases hj; exact hr
    | mp hr => cases hj; rw [hr]; simp
    | mpd _ hr => cases hj; exact hr
    | nd => cases hj
    | nd0 => cases hj
    | agg => cases hj
    | tup => cases hj
    | fn => cases hj
    | ifc => cases hj
  · cases h
def segH (k : Nat) : List Sg → Bool
  | [] => false
  | .c x :: r => isH k x || segH k r
  | .a _ _ _ :: r => segH k r
theorem segH_born {s : Ms} {k : Nat} : ∀ {ss : List Sg} {gs : List Value}, SegR s ss gs → segH k ss = true → s.ρ k ≠ .unborn
  | [], gs, _, h => by cases h
  | .c x :: r, gs, ⟨g, t, e, hv, hr⟩, h => by
    rcases Bool.or_eq_true_iff.1 h with h | h
    · exact isH_born hv h
    · exact segH_born hr h
  | .a _ _ _ :: r, gs, ⟨us, t, e, ha, hr⟩, h => segH_born hr h
def bornV (H : List AO) (fp : List Nat) (k : Nat) (x : AV) : Bool := isH k x || (match x with
  | .ref j _ => memN0 fp j && (match hget H j with
    | .box cs => cs.any (isH k)
    | .seg ss => segH k ss
    | _ => false)
  | _ => false)
where
  memN0 (l : List Nat) (a : Nat) : Bool := l.any (Nat.beq a)
theorem memN0_ok {l : List Nat} {a : Nat} (h : bornV.memN0 l a = true) : a ∈ l := by
  obtain ⟨x, hx, e⟩ := List.any_eq_true.1 h
  rw [Nat.eq_of_beq_eq_true e]; exact hx
theorem bornV_ok {s : Ms} {w : World} {H : List AO} {fp : List Nat} {k : Nat} {x : AV} {g : Value} (hW : Wd s w) (hv : V s x g) (hf : ∀ h ∈ fp, s.C h = hget H h) (h : bornV H fp k x = true) : s.ρ k ≠ .unborn := by
  unfold bornV at h
  replace h := Bool.or_eq_true_iff.1 h
  rcases h with h | h
  · exact isH_born hv h
  · cases x <;> try (cases h; done)
    · rename_i j off
      simp only [Bool.and_eq_true] at h
      have hC := hf j (memN0_ok h.1)
      have h2 := h.2
      split at h2
      · rename_i cs hc
        obtain ⟨b, sz, hr, _⟩ := hv.refE (hC.trans hc)
        obtain ⟨o, _, hO⟩ := hW.obj _ _ _ hr
        rw [hC, hc] at hO
        obtain ⟨gs, e, _, _, _, hl⟩ := hO
        obtain ⟨c, hm, hk⟩ := List.any_eq_true.1 h2
        obtain ⟨i, hi⟩ := List.getElem?_of_mem hm
        obtain ⟨u, _, hu⟩ := hl.get hi
        exact isH_born hu hk
      · rename_i ss hc
        obtain ⟨b, sz, hr, _⟩ := hv.refB (by rw [hC, hc]; rfl)
        obtain ⟨o, _, hO⟩ := hW.obj _ _ _ hr
        rw [hC, hc] at hO
        obtain ⟨gs, e, _, _, _, hl⟩ := hO
        exact segH_born hl h2
      · cases h2
def isDd : AO → Bool
  | .dead => true
  | _ => false
def keepB (L : Fr) (H : List AO) (E : Ef) (xs : List Operand) (ks : List Nat) : Bool := ks.all fun k => Nat.blt k H.length && bornV.memN0 E.fp k && !(isDd (hget H k)) && xs.any fun x => match rdx L x with
  | some v => bornV H E.fp k v
  | none => false
def keepE (E : Ef) (ks : List Nat) : Ef := ⟨E.val, E.upd.filter fun p => !(bornV.memN0 ks p.1), E.ar, E.fp, E.fa⟩
def keepP (H : List AO) (E : Ef) (ks : List Nat) : Prop := (E.upd.filter fun p => bornV.memN0 ks p.1).map (·.2) = (E.upd.filter fun p => bornV.memN0 ks p.1).map fun p => hget H p.1
theorem keepP_at {H : List AO} {ks : List Nat} : ∀ {u : List (Nat × AO)}, (u.filter fun p => bornV.memN0 ks p.1).map (·.2) = ((u.filter fun p => bornV.memN0 ks p.1).map fun p => hget H p.1) → ∀ p ∈ u, bornV.memN0 ks p.1 = true → p.2 = hget H p.1 := by
  intro u h p hp hk
  have hm : p ∈ u.filter fun p => bornV.memN0 ks p.1 := List.mem_filter.2 ⟨hp, hk⟩
  obtain ⟨i, hi⟩ := List.getElem?_of_mem hm
  have e1 := congrArg (fun l => l[i]?) h
  simp only [List.getElem?_map, hi, Option.map_some, Option.some.injEq] at e1
  exact e1
theorem upC_keep {ks : List Nat} {H : List AO} : ∀ {u : List (Nat × AO)} {C : Nat → AO}, (∀ p ∈ u, bornV.memN0 ks p.1 = true → p.2 = hget H p.1) → (∀ p ∈ u, bornV.memN0 ks p.1 = true → C p.1 = hget H p.1) → ∀ h, upC C u h = upC C (u.filter fun p => !(bornV.memN0 ks p.1)) h
  | [], C, _, _, h => rfl
  | p :: r, C, h1, h2, h => by
    rw [List.filter_cons]
    cases hk : bornV.memN0 ks p.1
    · simp only [Bool.not_false, if_true, upC]
      refine upC_keep (fun q hq => h1 q (List.mem_cons_of_mem _ hq)) (fun q hq e => ?_) h
      have hne : Nat.beq q.1 p.1 = false := by
        cases hb : Nat.beq q.1 p.1
        · rfl
        · rw [Nat.eq_of_beq_eq_true hb] at e; rw [e] at hk; cases hk
      rw [hne]
      exact h2 q (List.mem_cons_of_mem _ hq) e
    · simp only [Bool.not_true, Bool.false_eq_true, if_false, upC]
      have e1 := h1 p (List.mem_cons_self ..) hk
      have e2 := h2 p (List.mem_cons_self ..) hk
      have e3 : (fun k => bif Nat.beq k p.1 then p.2 else C k) = C := by
        funext k
        cases hb : Nat.beq k p.1
        · rfl
        · rw [Nat.eq_of_beq_eq_true hb, e1, e2]; rfl
      rw [e3]
      exact upC_keep (fun q hq => h1 q (List.mem_cons_of_mem _ hq)) (fun q hq e => h2 q (List.mem_cons_of_mem _ hq) e) h
theorem upC_out {C : Nat → AO} : ∀ {u : List (Nat × AO)} {h : Nat}, (∀ p ∈ u, p.1 ≠ h) → upC C u h = C h
  | [], h, k => rfl
  | p :: r, h, k => by
    simp only [upC]
    rw [upC_out (fun q hq => k q (by simp [hq]))]
    have : Nat.beq h p.1 = false := by
      cases hb : Nat.beq h p.1
      · rfl
      · exact absurd (Nat.eq_of_beq_eq_true hb).symm (k p (by simp))
    simp [this]

theorem keep_pre {o : Oper} {E : Ef} {ks : List Nat} {s : Ms} {w : World} {a : Act} (hB : keepB L H E o.op.operands.toList ks = true) (hp : Pre s w L H A o a (keepE E ks)) : Pre s w L H A o a E := by
  refine ⟨hp.wd, hp.rd, hp.fp, fun p hm => ?_, hp.ar⟩
  cases hk : bornV.memN0 ks p.1
  · exact hp.up p (List.mem_filter.2 ⟨hm, by simp [hk]⟩)
  · have := List.all_eq_true.1 hB p.1 (memN0_ok hk)
    simp only [Bool.and_eq_true] at this
    have hl : p.1 < H.length := nblt0 this.1.1.1
    exact ⟨fun _ => hp.fp _ (memN0_ok this.1.1.2), fun h => by omega⟩
theorem keep_post {o : Oper} {E : Ef} {ks : List Nat} {s s' : Ms} {w w' : World} {a : Act} {g : Value} (hB : keepB L H E o.op.operands.toList ks = true) (hP : keepP H E ks) (hp : Pre s w L H A o a (keepE E ks)) (hq : Post s w E s' w' g) : Post s w (keepE E ks) s' w' g := by
  have hB' := fun k hk => List.all_eq_true.1 hB k hk
  have hC : ∀ h, s'.C h = upC s.C (E.upd.filter fun p => !(bornV.memN0 ks p.1)) h := by
    intro h
    rw [hq.C h]
    refine upC_keep (keepP_at hP) (fun p hm hk => ?_) h
    have := hB' p.1 (memN0_ok hk)
    simp only [Bool.and_eq_true] at this
    exact hp.fp _ (memN0_ok this.1.1.2)
  refine ⟨hq.wd, hq.stp, hC, hq.A, fun h hh => ?_, hq.val⟩
  by_cases hx : ∃ p ∈ E.upd, p.1 = h
  · obtain ⟨p, hm, rfl⟩ := hx
    have hk : bornV.memN0 ks p.1 = true := by
      cases hk : bornV.memN0 ks p.1
      · exact absurd rfl (hh p (List.mem_filter.2 ⟨hm, by simp [hk]⟩))
      · rfl
    have := hB' p.1 (memN0_ok hk)
    simp only [Bool.and_eq_true] at this
    obtain ⟨⟨⟨b1, b2⟩, b3⟩, b4⟩ := this
    have hCs := hp.fp _ (memN0_ok b2)
    have hCs' : s'.C p.1 = s.C p.1 := (hC p.1).trans (upC_out hh)
    have hborn : s.ρ p.1 ≠ .unborn := by
      obtain ⟨x, hx1, hx2⟩ := List.any_eq_true.1 b4
      split at hx2
      · rename_i v hv
        exact bornV_ok hp.wd (hp.rd x hx1 v hv) hp.fp hx2
      · cases hx2
    cases hq.stp.le.f p.1 hborn with
    | same h1 h2 => exact h1
    | died h1 h2 => rw [hCs', hCs] at h2; rw [h2] at b3; cases b3
    | grew h1 h2 h3 => rw [hCs', h1] at h2; injection h2 with _ _ _ e; omega
  · exact hq.ρ h fun p hm e => hx ⟨p, hm, e⟩
def aop {P : Program} (T : List (TE P)) (L : Fr) (H : List AO) (A : List (List AV)) (it : Option IK) (op : Op) : Option (Bool × Got) := match it with
  | some (.nzb is) => (match aop0 T L H A none op with
    | some (false, (E, none, eq)) => (match nzG is E.val with
      | some v => some (false, (⟨v, E.upd, E.ar, E.fp, E.fa⟩, some True, eq))
      | none => none)
    | _ => none)
  | some (.kp ks i) => (match aop0 T L H A (some i) op with
    | some (b, (E, some p, eq)) => bif keepB L H E op.operands.toList ks then some (b, (keepE E ks, some (p ∧ keepP H E ks), eq)) else none
    | r => r)
  | _ => aop0 T L H A it op
theorem aop_ok {op : Op} {b : Bool} (h : aop T L H A it op = some (b, q)) (hq : okg q) : (b = false → Sim P ⟨dst, op, ty, pos, af, gd⟩ L H A q.1) ∧ (b = true → SimP P ⟨dst, op, ty, pos, af, gd⟩ L H A q.1) := by
  unfold aop at h
  split at h
  · split at h
    · rename_i E eq h1
      split at h
      · rename_i v hv
        cases h
        have := (aop0_ok (dst := dst) (ty := ty) (pos := pos) (af := af) (gd := gd) h1 ⟨fun q e => (by cases e), hq.2⟩).1 rfl
        refine ⟨fun _ => ?_, fun e => (by cases e)⟩
        intro s w a hp K Q hk
        refine this s w a ⟨hp.wd, hp.rd, hp.fp, hp.up, hp.ar⟩ K Q fun s' w' g hpo => hk s' w' g ⟨hpo.wd, hpo.stp, hpo.C, hpo.A, hpo.ρ, nzG_ok hv hpo.val⟩
      · cases h
    · cases h
  · split at h
    · rename_i b0 E p eq h1
      have h0 := condE' h
      clear h
      obtain ⟨hB, h⟩ := h0
      cases h
      have hp := hq.1 _ rfl
      have := aop0_ok (dst := dst) (ty := ty) (pos := pos) (af := af) (gd := gd) h1 ⟨fun q e => (by cases e; exact hp.1), hq.2⟩
      refine ⟨fun e => ?_, fun e => ?_⟩
      · intro s w a hpre K Q hk
        exact this.1 e s w a (keep_pre (o := ⟨dst, op, ty, pos, af, gd⟩) hB hpre) K Q fun s' w' g hpo => hk s' w' g (keep_post (o := ⟨dst, op, ty, pos, af, gd⟩) hB hp.2 hpre hpo)
      · intro s w a hpre K Q hk
        exact this.2 e s w a (keep_pre (o := ⟨dst, op, ty, pos, af, gd⟩) hB hpre) K Q fun s' w' g hpo => hk s' w' g (keep_post (o := ⟨dst, op, ty, pos, af, gd⟩) hB hp.2 hpre hpo)
    · exact aop0_ok h hq
  · exact aop0_ok h hq
end
end Go.Proofs.Ytbdbmklkgjbehaa.X
