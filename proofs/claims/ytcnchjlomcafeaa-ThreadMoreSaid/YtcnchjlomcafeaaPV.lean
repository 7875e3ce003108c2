/- Chapter 16: with more answers, and with more code. -/
import Derived.Test.YtcnchjlomcafeaaPU
set_option linter.unusedVariables false
set_option linter.unusedSimpArgs false
namespace Go.Proofs.Ytcnchjlomcafeaa.W
open Go Go.RowKit Go.Proofs.Ytcnchjlomcafeaa.B

/-- The same state of other code, with more answers. -/
def tr (c : List api_Inst) (m : List Int) (t : Thr) : Thr := { t with code := c, answers := t.answers ++ m }
def Sim (c : List api_Inst) (m : List Int) : Eff → Eff → Prop
  | .inl q, e => (q.1 = 4 ∧ m ≠ []) ∨ e = .inl (q.1, tr c m q.2)
  | .inr q, e => e = .inr (q.1, tr c m q.2)
theorem ifS {d : Prop} [Decidable d] {c : List api_Inst} {m : List Int} {a b a' b' : Eff} (h1 : d → Sim c m a a') (h2 : ¬ d → Sim c m b b') : Sim c m (if d then a else b) (if d then a' else b') := by
  split
  · exact h1 ‹_›
  · exact h2 ‹_›
section
variable {c : List api_Inst} {m : List Int}
theorem simN {t u : Thr} {d : Int} (h : u = tr c m t) : Sim c m (.inr (d, t)) (.inr (d, u)) := by subst h; rfl
theorem simP {t u : Thr} {d : Int} (h : u = tr c m t) : Sim c m (.inl (d, t)) (.inl (d, u)) := by subst h; exact .inr rfl
theorem tel_tr (t : Thr) (e : api_Event) : tel (tr c m t) e = match tel t e with | .inl q => .inl (q.1, tr c m q.2) | .inr u => .inr (tr c m u) := by
  unfold tel
  show (if t.out.length = 64 then _ else _) = _
  split <;> rfl
theorem telS (t : Thr) (e : api_Event) (f' f : Thr → Thr) (hf : ∀ u, f' (tr c m u) = tr c m (f u)) :
    Sim c m (match tel t e with | .inl q => .inl q | .inr u => .inr (1, f u)) (match tel (tr c m t) e with | .inl q => .inl q | .inr u => .inr (1, f' u)) := by
  rw [tel_tr]
  cases tel t e with
  | inl q => exact .inr rfl
  | inr u => exact simN (hf u)
theorem says_sim (t : Thr) (e : api_Event) (f : Thr → Thr) (hf : ∀ u, f (tr c m u) = tr c m (f u)) : Sim c m (says t e f) (says (tr c m t) e f) := by
  unfold says
  rw [tel_tr]
  cases tel t e with
  | inl q => exact .inr rfl
  | inr u => exact simN (hf u)
theorem lod_sim (t : Thr) (x : api_Inst) (a : thread_cell) : Sim c m (lod t x a) (lod (tr c m t) x a) := by
  unfold lod
  show Sim c m _ (match plc t.locs t.base a.n with | none => _ | some p => _)
  cases plc t.locs t.base a.n with
  | none => exact simP rfl
  | some p =>
    simp only []
    refine ifS (fun _ => simN rfl) fun _ => ?_
    have ha : (tr c m t).answers = t.answers ++ m := rfl
    rw [ha]
    cases hh : t.answers with
    | nil =>
      simp only [List.nil_append]
      cases hm : m with
      | nil => exact simP (by simp [tr])
      | cons n r => exact .inl ⟨rfl, by simp⟩
    | cons n r =>
      simp only [List.cons_append]
      rw [tel_tr]
      cases tel t _ with
      | inl q => exact .inr rfl
      | inr u => exact simN rfl
theorem sto_sim (t : Thr) (x : api_Inst) (a : thread_cell) : Sim c m (sto t x a) (sto (tr c m t) x a) := by
  unfold sto
  show Sim c m _ (match plc t.locs t.base a.n with | none => _ | some p => _)
  cases plc t.locs t.base a.n with
  | none => exact simP rfl
  | some p =>
    simp only []
    refine ifS (fun _ => ?_) fun _ => ?_
    · show Sim c m _ (if p ≥ 0 ∧ p = t.hold then _ else _)
      refine ifS (fun _ => ?_) fun _ => simN rfl
      exact telS t _ _ (fun u : Thr => { u with less := false, same := true, held := 0, hold := -1 }) (fun u => rfl)
    · refine ifS (fun _ => simN rfl) fun _ => ?_
      exact telS t _ _ (fun u : Thr => u) (fun u => rfl)
theorem cal_sim (t : Thr) : Sim c m (cal t) (cal (tr c m t)) := by
  unfold cal
  show Sim c m _ (if (vg t.regs 0).n = 0 then _ else if (vg t.regs 0).n = 1 then _ else if (vg t.regs 0).n = 2 then _ else if (vg t.regs 0).n = 3 then _ else _)
  refine ifS (fun _ => simP rfl) fun _ => ifS (fun _ => says_sim t _ id fun _ => rfl) fun _ => ifS (fun _ => simP rfl) fun _ => ifS (fun _ => simP rfl) fun _ => simP rfl
theorem cstep_sim (t : Thr) (x : api_Inst) : Sim c m (cstep t x) (cstep (tr c m t) x) := by
  unfold cstep
  iterate 11 (refine ifS (fun _ => simN rfl) fun _ => ?_)
  refine ifS (fun _ => lod_sim t x _) fun _ => ?_
  refine ifS (fun _ => sto_sim t x _) fun _ => ?_
  refine ifS (fun _ => lod_sim t x _) fun _ => ?_
  refine ifS (fun _ => sto_sim t x _) fun _ => ?_
  refine ifS (fun _ => simN rfl) fun _ => ?_
  refine ifS (fun _ => simN rfl) fun _ => ?_
  refine ifS (fun _ => says_sim t _ id fun _ => rfl) fun _ => ?_
  refine ifS (fun _ => says_sim t _ id fun _ => rfl) fun _ => ?_
  refine ifS (fun _ => says_sim t _ _ fun _ => rfl) fun _ => ?_
  exact cal_sim t
end
/-- What gives up leaves the state. -/
def Stay (t : Thr) : Eff → Prop
  | .inl q => q.2 = t
  | .inr _ => True
theorem ifT {d : Prop} [Decidable d] {t : Thr} {a b : Eff} (h1 : Stay t a) (h2 : Stay t b) : Stay t (if d then a else b) := by split <;> assumption
theorem says_stay (t : Thr) (e : api_Event) (f : Thr → Thr) : Stay t (says t e f) := by
  unfold says
  cases h : tel t e with
  | inl q => rw [tel_stop h]; exact rfl
  | inr u => trivial
theorem lod_stay (t : Thr) (x : api_Inst) (a : thread_cell) : Stay t (lod t x a) := by
  unfold lod
  split
  · exact rfl
  refine ifT trivial ?_
  split
  · exact rfl
  split
  · rename_i h; rw [tel_stop h]; exact rfl
  · trivial
theorem sto_stay (t : Thr) (x : api_Inst) (a : thread_cell) : Stay t (sto t x a) := by
  unfold sto
  split
  · exact rfl
  refine ifT (ifT ?_ trivial) (ifT trivial ?_)
  · split
    · rename_i h; rw [tel_stop h]; exact rfl
    · trivial
  · split
    · rename_i h; rw [tel_stop h]; exact rfl
    · trivial
theorem cstep_stay (t : Thr) (x : api_Inst) : Stay t (cstep t x) := by
  unfold cstep
  iterate 11 (refine ifT trivial ?_)
  refine ifT (lod_stay t x _) <| ifT (sto_stay t x _) <| ifT (lod_stay t x _) <| ifT (sto_stay t x _) <| ifT trivial <| ifT trivial <| ifT (says_stay t _ _) <| ifT (says_stay t _ _) <| ifT (says_stay t _ _) ?_
  unfold cal
  exact ifT rfl <| ifT (says_stay t _ _) <| ifT rfl <| ifT rfl rfl
theorem cgo_pre (code : List api_Inst) (hc : code.all enc0 = true) : ∀ (k : Nat) (t : Thr) (i : Int), t.out.length ≤ 64 → ∃ l, (cgo code k t i).Events = t.out ++ l := by
  intro k
  induction k with
  | zero => intro t i h; exact ⟨[], by simp [cgo]⟩
  | succ k ih =>
    intro t i h
    unfold cgo
    split
    · exact ⟨[], by simp⟩
    · rename_i hi
      have hf := cstep_fwd t (gi code i) h (enc0_ok (all_gi.1 hc i (by omega) (by omega)))
      cases hq : cstep t (gi code i) with
      | inl q => rw [hq] at hf; exact hf.1.out
      | inr q =>
        rw [hq] at hf
        obtain ⟨l1, h1⟩ := hf.1.out
        obtain ⟨l2, h2⟩ := ih q.2 (i + q.1) hf.1.len
        exact ⟨l1 ++ l2, by simp only []; rw [h2, h1, List.append_assoc]⟩
/-- The same run, of code that goes on, with answers that go on. -/
theorem cgo_sim (code code' c : List api_Inst) (m : List Int) (hl : code.length ≤ code'.length) (hg : ∀ i : Int, 0 ≤ i → i < code.length → gi code' i = gi code i) : ∀ (k : Nat) (t : Thr) (i : Int),
    (code'.length = code.length ∨ (cgo code k t i).Status ≠ 6) → (m = [] ∨ (cgo code k t i).Status ≠ 4) → cgo code' k (tr c m t) i = cgo code k t i := by
  intro k
  induction k with
  | zero =>
    intro t i h1 h2
    unfold cgo at h1 ⊢
    by_cases hi : i < 0 ∨ i ≥ code.length
    · simp only [hi, if_true, ne_eq, not_true_eq_false, or_false] at h1
      rw [h1]; simp only [hi, if_true]; rfl
    · simp only [hi, if_false]
      rw [if_neg (by omega)]; rfl
  | succ k ih =>
    intro t i h1 h2
    unfold cgo at h1 h2 ⊢
    by_cases hi : i < 0 ∨ i ≥ code.length
    · simp only [hi, if_true, ne_eq, not_true_eq_false, or_false] at h1
      rw [h1]; simp only [hi, if_true]; rfl
    · simp only [hi, if_false] at h1 h2 ⊢
      rw [if_neg (by omega), hg i (by omega) (by omega)]
      have hs := cstep_sim (c := c) (m := m) t (gi code i)
      cases hq : cstep t (gi code i) with
      | inl q =>
        rw [hq] at hs h1 h2
        rcases hs with ⟨h4, hm⟩ | hs
        · exact absurd h4 (h2.resolve_left hm)
        · rw [hs]; rfl
      | inr q =>
        rw [hq] at hs h1 h2
        rw [show cstep (tr c m t) (gi code i) = .inr (q.1, tr c m q.2) from hs]
        exact ih _ _ h1 h2
/-- A run that starved goes on. -/
theorem cgo_more (code c : List api_Inst) (m : List Int) (hc : code.all enc0 = true) : ∀ (k : Nat) (t : Thr) (i : Int), t.out.length ≤ 64 → (cgo code k t i).Status = 4 →
    ∃ l, (cgo code k (tr c m t) i).Events = (cgo code k t i).Events ++ l := by
  intro k
  induction k with
  | zero => intro t i h h4; exact ⟨[], by simp [cgo, tr]⟩
  | succ k ih =>
    intro t i h h4
    have hpre := cgo_pre code hc (k + 1) (tr c m t) i h
    unfold cgo at h4 hpre ⊢
    by_cases hi : i < 0 ∨ i ≥ code.length
    · simp only [hi, if_true]; exact ⟨[], by simp [tr]⟩
    · simp only [hi, if_false] at h4 hpre ⊢
      have hs := cstep_sim (c := c) (m := m) t (gi code i)
      have hst := cstep_stay t (gi code i)
      have hf := cstep_fwd t (gi code i) h (enc0_ok (all_gi.1 hc i (by omega) (by omega)))
      cases hq : cstep t (gi code i) with
      | inl q =>
        rw [hq] at hst
        simp only []
        rw [show q.2 = t from hst]
        exact hpre
      | inr q =>
        rw [hq] at hs h4 hf
        rw [show cstep (tr c m t) (gi code i) = .inr (q.1, tr c m q.2) from hs]
        exact ih _ _ hf.1.len h4
theorem clDo_ok {code : List api_Inst} {locs dom : Int} {ans : List Int} (h : (clDo code locs dom ans).Status ≠ 0) : code.all enc0 = true ∧ ¬ (locs < 0 ∨ locs > 16 ∨ dom < 0 ∨ dom ≥ 3) := by
  unfold clDo at h
  split at h
  · exact absurd rfl h
  split at h
  · exact ⟨‹_›, ‹_›⟩
  · exact absurd rfl h
end Go.Proofs.Ytcnchjlomcafeaa.W
