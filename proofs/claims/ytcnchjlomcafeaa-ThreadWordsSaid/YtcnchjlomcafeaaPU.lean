/- Chapter 16: a whole run, in plain words. -/
import Derived.Test.YtcnchjlomcafeaaPT
import Derived.Test.YtcnchjlomcafeaaG2
set_option linter.unusedVariables false
set_option linter.unusedSimpArgs false
namespace Go.Proofs.Ytcnchjlomcafeaa.W
open Go Go.RowKit Go.Proofs.Ytcnchjlomcafeaa.B

/-- What both ways of an instruction tell. -/
def Out (P N : Int → Thr → Prop) : Eff → Prop
  | .inl q => P q.1 q.2
  | .inr q => N q.1 q.2
/-- From one state to a later one. -/
structure Fwd (t t' : Thr) : Prop where
  locs : t'.locs = t.locs
  base : t'.base = t.base
  out : ∃ l, t'.out = t.out ++ l
  len : t'.out.length ≤ 64
theorem Fwd.refl {t : Thr} (h : t.out.length ≤ 64) : Fwd t t := ⟨rfl, rfl, ⟨[], by simp⟩, h⟩
abbrev FP (t : Thr) : Int → Thr → Prop := fun s u => Fwd t u ∧ 1 ≤ s ∧ s ≤ 6
abbrev FN (t : Thr) : Int → Thr → Prop := fun d u => Fwd t u ∧ -33554432 ≤ d ∧ d ≤ 33554432
theorem ifO {c : Prop} [Decidable c] {P N : Int → Thr → Prop} {a b : Eff} (h1 : c → Out P N a) (h2 : ¬ c → Out P N b) : Out P N (if c then a else b) := by
  split
  · exact h1 ‹_›
  · exact h2 ‹_›
theorem outP {t u : Thr} {s : Int} (h : Fwd t u) (hs : 1 ≤ s ∧ s ≤ 6) : Out (FP t) (FN t) (.inl (s, u)) := ⟨h, hs⟩
theorem outN1 {t u : Thr} (h : Fwd t u) : Out (FP t) (FN t) (.inr (1, u)) := ⟨h, by show (-33554432 : Int) ≤ 1; decide, by show (1 : Int) ≤ 33554432; decide⟩
theorem tel_fwd {t u : Thr} {e : api_Event} (h : t.out.length ≤ 64) (ht : tel t e = .inr u) : u = { t with out := t.out ++ [telE t e] } ∧ t.out.length < 64 := by
  unfold tel at ht
  split at ht
  · cases ht
  · cases ht; exact ⟨rfl, by omega⟩
theorem tel_stop {t : Thr} {e : api_Event} {q : Int × Thr} (ht : tel t e = .inl q) : q = (5, t) := by
  unfold tel at ht
  split at ht
  · cases ht; rfl
  · cases ht
theorem imm4 {x : Int} (h : -33554432 ≤ x ∧ x ≤ 33554428) : -33554432 ≤ wrap64 (Int.tdiv x 4) ∧ wrap64 (Int.tdiv x 4) ≤ 33554432 := by
  have h1 : -33554432 ≤ Int.tdiv x 4 ∧ Int.tdiv x 4 ≤ 33554432 := by
    rcases Int.le_total 0 x with h0 | h0
    · rw [Int.tdiv_eq_ediv_of_nonneg h0]; omega
    · have := Int.neg_tdiv (a := x) (b := 4)
      rw [Int.tdiv_eq_ediv_of_nonneg (show 0 ≤ -x by omega)] at this
      omega
  rw [w64 (by omega)]; exact h1
theorem says_fwd (t : Thr) (e : api_Event) (f : Thr → Thr) (hf : ∀ u, (f u).out = u.out ∧ (f u).locs = u.locs ∧ (f u).base = u.base) (h : t.out.length ≤ 64) : Out (FP t) (FN t) (says t e f) := by
  unfold says
  cases ht : tel t e with
  | inl q => rw [tel_stop ht]; exact outP (.refl h) (by decide)
  | inr u =>
    obtain ⟨rfl, hl⟩ := tel_fwd h ht
    obtain ⟨h1, h2, h3⟩ := hf { t with out := t.out ++ [telE t e] }
    exact outN1 ⟨h2, h3, ⟨[telE t e], h1⟩, by rw [h1]; simp; omega⟩
theorem lod_fwd (t : Thr) (x : api_Inst) (a : thread_cell) (h : t.out.length ≤ 64) : Out (FP t) (FN t) (lod t x a) := by
  unfold lod
  split
  · exact outP (.refl h) (by decide)
  split
  · exact outN1 ⟨rfl, rfl, ⟨[], by simp⟩, h⟩
  split
  · exact outP (.refl h) (by decide)
  split
  · rename_i ht; rw [tel_stop ht]; exact outP (.refl h) (by decide)
  · rename_i ht; obtain ⟨rfl, hl⟩ := tel_fwd h ht
    exact outN1 ⟨rfl, rfl, ⟨_, rfl⟩, by simp; omega⟩
theorem sto_fwd (t : Thr) (x : api_Inst) (a : thread_cell) (h : t.out.length ≤ 64) : Out (FP t) (FN t) (sto t x a) := by
  unfold sto
  split
  · exact outP (.refl h) (by decide)
  simp only []
  split
  · split
    · split
      · rename_i ht; rw [tel_stop ht]; exact outP (.refl h) (by decide)
      · rename_i ht; obtain ⟨rfl, hl⟩ := tel_fwd h ht
        exact outN1 ⟨rfl, rfl, ⟨_, rfl⟩, by simp; omega⟩
    · exact outN1 ⟨rfl, rfl, ⟨[], by simp⟩, h⟩
  · split
    · exact outN1 ⟨rfl, rfl, ⟨[], by simp⟩, h⟩
    · split
      · rename_i ht; rw [tel_stop ht]; exact outP (.refl h) (by decide)
      · rename_i ht; obtain ⟨rfl, hl⟩ := tel_fwd h ht
        exact outN1 ⟨rfl, rfl, ⟨_, rfl⟩, by simp; omega⟩
theorem cal_fwd (t : Thr) (h : t.out.length ≤ 64) : Out (FP t) (FN t) (cal t) := by
  unfold cal
  split
  · exact outP (.refl h) (by decide)
  split
  · exact says_fwd t _ id (fun u => ⟨rfl, rfl, rfl⟩) h
  split
  · exact outP (.refl h) (by decide)
  split
  · exact outP (.refl h) (by decide)
  · exact outP (.refl h) (by decide)
theorem cstep_fwd (t : Thr) (x : api_Inst) (h : t.out.length ≤ 64) (hx : OkI x) : Out (FP t) (FN t) (cstep t x) := by
  have hi := imm4 hx.Imm
  have hN : ∀ u : Thr, u.out = t.out → u.locs = t.locs → u.base = t.base → Out (FP t) (FN t) (.inr (1, u)) := fun u h1 h2 h3 => outN1 ⟨h2, h3, ⟨[], by rw [h1]; simp⟩, by rw [h1]; exact h⟩
  unfold cstep
  refine ifO (fun _ => hN _ rfl rfl rfl) fun _ => ?_
  refine ifO (fun _ => hN _ rfl rfl rfl) fun _ => ?_
  refine ifO (fun _ => hN _ rfl rfl rfl) fun _ => ?_
  refine ifO (fun _ => hN _ rfl rfl rfl) fun _ => ?_
  refine ifO (fun _ => hN _ rfl rfl rfl) fun _ => ?_
  refine ifO (fun _ => hN _ rfl rfl rfl) fun _ => ?_
  refine ifO (fun _ => hN _ rfl rfl rfl) fun _ => ?_
  refine ifO (fun _ => hN _ rfl rfl rfl) fun _ => ?_
  refine ifO (fun _ => hN _ rfl rfl rfl) fun _ => ?_
  refine ifO (fun _ => hN _ rfl rfl rfl) fun _ => ?_
  refine ifO (fun _ => hN _ rfl rfl rfl) fun _ => ?_
  refine ifO (fun _ => lod_fwd t x _ h) fun _ => ?_
  refine ifO (fun _ => sto_fwd t x _ h) fun _ => ?_
  refine ifO (fun _ => lod_fwd t x _ h) fun _ => ?_
  refine ifO (fun _ => sto_fwd t x _ h) fun _ => ?_
  refine ifO (fun _ => ⟨⟨rfl, rfl, ⟨[], by simp⟩, h⟩, ?_⟩) fun _ => ?_
  · cases brc t x.T
    · show (-33554432 : Int) ≤ 1 ∧ (1 : Int) ≤ 33554432; decide
    · exact hi
  refine ifO (fun _ => ⟨.refl h, hi⟩) fun _ => ?_
  refine ifO (fun _ => says_fwd t _ id (fun u => ⟨rfl, rfl, rfl⟩) h) fun _ => ?_
  refine ifO (fun _ => says_fwd t _ id (fun u => ⟨rfl, rfl, rfl⟩) h) fun _ => ?_
  refine ifO (fun _ => says_fwd t _ _ (fun u => ⟨rfl, rfl, rfl⟩) h) fun _ => ?_
  exact cal_fwd t h

/-! ### runs -/
def cgo (code : List api_Inst) : Nat → Thr → Int → api_Run
  | 0, t, i => ⟨t.out, if i < 0 ∨ i ≥ code.length then 6 else 5⟩
  | n + 1, t, i => if i < 0 ∨ i ≥ code.length then ⟨t.out, 6⟩ else match cstep t (gi code i) with
    | .inl q => ⟨q.2.out, q.1⟩
    | .inr q => cgo code n q.2 (i + q.1)
def ini (code : List api_Inst) (locs dom : Int) (ans : List Int) : Thr :=
  ⟨code, locs, 1048576 + dom * 65536, ans, vp (vp (Vector.replicate 32 ⟨0, 0⟩) 1 ⟨1048576 + dom * 65536, 0⟩) 2 ⟨65536, 0⟩, Vector.replicate 400 ⟨0, 0⟩, false, false, 0, 0, 0, -1, 0, []⟩
def clDo (code : List api_Inst) (locs dom : Int) (ans : List Int) : api_Run :=
  if locs < 0 ∨ locs > 16 ∨ dom < 0 ∨ dom ≥ 3 then ⟨[], 0⟩ else if code.all enc0 then cgo code 8000 (ini code locs dom ans) 0 else ⟨[], 0⟩
theorem all_gi {l : List api_Inst} {f : api_Inst → Bool} : l.all f = true ↔ ∀ i : Int, 0 ≤ i → i < l.length → f (gi l i) = true := by
  rw [List.all_eq_true]
  constructor
  · intro h i h0 h1; exact h _ (gi_mem h0 h1)
  · intro h x hx
    obtain ⟨i, hi, rfl⟩ := List.mem_iff_getElem.1 hx
    have := h (i : Int) (by omega) (by omega)
    rwa [gi_nat _ _ hi] at this
theorem do_l0 (code : List api_Inst) (h : code.length ≤ 300) : loop (thread_Do.l0 code) 0 = some (if code.all enc0 then .inl () else .inr ⟨[], 0⟩) := by
  refine loop_to _ (fun i : Int => 0 ≤ i ∧ i ≤ (code.length : Int) ∧ ∀ j : Int, 0 ≤ j → j < i → enc0 (gi code j) = true) (fun i : Int => ((code.length : Int) - i).toNat) ?_ 0 ⟨by omega, by omega, fun j h1 h2 => by omega⟩
  rintro i ⟨h0, h1, h2⟩
  unfold thread_Do.l0
  by_cases hi : i < code.length
  · rw [if_pos (by simpa using hi), if_pos ⟨h0, hi⟩]
    obtain ⟨w, e, he, _⟩ := enc_tot (gi code i)
    rw [he, Option.bind_some]
    by_cases h0' : e = 0
    · left
      refine ⟨i + 1, ?_, ⟨by omega, by omega, fun j h3 h4 => ?_⟩, by omega⟩
      · rw [if_neg (by simp [h0']), w64 (by omega)]
      · rcases (by omega : j < i ∨ j = i) with h5 | rfl
        · exact h2 j h3 h5
        · simp [enc0, he, h0']
    · right
      have hf : code.all enc0 = false := by
        rw [Bool.eq_false_iff]
        intro h3
        have := all_gi.1 h3 i h0 hi
        simp [enc0, he, h0'] at this
      rw [if_pos (by simp [h0']), hf]
      rfl
  · right
    rw [if_neg (by simpa using hi)]
    have ht : code.all enc0 = true := all_gi.2 fun j h3 h4 => h2 j h3 (by omega)
    rw [ht]
    rfl
theorem do_l1 (code : List api_Inst) (h : code.length ≤ 300) (hc : code.all enc0 = true) : ∀ (k : Nat) (t : Thr) (i n : Int), n + k = 8000 → 0 ≤ n → t.out.length ≤ 64 → 0 ≤ t.locs ∧ t.locs ≤ 16 →
    loop (thread_Do.l1 code) (t, i, n) = some (.inr (cgo code k t i)) := by
  intro k
  induction k with
  | zero =>
    intro t i n hn h0 ho hl
    refine loop_out ?_
    unfold thread_Do.l1 cgo
    by_cases hi : i < 0 ∨ i ≥ code.length
    · rw [if_pos (by simpa using hi), if_pos hi]; rfl
    · rw [if_neg (by simpa using hi), if_neg hi, if_pos (by simp; omega)]; rfl
  | succ k ih =>
    intro t i n hn h0 ho hl
    unfold cgo
    by_cases hi : i < 0 ∨ i ≥ code.length
    · rw [if_pos hi]
      refine loop_out ?_
      unfold thread_Do.l1
      rw [if_pos (by simpa using hi)]; rfl
    · rw [if_neg hi]
      have hok := enc0_ok (all_gi.1 hc i (by omega) (by omega))
      have hs := step_eq t (gi code i) ho hl hok
      have hf := cstep_fwd t (gi code i) ho hok
      cases hq : cstep t (gi code i) with
      | inl q =>
        refine loop_out ?_
        unfold thread_Do.l1
        rw [if_neg (by simpa using hi), if_neg (by simp; omega), if_pos (by simp only []; omega)]
        simp only [show (⟨(gi code i).Op, (gi code i).T, (gi code i).A, (gi code i).B, (gi code i).Imm⟩ : api_Inst) = gi code i from rfl]
        rw [hs, hq]
        rfl
      | inr q =>
        rw [hq] at hf
        obtain ⟨hf, hd⟩ := hf
        simp only []
        rw [← ih q.2 (i + q.1) (n + 1) (by omega) (by omega) hf.len (by rw [hf.locs]; exact hl)]
        refine loop_in ?_
        unfold thread_Do.l1
        rw [if_neg (by simpa using hi), if_neg (by simp; omega), if_pos (by simp only []; omega)]
        simp only [show (⟨(gi code i).Op, (gi code i).T, (gi code i).A, (gi code i).B, (gi code i).Imm⟩ : api_Inst) = gi code i from rfl]
        rw [hs, hq]
        simp only [Option.bind_some]
        rw [w64 (show _ ∧ _ by omega), w64 (show _ ∧ _ by omega)]
theorem do_eq (code : List api_Inst) (locs dom : Int) (ans : List Int) (h : code.length ≤ 300) : thread_Do.m code locs dom ans = some (clDo code locs dom ans) := by
  unfold thread_Do.m clDo
  by_cases hb : locs < 0 ∨ locs > 16 ∨ dom < 0 ∨ dom ≥ 3
  · rw [if_pos (by simp; omega), if_pos hb]
  · rw [if_neg (by simp; omega), if_neg hb, do_l0 code h]
    by_cases hc : code.all enc0 = true
    · rw [if_pos hc, if_pos hc]
      simp only [Option.bind_some]
      have e1 : wrap64 (dom * 65536) = dom * 65536 := w64 (by omega)
      rw [e1, w64 (show _ ∧ _ by omega), do_l1 code h hc 8000 _ 0 0 (by omega) (by omega) (by simp) (by simp; omega)]
      rfl
    · rw [if_neg hc, if_neg hc]
      rfl
/-! ### are two runs the same? -/
theorem same_eq (a b : api_Run) (h : a.Events.length ≤ 100) : selvageref16_Same.m a b = some (decide (a = b)) := by
  unfold selvageref16_Same.m
  obtain ⟨ae, as_⟩ := a
  obtain ⟨be, bs⟩ := b
  by_cases h1 : as_ = bs ∧ ae.length = be.length
  · obtain ⟨rfl, hl⟩ := h1
    rw [if_neg (by simp [hl])]
    simp only at h
    have key : loop (selvageref16_Same.l0 ⟨ae, as_⟩ ⟨be, as_⟩) 0 = some (if ae = be then .inl () else .inr false) := by
      refine loop_to _ (fun i : Int => 0 ≤ i ∧ i ≤ (ae.length : Int) ∧ ∀ j : Int, 0 ≤ j → j < i → gi ae j = gi be j) (fun i : Int => ((ae.length : Int) - i).toNat) ?_ 0 ⟨by omega, by omega, fun j h1 h2 => by omega⟩
      rintro i ⟨h0, h1, h2⟩
      unfold selvageref16_Same.l0
      simp only []
      by_cases hi : i < ae.length
      · rw [if_pos (by simpa using hi), if_pos ⟨h0, hi⟩, if_pos ⟨h0, by omega⟩]
        by_cases he : gi ae i = gi be i
        · left
          refine ⟨i + 1, ?_, ⟨by omega, by omega, fun j h3 h4 => ?_⟩, by omega⟩
          · rw [if_neg (by simp [he]), w64 (by omega)]
          · rcases (by omega : j < i ∨ j = i) with h5 | rfl
            · exact h2 j h3 h5
            · exact he
        · right
          have hne : ae ≠ be := fun e => he (by rw [e])
          rw [if_pos ?_, if_neg hne]
          · rfl
          · rcases hx : gi ae i with ⟨x1, x2, x3, x4, x5, x6, x7, x8⟩
            rcases hy : gi be i with ⟨y1, y2, y3, y4, y5, y6, y7, y8⟩
            rw [hx, hy] at he
            simp only [api_Event.mk.injEq, not_and] at he
            simp only [Bool.and_true, Bool.not_eq_true', Bool.and_eq_false_iff, beq_eq_false_iff_ne, ne_eq]
            omega
      · right
        rw [if_neg (by simpa using hi)]
        have : ae = be := by
          apply List.ext_getElem hl
          intro j h3 h4
          have := h2 j (by omega) (by omega)
          rwa [gi_nat _ _ h3, gi_nat _ _ h4] at this
        rw [if_pos this]
        rfl
    rw [key]
    by_cases he : ae = be <;> simp [he]
  · rw [if_pos (by simp; omega)]
    have : ¬ (⟨ae, as_⟩ : api_Run) = ⟨be, bs⟩ := by
      intro e; injection e with e1 e2; exact h1 ⟨e2, by rw [e1]⟩
    simp [this]
theorem cgo_len (code : List api_Inst) (hc : code.all enc0 = true) : ∀ (k : Nat) (t : Thr) (i : Int), t.out.length ≤ 64 → (cgo code k t i).Events.length ≤ 64 := by
  intro k
  induction k with
  | zero => intro t i h; exact h
  | succ k ih =>
    intro t i h
    unfold cgo
    split
    · exact h
    · rename_i hi
      have hf := cstep_fwd t (gi code i) h (enc0_ok (all_gi.1 hc i (by omega) (by omega)))
      cases hq : cstep t (gi code i) with
      | inl q => rw [hq] at hf; exact hf.1.len
      | inr q => rw [hq] at hf; exact ih _ _ hf.1.len
theorem clDo_len (code : List api_Inst) (locs dom : Int) (ans : List Int) : (clDo code locs dom ans).Events.length ≤ 64 := by
  unfold clDo
  split
  · exact Nat.zero_le _
  split
  · rename_i hc; exact cgo_len code hc _ _ _ (by simp [ini])
  · exact Nat.zero_le _
def awakeCode : List api_Inst := [⟨10, 3, 2, 0, 0⟩, ⟨16, 0, 3, 3, 0⟩, ⟨18, 3, 0, 0, 4⟩, ⟨11, 3, 2, 0, 8⟩, ⟨23, 0, 0, 0, 0⟩]
theorem awake_eq : selvagelaw16_awake.m = some true := by
  unfold selvagelaw16_awake.m
  rw [do_eq _ _ _ _ (by decide), Option.bind_some, same_eq _ _ (by have := clDo_len awakeCode 2 0 [5]; simp only [awakeCode] at this; omega)]
  have : clDo [⟨10, 3, 2, 0, 0⟩, ⟨16, 0, 3, 3, 0⟩, ⟨18, 3, 0, 0, 4⟩, ⟨11, 3, 2, 0, 8⟩, ⟨23, 0, 0, 0, 0⟩] 2 0 [5] = ⟨[⟨1, 0, 5, 0, 0, 0, 0, 0⟩, ⟨2, 1, 5, 0, 0, 1, 1, 0⟩], 1⟩ := by kernel_rfl
  rw [this]; rfl
end Go.Proofs.Ytcnchjlomcafeaa.W
