/- Chapter 16: what the document's run is. -/
import Derived.Test.YtcnchjlomcafeaaPL
import Derived.Test.YtcnchjlomcafeaaF46
set_option linter.unusedVariables false
set_option linter.unusedSimpArgs false
namespace Go.Proofs.Ytcnchjlomcafeaa.W
open Go Go.RowKit Go.Proofs.Ytcnchjlomcafeaa.B
/-- The document's step, as its run's loop has it: state, the next place, how it ends. -/
def rstep (s : St) (x : api_Inst) (i : Int) : Option (St × Int × Int) :=
  ((if (decide (x.Op = 10)) = true then (some (decide (x.Op = 10))) else (if (decide (x.Op = 12)) = true then (some (decide (x.Op = 12))) else (if (decide (x.Op = 14)) = true then (some (decide (x.Op = 14))) else (if (decide (x.Op = 11)) = true then (some (decide (x.Op = 11))) else (if (decide (x.Op = 13)) = true then (some (decide (x.Op = 13))) else (some (decide (x.Op = 15))))))) : Option Bool).bind fun o_126 => if o_126 = true then ((selvageref16_state_memory.m s x).bind fun r_140 => (some (r_140.2, wrap64 (i + 1), r_140.1))) else ((if (decide (x.Op = 18)) = true then (some (decide (x.Op = 18))) else (some (decide (x.Op = 19))) : Option Bool).bind fun o_171 => if o_171 = true then ((selvageref16_state_taken.m s x).bind fun r_181 => (if r_181.1 = true then (some (r_181.2, wrap64 ((wrap64 (i + 1)) + (wrap64 ((wrap64 (Int.tdiv (x.Imm) 4)) - 1))), 0)) else (some (r_181.2, wrap64 (i + 1), 0)))) else ((if (decide (x.Op = 20)) = true then (some (decide (x.Op = 20))) else (if (decide (x.Op = 21)) = true then (some (decide (x.Op = 21))) else (some (decide (x.Op = 22)))) : Option Bool).bind fun o_209 => if o_209 = true then ((selvageref16_state_event.m s (⟨wrap64 ((wrap64 ((x.Op) - 20)) + 3), 0, 0, 0, 0, 0, 0, 0⟩ : api_Event)).bind fun r_220 => ((if (!r_220.1) = true then (some 5) else (some 0) : Option Int).bind fun o_243 => if (decide (x.Op = 22)) = true then ((selvageref16_join.m r_220.2.fenced r_220.2.ctrl).bind fun r_255 => (some ({ r_220.2 with fenced := r_255 }, wrap64 (i + 1), o_243))) else (some (r_220.2, wrap64 (i + 1), o_243)))) else (if (decide (x.Op = 23)) = true then (if (decide (((vg s.regs 0).N) = 0)) = true then (some (s, wrap64 (i + 1), 1)) else (if (decide (((vg s.regs 0).N) = 1)) = true then ((selvageref16_state_event.m s (⟨6, 0, (vg s.regs 3).N, 0, 0, 0, 0, 0⟩ : api_Event)).bind fun r_297 => (if (!r_297.1) = true then (some (r_297.2, wrap64 (i + 1), 5)) else (some (r_297.2, wrap64 (i + 1), 0)))) else (if (decide (((vg s.regs 0).N) = 2)) = true then (some (s, wrap64 (i + 1), 2)) else (if (decide (((vg s.regs 0).N) = 3)) = true then (some (s, wrap64 (i + 1), 3)) else (some (s, wrap64 (i + 1), 6)))))) else ((selvageref16_state_reckon.m s x).bind fun r_325 => (some (r_325, wrap64 (i + 1), 0)))))) : Option (St × Int × Int))
/-- How a step is to end. -/
def GotI (r : Option (St × Int × Int)) (i : Int) : Eff → Prop
  | .inl q => ∃ s' j, r = some (s', j, q.1) ∧ q.1 ≠ 0 ∧ s'.events = q.2.out
  | .inr q => ∃ s', r = some (s', i + q.1, 0) ∧ Rel q.2 s'
theorem got_mem {r : Option (Int × St)} {e : Eff} {i : Int} (hi : 0 ≤ i ∧ i < 300) (h : Got r e) : GotI (r.bind fun r_140 => (some (r_140.2, wrap64 (i + 1), r_140.1))) i e := by
  cases e with
  | inl q => obtain ⟨s', rfl, h1, h2⟩ := h; exact ⟨s', _, rfl, h1, h2⟩
  | inr q =>
    obtain ⟨s', rfl, h1, h2⟩ := h
    refine ⟨s', ?_, h2⟩
    rw [Option.bind_some, h1, w64 (show -9223372036854775808 ≤ i + 1 ∧ i + 1 < 9223372036854775808 by omega)]
theorem tel_rel {t : Thr} {s : St} (v : Rel t s) (e : api_Event) : ∃ b s', selvageref16_state_event.m s e = some (b, s') ∧ s'.fenced = s.fenced ∧ s'.ctrl = s.ctrl ∧ match tel t e with
    | .inl q => b = false ∧ q = (5, t) ∧ s' = s
    | .inr u => b = true ∧ Rel u s' ∧ u.fenced = t.fenced ∧ u.ctrl = t.ctrl := by
  have hl := v.len
  rw [event_eq s e v.ctrl v.fenced (by rw [v.ev]; exact hl)]
  unfold tel
  simp only [v.ev]
  by_cases h64 : t.out.length = 64
  · simp only [if_pos h64]; exact ⟨_, _, rfl, rfl, rfl, rfl, trivial, rfl⟩
  · simp only [if_neg h64]
    refine ⟨_, _, rfl, rfl, rfl, rfl, ?_, trivial, trivial⟩
    exact { v with
      ev := by simp [telE]
      len := by simp; omega }
theorem rstep_eq {t : Thr} {s : St} {x : api_Inst} {i : Int} (v : Rel t s) (hx : OkI x) (hi : 0 ≤ i ∧ i < 300) : GotI (rstep s x i) i (cstep t x) := by
  have w1 := w64 (show -9223372036854775808 ≤ i + 1 ∧ i + 1 < 9223372036854775808 by omega)
  have hop := hx.Op
  unfold rstep
  by_cases hm : 10 ≤ x.Op ∧ x.Op ≤ 15
  · obtain ⟨d, hd, hc⟩ := addr_eq v hx
    have e1 : (if (decide (x.Op = 10)) = true then (some (decide (x.Op = 10))) else (if (decide (x.Op = 12)) = true then (some (decide (x.Op = 12))) else (if (decide (x.Op = 14)) = true then (some (decide (x.Op = 14))) else (if (decide (x.Op = 11)) = true then (some (decide (x.Op = 11))) else (if (decide (x.Op = 13)) = true then (some (decide (x.Op = 13))) else (some (decide (x.Op = 15))))))) : Option Bool) = some true := by
      rcases (by omega : x.Op = 10 ∨ x.Op = 11 ∨ x.Op = 12 ∨ x.Op = 13 ∨ x.Op = 14 ∨ x.Op = 15) with h | h | h | h | h | h <;> simp [h]
    rw [e1, Option.bind_some, if_pos rfl]
    refine got_mem hi ?_
    unfold cstep
    simp only []
    repeat rw [if_neg (by omega)]
    by_cases h10 : x.Op = 10
    · rw [if_pos (.inl h10)] at hc
      rw [if_pos h10]; exact mem_load v hx (.inl h10) hd hc hc.rg
    rw [if_neg h10]
    by_cases h11 : x.Op = 11
    · rw [if_pos (.inr h11)] at hc
      rw [if_pos h11]; exact mem_store v hx (.inl h11) hd hc hc.rg
    rw [if_neg h11]
    rw [if_neg (by omega)] at hc
    by_cases h12 : x.Op = 12 ∨ x.Op = 14
    · rw [if_pos h12]; exact mem_load v hx (.inr h12) hd hc hc.rg
    rw [if_neg h12, if_pos (by omega)]
    by_cases h13 : x.Op = 13
    · exact mem_store v hx (.inr h13) hd hc hc.rg
    · exact mem_stdcx v hx (by omega) hd hc hc.rg
  have e1 : (if (decide (x.Op = 10)) = true then (some (decide (x.Op = 10))) else (if (decide (x.Op = 12)) = true then (some (decide (x.Op = 12))) else (if (decide (x.Op = 14)) = true then (some (decide (x.Op = 14))) else (if (decide (x.Op = 11)) = true then (some (decide (x.Op = 11))) else (if (decide (x.Op = 13)) = true then (some (decide (x.Op = 13))) else (some (decide (x.Op = 15))))))) : Option Bool) = some false := by
    rw [if_neg (by simp; omega), if_neg (by simp; omega), if_neg (by simp; omega), if_neg (by simp; omega), if_neg (by simp; omega)]; simp; omega
  rw [e1, Option.bind_some, if_neg (by simp)]
  by_cases h18 : x.Op = 18
  · obtain ⟨s', hs, hR⟩ := taken_eq v h18
    rw [if_pos (by simpa using h18), Option.bind_some, if_pos (by simpa using h18), hs, Option.bind_some]
    have : cstep t x = .inr (if brc t x.T then wrap64 (Int.tdiv x.Imm 4) else 1, { t with ctrl := uni t.ctrl t.held }) := by
      unfold cstep; simp only []; repeat rw [if_neg (by omega)]
      rw [if_pos h18]
    rw [this]
    have i4 := imm4 hx.Imm
    simp only []
    cases hb : brc t x.T
    · rw [if_neg (by decide), w1]; exact ⟨_, by simp, hR⟩
    · rw [if_pos rfl, w1, w64 (show -9223372036854775808 ≤ wrap64 (Int.tdiv x.Imm 4) - 1 ∧ _ by omega), w64 (show _ ∧ _ by omega)]
      exact ⟨_, by simp; omega, hR⟩
  rw [if_neg (by simpa using h18), Option.bind_some]
  by_cases h19 : x.Op = 19
  · rw [if_pos (by simpa using h19)]
    have hs : selvageref16_state_taken.m s x = some (true, s) := by unfold selvageref16_state_taken.m; rw [if_pos (by simpa using h19)]
    rw [hs, Option.bind_some, if_pos rfl]
    have : cstep t x = .inr (wrap64 (Int.tdiv x.Imm 4), t) := by
      unfold cstep; simp only []; repeat rw [if_neg (by omega)]
      rw [if_pos h19]
    rw [this]
    have i4 := imm4 hx.Imm
    rw [w1, w64 (show -9223372036854775808 ≤ wrap64 (Int.tdiv x.Imm 4) - 1 ∧ _ by omega), w64 (show _ ∧ _ by omega)]
    exact ⟨_, by simp; omega, v⟩
  rw [if_neg (by simpa using h19)]
  by_cases hs : 20 ≤ x.Op ∧ x.Op ≤ 22
  · have e2 : (if (decide (x.Op = 20)) = true then (some (decide (x.Op = 20))) else (if (decide (x.Op = 21)) = true then (some (decide (x.Op = 21))) else (some (decide (x.Op = 22)))) : Option Bool) = some true := by
      rcases (by omega : x.Op = 20 ∨ x.Op = 21 ∨ x.Op = 22) with h | h | h <;> simp [h]
    rw [e2, Option.bind_some, if_pos rfl]
    obtain ⟨b, s', he, hf, hc, hm⟩ := tel_rel v ⟨wrap64 ((wrap64 ((x.Op) - 20)) + 3), 0, 0, 0, 0, 0, 0, 0⟩
    rw [he, Option.bind_some]
    have ew : wrap64 (wrap64 (x.Op - 20) + 3) = x.Op - 17 := by rw [w64 (show -9223372036854775808 ≤ x.Op - 20 ∧ _ by omega), w64 (show _ ∧ _ by omega)]; omega
    rw [ew] at hm
    have hcs : cstep t x = says t ⟨x.Op - 17, 0, 0, 0, 0, 0, 0, 0⟩ (if x.Op = 22 then (fun u => { u with fenced := uni u.fenced u.ctrl }) else id) := by
      unfold cstep; simp only []; repeat rw [if_neg (by omega)]
      rcases (by omega : x.Op = 20 ∨ x.Op = 21 ∨ x.Op = 22) with h | h | h <;> simp [h]
    rw [hcs]
    unfold says
    obtain ⟨r, hr, hh⟩ := join_eq v.fenced v.ctrl
    cases ht : tel t ⟨x.Op - 17, 0, 0, 0, 0, 0, 0, 0⟩ with
    | inl q =>
      rw [ht] at hm
      obtain ⟨rfl, rfl, rfl⟩ := hm
      simp only []
      rw [if_pos (by decide), Option.bind_some]
      by_cases h22 : x.Op = 22
      · rw [if_pos (by simpa using h22), hr]; exact ⟨_, _, rfl, by simp, v.ev⟩
      · rw [if_neg (by simpa using h22)]; exact ⟨_, _, rfl, by simp, v.ev⟩
    | inr u =>
      rw [ht] at hm
      obtain ⟨rfl, hR, h1, h2⟩ := hm
      simp only []
      rw [if_neg (by decide), Option.bind_some, w1]
      by_cases h22 : x.Op = 22
      · rw [if_pos (by simpa using h22), hf, hc, hr, if_pos h22]
        refine ⟨_, rfl, ?_⟩
        simp only [h1, h2]
        exact { hR with fenced := hh, ctrl := by simp only []; rw [← h2, ← hc]; exact hR.ctrl }
      · rw [if_neg (by simpa using h22), if_neg h22]; exact ⟨_, rfl, hR⟩
  have e2 : (if (decide (x.Op = 20)) = true then (some (decide (x.Op = 20))) else (if (decide (x.Op = 21)) = true then (some (decide (x.Op = 21))) else (some (decide (x.Op = 22)))) : Option Bool) = some false := by
    rw [if_neg (by simp; omega), if_neg (by simp; omega)]; simp; omega
  rw [e2, Option.bind_some, if_neg (by simp)]
  by_cases h23 : x.Op = 23
  · rw [if_pos (by simpa using h23)]
    have hcs : cstep t x = cal t := by
      unfold cstep; simp only []; repeat rw [if_neg (by omega)]
    rw [hcs, (v.regs 0 (by decide) (by decide)).n, (v.regs 3 (by decide) (by decide)).n]
    unfold cal
    by_cases g : (vg t.regs 0).n = 0
    · rw [if_pos (by simpa using g), if_pos g]; exact ⟨_, _, rfl, by simp, v.ev⟩
    rw [if_neg (by simpa using g), if_neg g]
    by_cases g : (vg t.regs 0).n = 1
    · rw [if_pos (by simpa using g), if_pos g]
      obtain ⟨b, s', he, hf, hc, hm⟩ := tel_rel v ⟨6, 0, (vg t.regs 3).n, 0, 0, 0, 0, 0⟩
      rw [he, Option.bind_some]
      unfold says
      cases ht : tel t ⟨6, 0, (vg t.regs 3).n, 0, 0, 0, 0, 0⟩ with
      | inl q =>
        rw [ht] at hm
        obtain ⟨rfl, rfl, rfl⟩ := hm
        exact ⟨_, _, rfl, by simp, v.ev⟩
      | inr u =>
        rw [ht] at hm
        obtain ⟨rfl, hR, h1, h2⟩ := hm
        simp only []
        rw [if_neg (by decide), w1]; exact ⟨_, rfl, hR⟩
    rw [if_neg (by simpa using g), if_neg g]
    by_cases g : (vg t.regs 0).n = 2
    · rw [if_pos (by simpa using g), if_pos g]; exact ⟨_, _, rfl, by simp, v.ev⟩
    rw [if_neg (by simpa using g), if_neg g]
    by_cases g : (vg t.regs 0).n = 3
    · rw [if_pos (by simpa using g), if_pos g]; exact ⟨_, _, rfl, by simp, v.ev⟩
    rw [if_neg (by simpa using g), if_neg g]; exact ⟨_, _, rfl, by simp, v.ev⟩
  rw [if_neg (by simpa using h23)]
  obtain ⟨s', u, h1, h2, hR⟩ := reckon_eq v hx (by omega)
  rw [h1, h2, Option.bind_some, w1]
  exact ⟨_, rfl, hR⟩
/-- The document's run. -/
theorem run_eq (code : List api_Inst) (h : code.length ≤ 300) (hc : code.all enc0 = true) : ∀ (k : Nat) (t : Thr) (s : St) (i n : Int), n + k = 8000 → 0 ≤ n → Rel t s →
    ((loop (selvageref16_Do.l1 code) (s, i, n) : Option (St × Int ⊕ api_Run)).bind fun o_75 => match o_75 with | .inl s_77 => (if ((decide (s_77.2 < 0)) || (decide (s_77.2 ≥ (code.length : Int)))) = true then (some (⟨s_77.1.events, 6⟩ : api_Run)) else (some (⟨s_77.1.events, 5⟩ : api_Run))) | .inr r_420 => some r_420) = some (cgo code k t i) := by
  intro k
  induction k with
  | zero =>
    intro t s i n hn h0 v
    have : loop (selvageref16_Do.l1 code) (s, i, n) = some (.inl (s, i)) := by
      refine loop_out ?_
      unfold selvageref16_Do.l1
      rw [if_neg (by simp; omega)]; rfl
    rw [this, Option.bind_some]
    unfold cgo
    simp only [v.ev]
    by_cases hi : i < 0 ∨ i ≥ code.length
    · rw [if_pos (by simpa using hi), if_pos hi]
    · rw [if_neg (by simpa using hi), if_neg hi]
  | succ k ih =>
    intro t s i n hn h0 v
    unfold cgo
    by_cases hi : i < 0 ∨ i ≥ code.length
    · have : loop (selvageref16_Do.l1 code) (s, i, n) = some (.inr ⟨s.events, 6⟩) := by
        refine loop_out ?_
        unfold selvageref16_Do.l1
        rw [if_pos (by simp; omega), if_pos (by simpa using hi)]; rfl
      rw [this, Option.bind_some, if_pos hi]
      simp only [v.ev]
    · rw [if_neg hi]
      have hok := enc0_ok (all_gi.1 hc i (by omega) (by omega))
      have hs := rstep_eq (i := i) v hok (by omega)
      have hl : ∀ o, rstep s (gi code i) i = some o → selvageref16_Do.l1 code (s, i, n) = (if (!decide (o.2.2 = 0)) = true then (((some (⟨o.1.events, o.2.2⟩ : api_Run)).map Sum.inr).map Sum.inr) else (some (Sum.inl (o.1, o.2.1, wrap64 (n + 1))))) := by
        intro o ho
        unfold selvageref16_Do.l1
        rw [if_pos (by simp; omega), if_neg (by simpa using hi), if_pos (by simp only []; omega)]
        simp only [show (⟨(gi code i).Op, (gi code i).T, (gi code i).A, (gi code i).B, (gi code i).Imm⟩ : api_Inst) = gi code i from rfl]
        exact (congrArg (fun z => Option.bind z _) ho).trans rfl
      cases hq : cstep t (gi code i) with
      | inl q =>
        rw [hq] at hs
        obtain ⟨s', j, h1, h2, h3⟩ := hs
        have := hl _ h1
        rw [if_pos (by simpa using h2)] at this
        rw [loop_out (by rw [this]; rfl), Option.bind_some]
        simp only [h3]
      | inr q =>
        rw [hq] at hs
        obtain ⟨s', h1, hR⟩ := hs
        have := hl _ h1
        rw [if_neg (by simp), w64 (show _ ∧ _ by omega)] at this
        simp only []
        rw [← ih q.2 s' (i + q.1) (n + 1) (by omega) (by omega) hR, loop_in this]
end Go.Proofs.Ytcnchjlomcafeaa.W
