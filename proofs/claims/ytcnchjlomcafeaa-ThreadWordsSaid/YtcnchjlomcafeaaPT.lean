/- Chapter 16: what instructions are let in, and what a thread does with one of them, in plain words. -/
import Derived.Test.YtcnchjlomcafeaaPlain
import Derived.Test.YtcnchjlomcafeaaG2
set_option linter.unusedVariables false
set_option linter.unusedSimpArgs false
namespace Go.Proofs.Ytcnchjlomcafeaa.W
open Go Go.RowKit Go.Proofs.Ytcnchjlomcafeaa.B

/-! ### which instructions are let in -/
theorem used_mod (k : Int) : (isa_used.m k).2.2.2.2.2 = 1 ∨ (isa_used.m k).2.2.2.2.2 = 4 := by
  unfold isa_used.m; repeat' split
  all_goals simp
theorem reg_iff (a : Int) : isa_reg.m a = true ↔ 0 ≤ a ∧ a < 32 := by simp [isa_reg.m]
theorem check_tot (k : Int) (x : api_Inst) : ∃ e, isa_check.m k x = some e ∧ (e = 0 → k ≠ 0 ∧ (0 ≤ x.A ∧ x.A < 32) ∧ (0 ≤ x.B ∧ x.B < 32) ∧ (0 ≤ x.T ∧ x.T < 32) ∧ (k = 8 → x.T ≤ 3) ∧
    (isa_used.m k).2.2.2.1 ≤ x.Imm ∧ x.Imm ≤ (isa_used.m k).2.2.2.2.1) := by
  unfold isa_check.m
  have hm : (isa_used.m k).2.2.2.2.2 ≠ 0 := by rcases used_mod k with h | h <;> rw [h] <;> decide
  split
  · exact ⟨3, rfl, fun h => absurd h (by decide)⟩
  rename_i h1
  have hk : k ≠ 0 := fun e => h1 (by simp [e])
  simp only [hm, ne_eq, not_false_eq_true, if_true]
  by_cases hT : k = 8
  · subst hT
    by_cases hb : x.T < 0 ∨ x.T > 3
    · rw [if_pos (by simp; omega)]; exact ⟨2, rfl, fun h => absurd h (by decide)⟩
    rw [if_neg (by simp; omega), if_pos (by decide)]
    by_cases hA : isa_reg.m x.A = true
    · rw [if_pos hA]
      by_cases hB : isa_reg.m x.B = true
      · by_cases hI : x.Imm < (isa_used.m 8).2.2.2.1 ∨ x.Imm > (isa_used.m 8).2.2.2.2.1
        · rw [if_pos (by simp [hB]; omega)]; exact ⟨2, rfl, fun h => absurd h (by decide)⟩
        · rw [if_neg (by simp [hB]; omega)]
          simp only [Option.bind_some]
          split
          · exact ⟨2, rfl, fun h => absurd h (by decide)⟩
          · exact ⟨0, rfl, fun _ => ⟨hk, (reg_iff _).1 hA, (reg_iff _).1 hB, by omega, by omega, by omega, by omega⟩⟩
      · rw [if_pos (by simp [hB])]; exact ⟨2, rfl, fun h => absurd h (by decide)⟩
    · rw [if_neg hA]; exact ⟨2, rfl, fun h => absurd h (by decide)⟩
  · rw [if_neg (by simp [hT]), if_neg (by simpa using hT)]
    by_cases hTT : isa_reg.m x.T = true
    · rw [if_pos hTT]
      by_cases hA : isa_reg.m x.A = true
      · rw [if_pos hA]
        by_cases hB : isa_reg.m x.B = true
        · by_cases hI : x.Imm < (isa_used.m k).2.2.2.1 ∨ x.Imm > (isa_used.m k).2.2.2.2.1
          · rw [if_pos (by simp [hB]; omega)]; exact ⟨2, rfl, fun h => absurd h (by decide)⟩
          · rw [if_neg (by simp [hB]; omega)]
            simp only [Option.bind_some]
            split
            · exact ⟨2, rfl, fun h => absurd h (by decide)⟩
            · exact ⟨0, rfl, fun _ => ⟨hk, (reg_iff _).1 hA, (reg_iff _).1 hB, (reg_iff _).1 hTT, by omega, by omega, by omega⟩⟩
        · rw [if_pos (by simp [hB])]; exact ⟨2, rfl, fun h => absurd h (by decide)⟩
      · rw [if_neg hA]; exact ⟨2, rfl, fun h => absurd h (by decide)⟩
    · rw [if_neg hTT]; exact ⟨2, rfl, fun h => absurd h (by decide)⟩
theorem used_imm (k : Int) : -33554432 ≤ (isa_used.m k).2.2.2.1 ∧ (isa_used.m k).2.2.2.2.1 ≤ 33554428 := by
  unfold isa_used.m; repeat' split
  all_goals decide
/-- What an instruction that is let in has. -/
structure OkI (x : api_Inst) : Prop where
  T : 0 ≤ x.T ∧ x.T < 32
  A : 0 ≤ x.A ∧ x.A < 32
  B : 0 ≤ x.B ∧ x.B < 32
  Op : 1 ≤ x.Op ∧ x.Op ≤ 23
  Imm : -33554432 ≤ x.Imm ∧ x.Imm ≤ 33554428
  sh : x.Op = 5 → 0 ≤ x.Imm ∧ x.Imm ≤ 63
theorem formOf_in (n : Int) (h : (isa_formOf.m n).1 ≠ 0) : 1 ≤ n ∧ n ≤ 23 := by
  by_cases hn : 1 ≤ n ∧ n ≤ 23
  · exact hn
  · refine absurd ?_ h
    unfold isa_formOf.m
    repeat rw [if_neg (by simp; omega)]
theorem enc_tot (x : api_Inst) : ∃ w e, isa_Encode.m x = some (w, e) ∧ (e = 0 → OkI x) := by
  obtain ⟨e, he, hk⟩ := check_tot (isa_formOf.m x.Op).1 x
  unfold isa_Encode.m
  rw [he, Option.bind_some]
  by_cases h0 : e = 0
  · rw [if_neg (by simp [h0])]
    obtain ⟨k0, kA, kB, kT, k8, kl, kh⟩ := hk h0
    have hi := used_imm (isa_formOf.m x.Op).1
    have ok : OkI x := ⟨kT, kA, kB, formOf_in _ k0, by omega, fun h5 => by
      rw [h5, show isa_formOf.m 5 = (3, 2013265924) from rfl] at kl kh
      exact ⟨kl, kh⟩⟩
    have key : ∀ o : Option Int, (∃ w, o = some w) → ∃ w e, (o.bind fun o => some (o, (0 : Int))) = some (w, e) ∧ (e = 0 → OkI x) := by
      rintro _ ⟨w, rfl⟩; exact ⟨w, 0, rfl, fun _ => ok⟩
    apply key
    have ii : ∀ (c : Bool) (a b : Option Int), (∃ w, a = some w) → (∃ w, b = some w) → ∃ w, (if c = true then a else b) = some w := by
      intro c a b h1 h2; cases c <;> simpa
    repeat (refine ii _ _ _ ⟨_, rfl⟩ ?_)
    exact ⟨_, rfl⟩
  · rw [if_pos (by simp [h0])]
    exact ⟨0, e, rfl, fun h => absurd h h0⟩
/-- Is an instruction let in? -/
def enc0 (x : api_Inst) : Bool := match isa_Encode.m x with
  | some (_, e) => decide (e = 0)
  | none => false
theorem enc0_ok {x : api_Inst} (h : enc0 x = true) : OkI x := by
  obtain ⟨w, e, he, hk⟩ := enc_tot x
  simp only [enc0, he, decide_eq_true_eq] at h
  exact hk h

/-! ### one instruction -/
abbrev Thr := thread_thread
abbrev Eff := (Int × Thr) ⊕ (Int × Thr)
def zof (t : Thr) (x : api_Inst) : thread_cell := if x.A = 0 then ⟨0, 0⟩ else vg t.regs x.A
def setR (t : Thr) (i : Int) (c : thread_cell) : Thr := { t with regs := vp t.regs i c }
def uni (a b : Int) : Int := bits .or .u64 a b
def telE (t : Thr) (e : api_Event) : api_Event := { e with Ctrl := t.ctrl, Fenced := t.fenced }
def tel (t : Thr) (e : api_Event) : (Int × Thr) ⊕ Thr := if t.out.length = 64 then .inl (5, t) else .inr { t with out := t.out ++ [telE t e] }
/-- Where an address is: a location, a place of the stack, or nowhere. -/
def plc (locs base at_ : Int) : Option Int :=
  if (wrap64 (at_ - 65536) ≥ 0 ∧ wrap64 (at_ - 65536) < wrap64 (8 * locs)) ∧ Int.tmod (wrap64 (at_ - 65536)) 8 = 0 then some (wrap64 (Int.tdiv (wrap64 (at_ - 65536)) 8))
  else if (wrap64 (at_ - base) ≥ 0 ∧ wrap64 (at_ - base) < 3200) ∧ Int.tmod (wrap64 (at_ - base)) 8 = 0 then some (wrap64 (-1 - wrap64 (Int.tdiv (wrap64 (at_ - base)) 8)))
  else none
def lod (t : Thr) (x : api_Inst) (a : thread_cell) : Eff :=
  match plc t.locs t.base a.n with
  | none => .inl (6, t)
  | some p =>
    if p < 0 then
      let c := vg t.stack (wrap64 (-1 - p))
      .inr (1, { t with regs := vp t.regs x.T ⟨c.n, uni c.hang a.hang⟩, hold := if x.Op = 14 then -1 else t.hold })
    else match t.answers with
      | [] => .inl (4, t)
      | n :: r => match tel t ⟨1, p, n, 0, a.hang, 0, 0, 0⟩ with
        | .inl q => .inl q
        | .inr u => .inr (1, { u with answers := r, regs := vp t.regs x.T ⟨n, (1 * 2 ^ (min (((t.out.length : Int)) % 18446744073709551616).toNat 64)) % 18446744073709551616⟩, hold := if x.Op = 14 then p else t.hold, event := if x.Op = 14 then t.out.length else t.event })
def sto (t : Thr) (x : api_Inst) (a : thread_cell) : Eff :=
  match plc t.locs t.base a.n with
  | none => .inl (6, t)
  | some p =>
    let v := vg t.regs x.T
    if x.Op = 15 then
      if p ≥ 0 ∧ p = t.hold then match tel t ⟨2, p, v.n, wrap64 (t.event + 1), a.hang, v.hang, 0, 0⟩ with
        | .inl q => .inl q
        | .inr u => .inr (1, { u with less := false, same := true, held := 0, hold := -1 })
      else .inr (1, { t with less := false, same := false, held := 0, hold := -1 })
    else if p < 0 then .inr (1, { t with stack := vp t.stack (wrap64 (-1 - p)) ⟨v.n, uni v.hang a.hang⟩ })
    else match tel t ⟨2, p, v.n, 0, a.hang, v.hang, 0, 0⟩ with
      | .inl q => .inl q
      | .inr u => .inr (1, u)
def says (t : Thr) (e : api_Event) (f : Thr → Thr) : Eff := match tel t e with
  | .inl q => .inl q
  | .inr u => .inr (1, f u)
def cal (t : Thr) : Eff :=
  if (vg t.regs 0).n = 0 then .inl (1, t) else if (vg t.regs 0).n = 1 then says t ⟨6, 0, (vg t.regs 3).n, 0, 0, 0, 0, 0⟩ id
  else if (vg t.regs 0).n = 2 then .inl (2, t) else if (vg t.regs 0).n = 3 then .inl (3, t) else .inl (6, t)
def brc (t : Thr) (c : Int) : Bool := if c = 0 then t.less else if c = 1 then !t.less else if c = 2 then t.same else !t.same
def quo (a b : Int) : Int := if b = 0 then 0 else wrap64 (Int.tdiv a b)
def cstep (t : Thr) (x : api_Inst) : Eff :=
  let a := vg t.regs x.A
  let b := vg t.regs x.B
  let z := zof t x
  if x.Op = 1 then .inr (1, setR t x.T ⟨wrap64 (z.n + x.Imm), z.hang⟩)
  else if x.Op = 2 then .inr (1, setR t x.T ⟨wrap64 (z.n + wrap64 (x.Imm * 65536)), z.hang⟩)
  else if x.Op = 3 then .inr (1, setR t x.T ⟨bits .or .i64 a.n x.Imm, a.hang⟩)
  else if x.Op = 4 then .inr (1, setR t x.T ⟨bits .or .i64 a.n (wrap64 (x.Imm * 65536)), a.hang⟩)
  else if x.Op = 5 then .inr (1, setR t x.T ⟨wrap64 (a.n * 2 ^ (min (x.Imm % 18446744073709551616).toNat 64)), a.hang⟩)
  else if x.Op = 6 then .inr (1, setR t x.T ⟨wrap64 (a.n + b.n), uni a.hang b.hang⟩)
  else if x.Op = 7 then .inr (1, setR t x.T ⟨wrap64 (b.n - a.n), uni a.hang b.hang⟩)
  else if x.Op = 8 then .inr (1, setR t x.T ⟨wrap64 (a.n * b.n), uni a.hang b.hang⟩)
  else if x.Op = 9 then .inr (1, setR t x.T ⟨quo a.n b.n, uni a.hang b.hang⟩)
  else if x.Op = 16 then .inr (1, { t with less := decide (a.n < b.n), same := decide (a.n = b.n), held := uni a.hang b.hang })
  else if x.Op = 17 then .inr (1, { t with less := decide (a.n < x.Imm), same := decide (a.n = x.Imm), held := a.hang })
  else if x.Op = 10 then lod t x ⟨wrap64 (z.n + x.Imm), z.hang⟩
  else if x.Op = 11 then sto t x ⟨wrap64 (z.n + x.Imm), z.hang⟩
  else if x.Op = 12 ∨ x.Op = 14 then lod t x ⟨wrap64 (z.n + b.n), uni z.hang b.hang⟩
  else if x.Op = 13 ∨ x.Op = 15 then sto t x ⟨wrap64 (z.n + b.n), uni z.hang b.hang⟩
  else if x.Op = 18 then .inr (if brc t x.T then wrap64 (Int.tdiv x.Imm 4) else 1, { t with ctrl := uni t.ctrl t.held })
  else if x.Op = 19 then .inr (wrap64 (Int.tdiv x.Imm 4), t)
  else if x.Op = 20 then says t ⟨3, 0, 0, 0, 0, 0, 0, 0⟩ id
  else if x.Op = 21 then says t ⟨4, 0, 0, 0, 0, 0, 0, 0⟩ id
  else if x.Op = 22 then says t ⟨5, 0, 0, 0, 0, 0, 0, 0⟩ (fun u => { u with fenced := uni u.fenced u.ctrl })
  else cal t
theorem tell_eq (t : Thr) (e : api_Event) (h : t.out.length ≤ 64) : thread_thread_tell.m t e = some (tel t e) := by
  unfold thread_thread_tell.m tel
  by_cases hl : t.out.length = 64
  · rw [if_pos (by simp [hl]), if_pos hl]
  · rw [if_neg (by simp; omega), if_neg hl, if_pos (by simp; omega)]
    rfl
theorem place_eq (t : Thr) (a : Int) : thread_thread_place.m t a = some (match plc t.locs t.base a with | some p => .inr p | none => .inl 6) := by
  unfold thread_thread_place.m plc
  by_cases h1 : ((wrap64 (a - 65536)) ≥ 0 ∧ (wrap64 (a - 65536)) < wrap64 (8 * t.locs)) ∧ Int.tmod (wrap64 (a - 65536)) 8 = 0
  · rw [if_pos (by simpa using h1), if_pos h1]
  · rw [if_neg (by simpa using h1), if_neg h1]
    by_cases h2 : (wrap64 (a - t.base) ≥ 0 ∧ wrap64 (a - t.base) < 3200) ∧ Int.tmod (wrap64 (a - t.base)) 8 = 0
    · rw [if_pos (by simpa using h2), if_pos h2]
    · rw [if_neg (by simpa using h2), if_neg h2]
theorem tdiv8 {x : Int} (h : 0 ≤ x) : Int.tdiv x 8 = x / 8 := Int.tdiv_eq_ediv_of_nonneg h
/-- Where a place lies. -/
theorem plc_bound {locs base a p : Int} (hl : 0 ≤ locs ∧ locs ≤ 16) (h : plc locs base a = some p) : (0 ≤ p ∧ p < locs) ∨ (p < 0 ∧ 0 ≤ wrap64 (-1 - p) ∧ wrap64 (-1 - p) < 400) := by
  unfold plc at h
  split at h
  · rename_i h1
    have hw : wrap64 (8 * locs) = 8 * locs := w64 (by omega)
    have he := Option.some.inj h
    rw [tdiv8 (by omega), w64 (by omega)] at he
    left; omega
  · split at h
    · rename_i h1 h2
      have he := Option.some.inj h
      have hd : wrap64 (wrap64 (a - base) / 8) = wrap64 (a - base) / 8 := w64 (by omega)
      rw [tdiv8 (by omega), hd, w64 (by omega)] at he
      right
      have : wrap64 (-1 - p) = -1 - p := w64 (by omega)
      omega
    · cases h
theorem load_eq (t : Thr) (x : api_Inst) (a : thread_cell) (ho : t.out.length ≤ 64) (hl : 0 ≤ t.locs ∧ t.locs ≤ 16) (hx : OkI x) :
    thread_thread_load.m t x a = some (match lod t x a with | .inl q => .inl q | .inr q => .inr q.2) ∧ ∀ q, lod t x a = .inr q → q.1 = 1 := by
  unfold thread_thread_load.m lod
  rw [place_eq]
  cases hp : plc t.locs t.base a.n with
  | none => exact ⟨rfl, fun q h => by cases h⟩
  | some p =>
    simp only [Option.bind_some]
    have hb := plc_bound hl hp
    by_cases hneg : p < 0
    · rw [if_pos (by simpa using hneg), if_pos hneg, if_pos (by omega), if_pos hx.T]
      by_cases h14 : x.Op = 14
      · simp [h14, uni]
      · simp [h14, uni]
    · rw [if_neg (by simpa using hneg), if_neg hneg]
      cases hans : t.answers with
      | nil => simp
      | cons n r =>
        rw [if_neg (by simp; omega), if_pos (by simp), tell_eq _ _ ho]
        simp only [Option.bind_some]
        have hg : gi (n :: r) 0 = n := rfl
        rw [hg]
        simp only [tel]
        by_cases h64 : t.out.length = 64
        · simp [h64]
        · simp only [h64, if_false]
          rw [if_pos (by simp [hans]; omega), if_pos hx.T]
          by_cases h14 : x.Op = 14
          · simp [h14, hans]
          · simp [h14, hans]
theorem store_eq (t : Thr) (x : api_Inst) (a : thread_cell) (ho : t.out.length ≤ 64) (hl : 0 ≤ t.locs ∧ t.locs ≤ 16) (hx : OkI x) :
    thread_thread_store.m t x a = some (match sto t x a with | .inl q => .inl q | .inr q => .inr q.2) ∧ ∀ q, sto t x a = .inr q → q.1 = 1 := by
  unfold thread_thread_store.m sto
  rw [place_eq]
  cases hp : plc t.locs t.base a.n with
  | none => exact ⟨rfl, fun q h => by cases h⟩
  | some p =>
    simp only [Option.bind_some]
    have hb := plc_bound hl hp
    rw [if_pos hx.T]
    by_cases h15 : x.Op = 15
    · rw [if_pos (by simpa using h15)]
      simp only [if_pos h15]
      by_cases hh : p ≥ 0 ∧ p = t.hold
      · rw [if_pos (by simpa using hh), if_pos hh, tell_eq _ _ ho]
        simp only [Option.bind_some, tel]
        by_cases h64 : t.out.length = 64
        · simp [h64]
        · have hd : (decide (p ≥ 0) && decide (p = t.hold)) = true := by simpa using hh
          simp [h64, hd]
      · rw [if_neg (by simpa using hh), if_neg hh]
        have hd : (decide (p ≥ 0) && decide (p = t.hold)) = false := by simpa using hh
        simp [hd]
    · rw [if_neg (by simpa using h15)]
      simp only [if_neg h15]
      by_cases hneg : p < 0
      · rw [if_pos (by simpa using hneg), if_pos hneg, if_pos (by omega)]
        simp [uni]
      · rw [if_neg (by simpa using hneg), if_neg hneg, tell_eq _ _ ho]
        simp only [Option.bind_some, tel]
        by_cases h64 : t.out.length = 64
        · simp [h64]
        · simp [h64]
theorem or_eq (t : Thr) (x : api_Inst) (hx : OkI x) : thread_thread_or.m t x.A = some (zof t x) := by
  unfold thread_thread_or.m zof
  by_cases h : x.A = 0
  · simp [h]
  · simp [h, hx.A]
theorem call_eq (t : Thr) (ho : t.out.length ≤ 64) : thread_thread_call.m t = some (match cal t with | .inl q => .inl q | .inr q => .inr q.2) ∧ ∀ q, cal t = .inr q → q.1 = 1 := by
  unfold thread_thread_call.m cal
  by_cases h0 : (vg t.regs 0).n = 0
  · simp [h0]
  by_cases h1 : (vg t.regs 0).n = 1
  · simp only [h0, h1, decide_true, if_true, says, tell_eq _ _ ho, Option.bind_some, if_false, decide_false, Bool.false_eq_true]
    generalize tel t _ = q; cases q <;> simp
  by_cases h2 : (vg t.regs 0).n = 2
  · simp [h0, h1, h2]
  by_cases h3 : (vg t.regs 0).n = 3
  · simp [h0, h1, h2, h3]
  · simp [h0, h1, h2, h3]
theorem quo_eq (a b : Int) : thread_quotient.m a b = some (quo a b) := by
  unfold thread_quotient.m quo
  by_cases h : b = 0 <;> simp [h]
set_option maxHeartbeats 2000000 in
/-- One instruction. -/
theorem step_eq (t : Thr) (x : api_Inst) (ho : t.out.length ≤ 64) (hl : 0 ≤ t.locs ∧ t.locs ≤ 16) (hx : OkI x) : thread_thread_step.m t x = some (cstep t x) := by
  have hL := fun a => load_eq t x a ho hl hx
  have hS := fun a => store_eq t x a ho hl hx
  have hC := call_eq t ho
  unfold thread_thread_step.m
  rw [if_pos hx.A, if_pos hx.B, or_eq t x hx]
  simp only [Option.bind_some, if_pos hx.T]
  have hop := hx.Op
  obtain ⟨op, T, A, B, imm⟩ := x
  simp only at hop
  have : op = 1 ∨ op = 2 ∨ op = 3 ∨ op = 4 ∨ op = 5 ∨ op = 6 ∨ op = 7 ∨ op = 8 ∨ op = 9 ∨ op = 10 ∨ op = 11 ∨ op = 12 ∨ op = 13 ∨ op = 14 ∨ op = 15 ∨ op = 16 ∨ op = 17 ∨ op = 18 ∨ op = 19 ∨ op = 20 ∨ op = 21 ∨ op = 22 ∨ op = 23 := by omega
  have keyL : ∀ a, (((thread_thread_load.m t ⟨op, T, A, B, imm⟩ a).bind fun r => match r with | .inl p => ((some (Sum.inl (p.1, p.2))).map Sum.inr : Option (Thr ⊕ ((Int × Thr) ⊕ (Int × Thr)))) | .inr r => (some (Sum.inl r))).bind fun o => match o with | .inl s => (some (Sum.inr (1, s))) | .inr r => some r) = some (lod t ⟨op, T, A, B, imm⟩ a) := by
    intro a
    have h1 := (hL a).2
    rw [(hL a).1]
    cases hq : lod t ⟨op, T, A, B, imm⟩ a with
    | inl q => rfl
    | inr q => have := h1 q hq; rcases q with ⟨d, q⟩; simp only at this; subst this; rfl
  have keyS : ∀ a, (((thread_thread_store.m t ⟨op, T, A, B, imm⟩ a).bind fun r => match r with | .inl p => ((some (Sum.inl (p.1, p.2))).map Sum.inr : Option (Thr ⊕ ((Int × Thr) ⊕ (Int × Thr)))) | .inr r => (some (Sum.inl r))).bind fun o => match o with | .inl s => (some (Sum.inr (1, s))) | .inr r => some r) = some (sto t ⟨op, T, A, B, imm⟩ a) := by
    intro a
    have h1 := (hS a).2
    rw [(hS a).1]
    cases hq : sto t ⟨op, T, A, B, imm⟩ a with
    | inl q => rfl
    | inr q => have := h1 q hq; rcases q with ⟨d, q⟩; simp only at this; subst this; rfl
  have keyC : (((thread_thread_call.m t).bind fun r => match r with | .inl p => ((some (Sum.inl (p.1, p.2))).map Sum.inr : Option (Thr ⊕ ((Int × Thr) ⊕ (Int × Thr)))) | .inr r => (some (Sum.inl r))).bind fun o => match o with | .inl s => (some (Sum.inr (1, s))) | .inr r => some r) = some (cal t) := by
    have h1 := hC.2
    rw [hC.1]
    cases hq : cal t with
    | inl q => rfl
    | inr q => have := h1 q hq; rcases q with ⟨d, q⟩; simp only at this; subst this; rfl
  have keyT : ∀ e (f : Thr → Thr), (((thread_thread_tell.m t e).bind fun r => match r with | .inl p => ((some (Sum.inl (p.1, p.2))).map Sum.inr : Option (Thr ⊕ ((Int × Thr) ⊕ (Int × Thr)))) | .inr r => (some (Sum.inl (f r)))).bind fun o => match o with | .inl s => (some (Sum.inr (1, s))) | .inr r => some r) = some (says t e f) := by
    intro e f
    rw [tell_eq _ _ ho, says]
    cases tel t e <;> rfl
  rcases this with rfl | rfl | rfl | rfl | rfl | rfl | rfl | rfl | rfl | rfl | rfl | rfl | rfl | rfl | rfl | rfl | rfl | rfl | rfl | rfl | rfl | rfl | rfl
  case inr.inr.inr.inr.inr.inr.inr.inr.inl => simp [quo_eq, thread_two.m, cstep, setR, uni]
  case inr.inr.inr.inr.inr.inr.inr.inr.inr.inl => exact keyL _
  case inr.inr.inr.inr.inr.inr.inr.inr.inr.inr.inl => exact keyS _
  case inr.inr.inr.inr.inr.inr.inr.inr.inr.inr.inr.inl => exact keyL _
  case inr.inr.inr.inr.inr.inr.inr.inr.inr.inr.inr.inr.inl => exact keyS _
  case inr.inr.inr.inr.inr.inr.inr.inr.inr.inr.inr.inr.inr.inl => exact keyL _
  case inr.inr.inr.inr.inr.inr.inr.inr.inr.inr.inr.inr.inr.inr.inl => exact keyS _
  case inr.inr.inr.inr.inr.inr.inr.inr.inr.inr.inr.inr.inr.inr.inr.inr.inr.inl =>
    simp only [cstep, brc, thread_thread_branch.m]
    by_cases h0 : T = 0
    · subst h0; cases t.less <;> simp [uni]
    by_cases h1 : T = 1
    · subst h1; cases t.less <;> simp [uni]
    by_cases h2 : T = 2
    · subst h2; cases t.same <;> simp [uni]
    · cases t.same <;> simp [h0, h1, h2, uni]
  case inr.inr.inr.inr.inr.inr.inr.inr.inr.inr.inr.inr.inr.inr.inr.inr.inr.inr.inr.inl => exact keyT _ _
  case inr.inr.inr.inr.inr.inr.inr.inr.inr.inr.inr.inr.inr.inr.inr.inr.inr.inr.inr.inr.inl => exact keyT _ _
  case inr.inr.inr.inr.inr.inr.inr.inr.inr.inr.inr.inr.inr.inr.inr.inr.inr.inr.inr.inr.inr.inl => exact keyT _ _
  case inr.inr.inr.inr.inr.inr.inr.inr.inr.inr.inr.inr.inr.inr.inr.inr.inr.inr.inr.inr.inr.inr => exact keyC
  all_goals simp [cstep, setR, thread_two.m, uni]
end Go.Proofs.Ytcnchjlomcafeaa.W
