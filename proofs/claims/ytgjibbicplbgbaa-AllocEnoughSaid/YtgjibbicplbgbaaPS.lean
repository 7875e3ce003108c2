/- PS: several texts in one. -/
import Derived.Test.YtgjibbicplbgbaaPP
import Derived.Test.YtgjibbicplbgbaaQE
set_option linter.unusedVariables false
set_option linter.unusedSimpArgs false
set_option linter.unusedSectionVars false
namespace Go.Proofs.Ytgjibbicplbgbaa.W
open Go Go.RowKit Go.Proofs.Ytgjibbicplbgbaa Go.Proofs.Ytgjibbicplbgbaa.X
open Go.Proofs.Ytgjibbicplbgbaa.B (wr aget aset loop loop_in loop_out loop_tot qf flt i2f feq fls isnan)

/-- A temp is needed at a place. -/
def need (code : List api_Ins) (m : Nat) (t : Int) : Bool := match alloc_Span.m code t with
  | some r => r.2.2 && decide (r.1 ≤ m) && decide ((m : Int) ≤ r.2.1)
  | none => false
/-- How many of the first n. -/
def needs (code : List api_Ins) (m : Nat) : Nat → Nat
  | 0 => 0
  | n + 1 => needs code m n + if need code m n = true then 1 else 0
theorem needs_le (code : List api_Ins) (m : Nat) : ∀ n, needs code m n ≤ n
  | 0 => Nat.le_refl _
  | n + 1 => by have := needs_le code m n; simp only [needs]; split <;> omega
theorem needs_len (code : List api_Ins) (m n : Nat) : needs code m n = (((List.range n).map fun t : Nat => (t : Int)).filter (need code m)).length := by
  induction n with
  | zero => rfl
  | succ n ih =>
    rw [List.range_succ, List.map_append, List.filter_append, List.length_append, ← ih]
    simp only [needs, List.map_cons, List.map_nil]
    by_cases h : need code m (n : Int) = true
    · rw [if_pos h, List.filter_cons_of_pos h]; rfl
    · rw [if_neg h, List.filter_cons_of_neg h]; rfl
theorem over_needs {code : List api_Ins} {regs : Int} {m n : Nat} (hn : code.length ≤ 400) (hg : Good code code.length) (hm : m < code.length) (hd : ∀ j : Nat, j < code.length → mks (gi code j) = true → (gi code j).D < n) (h : Over code regs m) : regs < (needs code m n : Int) := by
  obtain ⟨l, hl, hnd, hall⟩ := h
  have := sub_len (m := ((List.range n).map fun t : Nat => (t : Int)).filter (need code m)) hnd fun t ht => by
    obtain ⟨a, ha, rfl⟩ := List.mem_map.1 ht
    obtain ⟨j, hj, hmk, e, hto⟩ := hall a ha
    have hD := hg j (by omega) hmk
    rw [List.mem_filter, List.mem_map]
    have et : a.temp = (gi code j).D := by rw [e, (spn_t code j).1]
    refine ⟨⟨(gi code j).D.toNat, List.mem_range.2 (by have := hd j (by omega) hmk; omega), by rw [et]; omega⟩, ?_⟩
    unfold need
    rcases span_c hn a.temp with ⟨k, hk, hmk', hD', e'⟩ | ⟨hno, _⟩
    · have hkj : k = j := by
        rcases Nat.lt_trichotomy k j with c | c | c
        · exact absurd (hD'.trans et) ((hg j (by omega) hmk).2.2 k c hmk')
        · exact c
        · exact absurd (et.symm.trans hD'.symm) ((hg k hk hmk').2.2 j c hmk)
      subst hkj
      rw [e']
      rw [e] at hto
      simp; omega
    · exact absurd et.symm (hno j (by omega) hmk)
  rw [needs_len]
  rw [List.length_map] at this
  omega
theorem pureAllocEnough (a : List api_Ins) (l : List api_Loc) (regs : Int) : selvagelaw14_AllocEnough.m a l regs = some true := by
  suffices h : Tot (fun b => b = true) (selvagelaw14_AllocEnough.m a l regs) by
    obtain ⟨b, e, rfl⟩ := h; exact e
  unfold selvagelaw14_AllocEnough.m
  refine .bindE selvagelaw14_awake_eq (.tt rfl ?_)
  refine .bind (R := fun b => b = false → a.length ≤ 120 ∧ l.length ≤ 16) (.ite (fun _ => .some fun e => by cases e) fun h => .ite (fun _ => .some fun e => by cases e) fun h2 => .ite (fun _ => .some fun e => by cases e) fun h3 => .some fun e => ⟨by omega, by omega⟩) fun b hb => .ite (fun _ => .some rfl) fun hbf => ?_
  obtain ⟨ha, hl⟩ := hb (by simpa using hbf)
  refine .bind (homes_T a l regs (by omega) hl) fun r hr => ?_
  cases r with
  | inl n => exact .ff (by simp only [] at hr; omega) (.some rfl)
  | inr z =>
    obtain ⟨hg, r1, r8, rfl, hi⟩ := hr
    have ho := hi.o
    have hen := hi.en
    generalize (hs a regs a.length).slots = slots at *
    generalize (hs a regs a.length).out = out at *
    have hol := ho.o1
    have hnb := needs_le a
    have h5 : ∀ m : Nat, loop (selvagelaw14_AllocEnough.l5 a (out, out.length) m) ((0, 0) : Int × Int) = some (needs a m out.length : Int) := fun m => by
      refine loop_st (f := selvagelaw14_AllocEnough.l5 a (out, out.length) m) out.length (fun i => ((needs a m i : Int), (i : Int))) _ (fun i hi => ?_) ?_
      · unfold selvagelaw14_AllocEnough.l5
        dsimp only
        have := hnb m i
        rw [if_pos (by omega)]
        simp only [needs, letC]
        rw [wr64 (by omega), wr64 (by omega)]
        have key : ∀ r : Int × Int × Bool, alloc_Span.m a (i : Int) = some r → (if r.2.2 = true then (if r.1 ≤ (m : Int) then (some ((decide ((m : Int) ≤ r.2.1)) : Bool)) else (some (false : Bool))) else (some (false : Bool))) = some (need a m i) := fun r e => by
          unfold need
          rw [e]
          cases hb : r.2.2 <;> by_cases c : r.1 ≤ (m : Int) <;> simp [hb, c]
        rcases span_c (code := a) (by omega) (i : Int) with ⟨j, _, _, _, e⟩ | ⟨_, e⟩
        · have := key _ e
          rw [e, Option.bind_some, this, Option.bind_some]
          by_cases hb : need a m i = true
          · rw [if_pos hb, if_pos hb]; simp
          · rw [if_neg hb, if_neg hb]; simp
        · have := key _ e
          rw [e, Option.bind_some, this, Option.bind_some]
          by_cases hb : need a m i = true
          · rw [if_pos hb, if_pos hb]; simp
          · rw [if_neg hb, if_neg hb]; simp
      · unfold selvagelaw14_AllocEnough.l5
        dsimp only
        rw [if_neg (by omega)]
    dsimp only
    refine .bind (R := fun o => o = .inr () → slots = 0) ?_ fun o hz => ?_
    · refine loop_T a.length (fun i s => s = (i : Int) ∧ ∀ m : Nat, m < i → ¬ regs < (needs a m out.length : Int)) (fun i s hi hs => ?_) (fun s hs => ?_) ⟨rfl, fun m hm => by omega⟩
      · obtain ⟨rfl, hs⟩ := hs
        unfold selvagelaw14_AllocEnough.l4
        refine .tt (by omega) (.bindE (h5 i) (.ite (fun c => .some fun e => by cases e) fun c => .some ⟨by rw [wr64 (by omega)]; rfl, fun m hm => ?_⟩))
        by_cases e : m = i
        · subst e; exact c
        · exact hs m (by omega)
      · obtain ⟨rfl, hs⟩ := hs
        unfold selvagelaw14_AllocEnough.l4
        refine .ff (by omega) (.some fun _ => ?_)
        rcases hen with c | ⟨m, hm, c⟩
        · exact c
        · exact absurd (over_needs (by omega) hg hm ho.o2 c) (hs m hm)
    · cases o with
      | inl o => exact .some rfl
      | inr o =>
        have hz := hz rfl
        dsimp only
        refine .bind (R := fun o => o = .inr ()) ?_ fun o h => by subst h; exact .some rfl
        refine loop_T out.length (fun i s => s = (i : Int)) (fun i s hi hs => ?_) (fun s hs => ?_) rfl
        · subst hs
          unfold selvagelaw14_AllocEnough.l6
          dsimp only
          refine .tt (by omega) ?_
          rcases span_c (code := a) (by omega) (i : Int) with ⟨j, hj, hm, hD, e⟩ | ⟨_, e⟩
          · refine .bindE e (.tt rfl ?_)
            have hy := ho.ye j hj hm
            rw [hD] at hy
            refine Tot.gd (by omega) ?_
            refine Tot.gd (by omega) ?_
            simp only [letC]
            refine .ff (by omega) (.some ?_)
            simp only []
            rw [wr64 (by omega)]; rfl
          · refine .bindE e (.ff (by simp) (.some ?_))
            simp only []
            rw [wr64 (by omega)]; rfl
        · subst hs
          unfold selvagelaw14_AllocEnough.l6
          exact .ff (by simp) (.some rfl)
end Go.Proofs.Ytgjibbicplbgbaa.W
