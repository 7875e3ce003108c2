/- PR: several texts in one. -/
import Derived.Test.YtgjibbicplbgbaaPP
import Derived.Test.YtgjibbicplbgbaaQD
set_option linter.unusedVariables false
set_option linter.unusedSimpArgs false
set_option linter.unusedSectionVars false
namespace Go.Proofs.Ytgjibbicplbgbaa.W
open Go Go.RowKit Go.Proofs.Ytgjibbicplbgbaa Go.Proofs.Ytgjibbicplbgbaa.X
open Go.Proofs.Ytgjibbicplbgbaa.B (wr aget aset loop loop_in loop_out loop_tot qf flt i2f feq fls isnan)

theorem pureAllocApart (a : List api_Ins) (l : List api_Loc) (regs : Int) : selvagelaw14_AllocApart.m a l regs = some true := by
  suffices h : Tot (fun b => b = true) (selvagelaw14_AllocApart.m a l regs) by
    obtain ⟨b, e, rfl⟩ := h; exact e
  unfold selvagelaw14_AllocApart.m
  refine .bindE selvagelaw14_awake_eq (.tt rfl ?_)
  refine .bind (R := fun b => b = false → a.length ≤ 200 ∧ l.length ≤ 16) (.ite (fun _ => .some fun e => by cases e) fun h => .some fun e => ?_) fun b hb => .ite (fun _ => .some rfl) fun hbf => ?_
  · have := of_decide_eq_false e; omega
  obtain ⟨ha, hl⟩ := hb (by simpa using hbf)
  refine .bind (homes_T a l regs (by omega) hl) fun r hr => ?_
  cases r with
  | inl n => exact .ff (by simp only [] at hr; omega) (.some rfl)
  | inr z =>
    obtain ⟨hg, r1, r8, rfl, hi⟩ := hr
    have ho := hi.o
    have hA := hi.a
    generalize (hs a regs a.length).slots = slots at *
    generalize (hs a regs a.length).out = out at *
    have hol := ho.o1
    have hsl := ho.s0
    dsimp only
    refine .bind (R := fun o => o = .inr ()) ?_ fun o h => by subst h; exact .some rfl
    refine loop_T out.length (fun i s => s = (i : Int)) (fun i s hi hs => ?_) (fun s hs => ?_) rfl
    · subst hs
      unfold selvagelaw14_AllocApart.l2
      dsimp only
      refine .tt (by omega) ?_
      rcases span_c (code := a) (by omega) (i : Int) with ⟨j, hj, hm, hD, e⟩ | ⟨hno, e⟩
      · refine .bindE e (.tt rfl ?_)
        have hy := ho.ye j hj hm
        rw [hD] at hy
        have hreg : reg out (spn a j) = (gi out (i : Int)).Reg := by unfold reg; rw [(spn_t a j).1, hD]
        refine .bindE (y := false) ?_ (.ff (by simp) ?_)
        · rw [if_pos (by omega), if_pos (by omega)]
          simp only [letC]
          rcases hy with y | y
          · rw [if_neg (by omega), if_neg (by omega), if_neg (by omega), if_neg (by omega), if_pos (by omega)]
            simp [y.2.2]
          · rw [if_neg (by omega), if_neg (by omega), if_neg (by omega), if_neg (by omega), if_neg (by omega)]
        · refine .bind (R := fun o => o = .inr ()) ?_ fun o h => by subst h; exact .some (by simp only []; rw [wr64 (by omega)]; rfl)
          refine loop_T i (fun u s => s = (u : Int)) (fun u s hu hs => ?_) (fun s hs => ?_) rfl
          · subst hs
            unfold selvagelaw14_AllocApart.l3
            dsimp only
            refine .tt (by omega) ?_
            rcases span_c (code := a) (by omega) (u : Int) with ⟨k, hk, hm', hD', e'⟩ | ⟨hno, e'⟩
            · refine .bindE e' (.tt rfl ?_)
              have hreg' : reg out (spn a k) = (gi out (u : Int)).Reg := by unfold reg; rw [(spn_t a k).1, hD']
              have hy' := ho.ye k hk hm'
              rw [hD'] at hy'
              have hjk : j ≠ k := fun e => by rw [e, hD'] at hD; omega
              have huq : (gi out (i : Int)).Reg < 0 → (gi out (u : Int)).Reg < 0 → (gi out (i : Int)).Slot ≠ (gi out (u : Int)).Slot := fun c1 c2 e => by
                have := ho.uq i u (by omega) (by omega) (by omega) (by omega) c1 c2 e (by omega)
                omega
              have hap : 0 ≤ (gi out (i : Int)).Reg → (gi out (i : Int)).Reg = (gi out (u : Int)).Reg → ¬ ((k : Int) ≤ (spn a j).to_ ∧ (j : Int) ≤ (spn a k).to_) := fun c e ⟨b1, b2⟩ => by
                rcases Nat.lt_or_ge j k with c2 | c2
                · have := hA.ap j k c2 hk hm hm' (by rw [hreg]; exact c) (by rw [hreg, hreg']; exact e)
                  omega
                · have := hA.ap k j (by omega) hj hm' hm (by rw [hreg', ← e]; exact c) (by rw [hreg, hreg']; exact e.symm)
                  omega
              have last : 0 ≤ (gi out (i : Int)).Reg → (gi out (i : Int)).Reg = (gi out (u : Int)).Reg → Tot (fun b : Bool => b = false) (if (k : Int) ≤ (spn a j).to_ then (some ((decide ((j : Int) ≤ (spn a k).to_)) : Bool)) else (some (false : Bool))) := fun c e =>
                .ite (fun c2 => .some (by have := hap c e; simp; omega)) fun _ => .some rfl
              refine .bind (R := fun b => b = false) ?_ fun b h => by subst h; exact .ff (by simp) (.some (by simp only []; rw [wr64 (by omega)]; rfl))
              refine Tot.gd (by omega) ?_
              refine Tot.gd (by omega) ?_
              simp only [letC]
              refine .ite (fun c1 => ?_) fun c1 => ?_
              · refine Tot.gd (by omega) ?_
                refine Tot.gd (by omega) ?_
                refine .ite (fun c2 => ?_) fun c2 => ?_
                · exact .ff (huq c1 c2) (.ff (by omega) (.some rfl))
                · exact .ff (by omega) (.some rfl)
              · refine .tt (by omega) ?_
                refine Tot.gd (by omega) ?_
                refine Tot.gd (by omega) ?_
                exact .ite (fun c2 => last (by omega) c2) fun _ => .some rfl
            · refine .bindE e' (.ff (by simp) (.some ?_))
              simp only []
              rw [wr64 (by omega)]; rfl
          · subst hs
            unfold selvagelaw14_AllocApart.l3
            exact .ff (by omega) (.some rfl)
      · refine .bindE e (.ff (by simp) ?_)
        have := ho.no i (by omega) (by omega) hno
        refine Tot.gd (by omega) ?_
        refine Tot.gd (by omega) ?_
        simp only [letC]
        rw [this]
        refine .tt rfl (.tt rfl (.some ?_))
        simp only []
        rw [wr64 (by omega)]; rfl
    · subst hs
      unfold selvagelaw14_AllocApart.l2
      exact .ff (by simp) (.some rfl)
end Go.Proofs.Ytgjibbicplbgbaa.W
