/- PQ: several texts in one. -/
import Derived.Test.YtgjibbicplbgbaaPP
import Derived.Test.YtgjibbicplbgbaaQC
set_option linter.unusedVariables false
set_option linter.unusedSimpArgs false
set_option linter.unusedSectionVars false
namespace Go.Proofs.Ytgjibbicplbgbaa.W
open Go Go.RowKit Go.Proofs.Ytgjibbicplbgbaa Go.Proofs.Ytgjibbicplbgbaa.X
open Go.Proofs.Ytgjibbicplbgbaa.B (wr aget aset loop loop_in loop_out loop_tot qf flt i2f feq fls isnan)

theorem pureAllocSlots (a : List api_Ins) (l : List api_Loc) (regs : Int) : selvagelaw14_AllocSlots.m a l regs = some true := by
  suffices h : Tot (fun b => b = true) (selvagelaw14_AllocSlots.m a l regs) by
    obtain ⟨b, e, rfl⟩ := h; exact e
  unfold selvagelaw14_AllocSlots.m
  refine .bindE selvagelaw14_awake_eq (.tt rfl ?_)
  refine .bind (R := fun b => b = false → a.length ≤ 200 ∧ l.length ≤ 16) (.ite (fun _ => .some fun e => by cases e) fun h => .some fun e => ?_) fun b hb => .ite (fun _ => .some rfl) fun hbf => ?_
  · have := of_decide_eq_false e; omega
  obtain ⟨ha, hl⟩ := hb (by simpa using hbf)
  refine .bind (homes_T a l regs (by omega) hl) fun r hr => ?_
  cases r with
  | inl n => exact .ff (by simp only [] at hr; omega) (.some rfl)
  | inr z =>
    obtain ⟨hg, r1, r8, rfl, hi⟩ := hr
    have ho := hi.o
    generalize (hs a regs a.length).slots = slots at *
    generalize (hs a regs a.length).out = out at *
    have hol := ho.o1
    have h3 : loop (selvagelaw14_AllocSlots.l3 (out, out.length)) ((0, 0) : Int × Int) = some slots := by
      rw [← ho.ca]
      refine count_loop (p := inSlot) (fun i n hi h0 hn => ?_) fun n => by unfold selvagelaw14_AllocSlots.l3; dsimp only; rw [if_neg (by omega)]
      unfold selvagelaw14_AllocSlots.l3
      dsimp only
      rw [if_pos (by omega), if_pos (by omega), if_pos (by omega)]
      simp only [letC]
      rw [wr64 (by omega), wr64 (by omega)]
      by_cases c1 : (gi out (i : Int)).Reg < 0
      · by_cases c2 : (gi out (i : Int)).Slot ≥ 0
        · rw [if_pos c1, if_pos c2, if_pos (show inSlot (gi out (i : Int)) = true by simp [inSlot, c1]; omega)]; rfl
        · rw [if_pos c1, if_neg c2, if_neg (show ¬ inSlot (gi out (i : Int)) = true by simp [inSlot, c1]; omega)]; rfl
      · rw [if_neg c1, if_neg (show ¬ inSlot (gi out (i : Int)) = true by simp [inSlot, c1])]; rfl
    have h5 : ∀ s : Int, 0 ≤ s → s < slots → loop (selvagelaw14_AllocSlots.l5 (out, out.length) s) ((0, 0) : Int × Int) = some 1 := fun s s0 s1 => by
      rw [show (1 : Int) = (out.countP (isSlot s) : Int) by rw [ho.cs s s0 s1]; rfl]
      refine count_loop (p := isSlot s) (fun i n hi h0 hn => ?_) fun n => by unfold selvagelaw14_AllocSlots.l5; dsimp only; rw [if_neg (by omega)]
      unfold selvagelaw14_AllocSlots.l5
      dsimp only
      rw [if_pos (by omega), if_pos (by omega), if_pos (by omega)]
      simp only [letC]
      rw [wr64 (by omega), wr64 (by omega)]
      by_cases c1 : (gi out (i : Int)).Reg < 0
      · by_cases c2 : (gi out (i : Int)).Slot = s
        · rw [if_pos c1, if_pos c2, if_pos (show isSlot s (gi out (i : Int)) = true by simp [isSlot, c1, c2])]; rfl
        · rw [if_pos c1, if_neg c2, if_neg (show ¬ isSlot s (gi out (i : Int)) = true by simp [isSlot, c1, c2])]; rfl
      · rw [if_neg c1, if_neg (show ¬ isSlot s (gi out (i : Int)) = true by simp [isSlot, c1])]; rfl
    have hs0 := ho.s0
    dsimp only
    refine .bindE h3 ?_
    refine .bind (R := fun o => o = .inr ()) ?_ fun o h => by subst h; exact .some rfl
    refine loop_T slots.toNat (fun i s => s = (i : Int)) (fun i s hi hs => ?_) (fun s hs => ?_) rfl
    · subst hs
      unfold selvagelaw14_AllocSlots.l4
      refine .tt (by omega) (.bindE (h5 i (by omega) (by omega)) (.tt rfl (.some ?_)))
      simp only []
      rw [wr64 (by omega)]; rfl
    · subst hs
      unfold selvagelaw14_AllocSlots.l4
      exact .ff (by omega) (.some rfl)
end Go.Proofs.Ytgjibbicplbgbaa.W
