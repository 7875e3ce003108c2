/- PW: several texts in one. -/
import Derived.Test.YtgjibbicplbgbaaPV
import Derived.Test.YtgjibbicplbgbaaQH
set_option linter.unusedVariables false
set_option linter.unusedSimpArgs false
set_option linter.unusedSectionVars false
namespace Go.Proofs.Ytgjibbicplbgbaa.W
open Go Go.RowKit Go.Proofs.Ytgjibbicplbgbaa Go.Proofs.Ytgjibbicplbgbaa.X
open Go.Proofs.Ytgjibbicplbgbaa.B (wr aget aset loop loop_in loop_out loop_tot qf flt i2f feq fls isnan)

theorem pureAllocAll (a : List api_Ins) (l : List api_Loc) (regs t : Int) : selvagelaw14_AllocAll.m a l regs t = some true := by
  suffices h : Tot (fun b => b = true) (selvagelaw14_AllocAll.m a l regs t) by
    obtain ⟨b, e, rfl⟩ := h; exact e
  unfold selvagelaw14_AllocAll.m
  refine .bindE selvagelaw14_awake_eq (.tt rfl ?_)
  refine .bind (R := fun b => b = false → a.length ≤ 120 ∧ l.length ≤ 16) (.ite (fun _ => .some fun e => by cases e) fun h => .some fun e => ?_) fun b hb => .ite (fun _ => .some rfl) fun hbf => ?_
  · have := of_decide_eq_false e; omega
  obtain ⟨ha, hl⟩ := hb (by simpa using hbf)
  have hsp := rspan_eq (code := a) (by omega) t
  have hh := rhomes a l regs (by omega) hl
  obtain ⟨s, es⟩ : ∃ s, alloc_Span.m a t = some s := by
    rcases span_c (code := a) (by omega) t with ⟨j, _, _, _, e⟩ | ⟨_, e⟩
    · exact ⟨_, e⟩
    · exact ⟨_, e⟩
  rw [es] at hsp
  refine .bindE es (.bindE hsp ?_)
  obtain ⟨r, er, hr⟩ := homes_T a l regs (by omega) hl
  rw [er] at hh
  refine .bindE er ?_
  cases r with
  | inl n =>
    refine .bindE hh (.tt rfl (.tt rfl (.tt (by simp) (.tt rfl ?_))))
    exact .bindE (y := true) (by
      unfold selvageref14_Same_2.m
      rw [if_pos (by simp), loop_out (o := .inr ()) (by unfold selvageref14_Same_2.l1; simp)]
      rfl) (.some rfl)
  | inr z =>
    obtain ⟨_, _, _, rfl, hi⟩ := hr
    have hol := hi.o.o1
    generalize (hs a regs a.length).out = out at *
    refine .bindE hh (.tt rfl (.tt rfl (.tt (by simp) ?_)))
    refine .bindE (y := true) ?_ (.some rfl)
    unfold selvageref14_Same_5.m
    rw [if_pos rfl]
    have := loop_st (f := selvageref14_Same_5.l1 out out.length out out.length) out.length (fun i => (i : Int)) (.inr ()) (fun i hi => ?_) (by unfold selvageref14_Same_5.l1; rw [if_neg (by omega)])
    · rw [show (0 : Int) = ((0 : Nat) : Int) from rfl, this]; rfl
    · unfold selvageref14_Same_5.l1
      rw [if_pos (by omega), if_pos (by omega), if_pos (by omega)]
      simp only [letC]
      rw [if_pos (by omega), if_pos (by omega), if_pos (by simp), wr64 (by omega)]
      rfl
end Go.Proofs.Ytgjibbicplbgbaa.W
