/- Chapter 16: ThreadTail, in plain words. -/
import Derived.Test.YtcnchjlomcafeaaPV
import Derived.Test.YtcnchjlomcafeaaF21
set_option linter.unusedVariables false
set_option linter.unusedSimpArgs false
namespace Go.Proofs.Ytcnchjlomcafeaa.W
open Go Go.RowKit Go.Proofs.Ytcnchjlomcafeaa.B
theorem tail_run (a b : List api_Inst) (locs dom : Int) (ans : List Int) (h6 : (clDo a locs dom ans).Status ≠ 6) (h0 : (clDo a locs dom ans).Status ≠ 0) (h1 : (clDo (a ++ b) locs dom ans).Status ≠ 0) :
    clDo (a ++ b) locs dom ans = clDo a locs dom ans := by
  obtain ⟨ha, hd⟩ := clDo_ok h0
  obtain ⟨hb, _⟩ := clDo_ok h1
  unfold clDo at h6 ⊢
  rw [if_neg hd, if_pos ha] at h6
  rw [if_neg hd, if_neg hd, if_pos ha, if_pos hb]
  have hi : ini (a ++ b) locs dom ans = tr (a ++ b) [] (ini a locs dom ans) := by simp [ini, tr]
  rw [hi]
  exact cgo_sim a (a ++ b) (a ++ b) [] (by simp) (fun i h0 h1 => gi_append_left h0 h1) 8000 _ 0 (.inr h6) (.inl rfl)
theorem pureThreadTail (a0 a1 : List api_Inst) (a2 a3 : Int) (a4 : List Int) : selvagelaw16_ThreadTail.m a0 a1 a2 a3 a4 = some true := by
  unfold selvagelaw16_ThreadTail.m
  rw [awake_eq]
  simp only [Option.bind_some, Bool.not_true, Bool.false_eq_true, if_false]
  by_cases hl : a0.length > 150 ∨ a1.length > 150 ∨ a4.length > 100
  · rw [if_pos (by simp; omega)]
  rw [if_neg (by simp; omega), do_eq _ _ _ _ (by omega), Option.bind_some]
  by_cases hs : (clDo a0 a2 a3 a4).Status = 6 ∨ (clDo a0 a2 a3 a4).Status = 0
  · rw [if_pos (by simpa using hs)]
  rw [if_neg (by simpa using hs), if_pos (by simp; omega), if_pos (by simp; omega), do_eq _ _ _ _ (by simp; omega), Option.bind_some]
  simp only [List.nil_append]
  by_cases h0 : (clDo (a0 ++ a1) a2 a3 a4).Status = 0
  · rw [if_pos (by simpa using h0)]; rfl
  · have hlen := clDo_len a0 a2 a3 a4
    rw [if_neg (by simpa using h0), same_eq _ _ (by omega), tail_run a0 a1 a2 a3 a4 (by omega) (by omega) h0]
    simp
end Go.Proofs.Ytcnchjlomcafeaa.W
