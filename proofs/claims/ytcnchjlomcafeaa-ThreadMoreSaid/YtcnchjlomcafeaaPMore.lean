/- Chapter 16: ThreadMore, in plain words. -/
import Derived.Test.YtcnchjlomcafeaaPV
import Derived.Test.YtcnchjlomcafeaaF22
set_option linter.unusedVariables false
set_option linter.unusedSimpArgs false
namespace Go.Proofs.Ytcnchjlomcafeaa.W
open Go Go.RowKit Go.Proofs.Ytcnchjlomcafeaa.B
theorem ini_more (a : List api_Inst) (locs dom : Int) (ans m : List Int) : ini a locs dom (ans ++ m) = tr a m (ini a locs dom ans) := rfl
theorem more_run (a : List api_Inst) (locs dom : Int) (ans m : List Int) (h4 : (clDo a locs dom ans).Status ≠ 4) : clDo a locs dom (ans ++ m) = clDo a locs dom ans := by
  unfold clDo at h4 ⊢
  split
  · rfl
  rename_i hd
  rw [if_neg hd] at h4
  split
  · rename_i hc
    rw [if_pos hc] at h4
    rw [ini_more]
    exact cgo_sim a a a m (Nat.le_refl _) (fun _ _ _ => rfl) 8000 _ 0 (.inl rfl) (.inr h4)
  · rfl
theorem more_starved (a : List api_Inst) (locs dom : Int) (ans m : List Int) (h4 : (clDo a locs dom ans).Status = 4) : ∃ l, (clDo a locs dom (ans ++ m)).Events = (clDo a locs dom ans).Events ++ l := by
  obtain ⟨hc, hd⟩ := clDo_ok (show (clDo a locs dom ans).Status ≠ 0 by omega)
  unfold clDo at h4 ⊢
  rw [if_neg hd, if_pos hc] at h4
  rw [if_neg hd, if_pos hc, if_neg hd, if_pos hc, ini_more]
  exact cgo_more a a m hc 8000 _ 0 (by simp [ini]) h4
theorem pureThreadMore (a0 : List api_Inst) (a1 a2 : Int) (a3 a4 : List Int) : selvagelaw16_ThreadMore.m a0 a1 a2 a3 a4 = some true := by
  unfold selvagelaw16_ThreadMore.m
  rw [awake_eq]
  simp only [Option.bind_some, Bool.not_true, Bool.false_eq_true, if_false]
  by_cases hl : a0.length > 300 ∨ a3.length > 100 ∨ a4.length > 100
  · rw [if_pos (by simp; omega)]
  rw [if_neg (by simp; omega), do_eq _ _ _ _ (by omega), Option.bind_some, if_pos (by simp; omega), if_pos (by simp; omega), do_eq _ _ _ _ (by omega), Option.bind_some]
  simp only [List.nil_append]
  have hlen := clDo_len a0 a1 a2 a3
  by_cases h4 : (clDo a0 a1 a2 a3).Status = 4
  · rw [if_neg (by simp [h4])]
    obtain ⟨l, hl2⟩ := more_starved a0 a1 a2 a3 a4 h4
    have hll : (clDo a0 a1 a2 (a3 ++ a4)).Events.length = (clDo a0 a1 a2 a3).Events.length + l.length := by rw [hl2, List.length_append]
    have ht : (clDo a0 a1 a2 (a3 ++ a4)).Events.take (clDo a0 a1 a2 a3).Events.length = (clDo a0 a1 a2 a3).Events := by rw [hl2]; simp
    rw [if_pos (by simp; omega), if_pos (by omega), Int.toNat_natCast, ht, same_eq _ _ (by simp only []; omega)]
    simp
  · rw [if_pos (by simp [h4]), same_eq _ _ (by omega), more_run a0 a1 a2 a3 a4 h4]
    simp
end Go.Proofs.Ytcnchjlomcafeaa.W
