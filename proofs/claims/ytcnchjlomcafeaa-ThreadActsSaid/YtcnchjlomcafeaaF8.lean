/- Functions of the program as plain Lean functions, and that the calls do what they say: written by w2.py. -/
import Derived.Test.YtcnchjlomcafeaaDefer
import Derived.Test.YtcnchjlomcafeaaTy
set_option linter.unusedVariables false
set_option linter.unusedSimpArgs false
set_option linter.unusedSectionVars false
namespace Go.Proofs.Ytcnchjlomcafeaa.W
open Go Go.RowKit Go.Proofs.Ytcnchjlomcafeaa.B
attribute [local irreducible] Go.wpList Go.Code.wp Go.Region.wanted Go.yielded
/-! ### selvage/thread.quotient: function 36 -/
def thread_quotient.m (a0 : Int) (a1 : Int) : Option Int :=
  if (decide (a1 = 0)) = true then (some 0) else (if a1 ≠ 0 then (some (wrap64 (Int.tdiv a0 a1))) else none)
set_option maxHeartbeats 4000000 in
set_option maxRecDepth 100000 in
theorem thread_quotient.calls (a0 : Int) (a1 : Int) (r : Int) (w : World) (H : thread_quotient.m a0 a1 = some r) :
    Ret Try.prog 36 [.int .i64 a0, .int .i64 a1] w fun v w' => v = .int .i64 r ∧ Aft w w' [] [] := by
  unfold thread_quotient.m at H
  have hp0 := Hp.startR (F := no) (R := []) (Have.nil w) (fun _ h => h.elim)
  have ep0 := Ep.refl no [] w
  refine enter (L := [(0, .int .i64 a0), (1, .int .i64 a1)]) Try.func36 rfl Try.ntmps36 rfl rfl ?_
  refine k_seq ?_
  refine k_region ?_
  refine sv (v := .int .i64 0) rfl rfl rfl (e_assign rfl) ?_
  refine k_nil ?_
  refine k_seq ?_
  refine k_seq ?_
  refine k_region ?_
  refine sv (v := .int .i64 a1) rfl rfl rfl (e_move (tm rfl rfl)) ?_
  refine sv (v := .bool (decide (a1 = 0))) rfl rfl rfl (e_bin (tm rfl rfl) rfl (r_eql rfl)) ?_
  refine k_nil ?_
  refine k_if (tm rfl rfl) (fun h_1 => ?_) (fun h_1 => ?_)
  · have H := ift h_1 H
    refine k_seq ?_
    refine k_region ?_
    refine sv (v := .int .i64 0) rfl rfl rfl (e_assign rfl) ?_
    refine k_nil ?_
    refine k_ret ?_
    obtain rfl := Option.some.inj H
    exact k_end rfl (.tmp rfl rfl .nil) rfl ⟨rfl, (hp0).aft⟩
  have H := iff_ h_1 H
  refine k_skip ?_
  refine k_seq ?_
  refine k_region ?_
  refine sv (v := .int .i64 a0) rfl rfl rfl (e_move (tm rfl rfl)) ?_
  refine sv (v := .int .i64 a1) rfl rfl rfl (e_move (tm rfl rfl)) ?_
  obtain ⟨g_2, H⟩ := grd H
  refine sv (v := .int .i64 (wrap64 (Int.tdiv a0 a1))) rfl rfl rfl (e_bin (tm rfl rfl) (tm rfl rfl) (r_div (op := .not) g_2 (wrap_i64 _))) ?_
  refine sv (v := .int .i64 (wrap64 (Int.tdiv a0 a1))) rfl rfl rfl (e_assign (tm rfl rfl)) ?_
  refine k_nil ?_
  refine k_ret ?_
  obtain rfl := Option.some.inj H
  exact k_end rfl (.tmp rfl rfl .nil) rfl ⟨rfl, (hp0).aft⟩

end Go.Proofs.Ytcnchjlomcafeaa.W
