/- Functions of the program as plain Lean functions, and that the calls do what they say: written by w2.py. -/
import Derived.Test.YtcnchjlomcafeaaDefer
import Derived.Test.YtcnchjlomcafeaaTy
set_option linter.unusedVariables false
set_option linter.unusedSimpArgs false
set_option linter.unusedSectionVars false
namespace Go.Proofs.Ytcnchjlomcafeaa.W
open Go Go.RowKit Go.Proofs.Ytcnchjlomcafeaa.B
attribute [local irreducible] Go.wpList Go.Code.wp Go.Region.wanted Go.yielded
/-! ### selvage/isa.cond: function 33 -/
def isa_cond.m (a0 : Int) : Int :=
  if (decide (a0 = 0)) = true then (25165824) else (if (decide (a0 = 1)) = true then (8388608) else (if (decide (a0 = 2)) = true then (25296896) else (8519680)))
set_option maxHeartbeats 4000000 in
set_option maxRecDepth 100000 in
theorem isa_cond.calls (a0 : Int) (w : World) :
    Ret Try.prog 33 [.int .i64 a0] w fun v w' => v = .int .u32 (isa_cond.m a0) ∧ Aft w w' [] [] := by
  obtain ⟨r, H⟩ : ∃ r, isa_cond.m a0 = r := ⟨_, rfl⟩
  rw [H]
  unfold isa_cond.m at H
  have hp0 := Hp.startR (F := no) (R := []) (Have.nil w) (fun _ h => h.elim)
  have ep0 := Ep.refl no [] w
  refine enter (L := [(0, .int .i64 a0)]) Try.func33 rfl Try.ntmps33 rfl rfl ?_
  refine k_seq ?_
  refine k_region ?_
  refine sv (v := .int .u32 0) rfl rfl rfl (e_assign rfl) ?_
  refine k_nil ?_
  refine k_seq ?_
  refine k_seq ?_
  refine k_region ?_
  refine sv (v := .int .i64 a0) rfl rfl rfl (e_move (tm rfl rfl)) ?_
  refine k_nil ?_
  refine k_block ?_
  refine k_seq ?_
  refine k_region ?_
  refine sv (v := .bool (decide (a0 = 0))) rfl rfl rfl (e_bin (tm rfl rfl) rfl (r_eql rfl)) ?_
  refine sv (v := .bool (decide (a0 = 0))) rfl rfl rfl (e_assign (tm rfl rfl)) ?_
  refine k_nil ?_
  refine k_if (tm rfl rfl) (fun h_1 => ?_) (fun h_1 => ?_)
  · have H := ift h_1 H
    refine k_seq ?_
    refine k_region ?_
    refine sv (v := .int .u32 25165824) rfl rfl rfl (e_assign rfl) ?_
    refine k_nil ?_
    refine k_ret ?_
    refine q_ret ?_
    obtain rfl := id H
    exact k_end rfl (.tmp rfl rfl .nil) rfl ⟨rfl, (hp0).aft⟩
  have H := iff_ h_1 H
  refine k_seq ?_
  refine k_region ?_
  refine sv (v := .bool (decide (a0 = 1))) rfl rfl rfl (e_bin (tm rfl rfl) rfl (r_eql rfl)) ?_
  refine sv (v := .bool (decide (a0 = 1))) rfl rfl rfl (e_assign (tm rfl rfl)) ?_
  refine k_nil ?_
  refine k_if (tm rfl rfl) (fun h_2 => ?_) (fun h_2 => ?_)
  · have H := ift h_2 H
    refine k_seq ?_
    refine k_region ?_
    refine sv (v := .int .u32 8388608) rfl rfl rfl (e_assign rfl) ?_
    refine k_nil ?_
    refine k_ret ?_
    refine q_ret ?_
    obtain rfl := id H
    exact k_end rfl (.tmp rfl rfl .nil) rfl ⟨rfl, (hp0).aft⟩
  have H := iff_ h_2 H
  refine k_seq ?_
  refine k_region ?_
  refine sv (v := .bool (decide (a0 = 2))) rfl rfl rfl (e_bin (tm rfl rfl) rfl (r_eql rfl)) ?_
  refine sv (v := .bool (decide (a0 = 2))) rfl rfl rfl (e_assign (tm rfl rfl)) ?_
  refine k_nil ?_
  refine k_if (tm rfl rfl) (fun h_3 => ?_) (fun h_3 => ?_)
  · have H := ift h_3 H
    refine k_seq ?_
    refine k_region ?_
    refine sv (v := .int .u32 25296896) rfl rfl rfl (e_assign rfl) ?_
    refine k_nil ?_
    refine k_ret ?_
    refine q_ret ?_
    obtain rfl := id H
    exact k_end rfl (.tmp rfl rfl .nil) rfl ⟨rfl, (hp0).aft⟩
  have H := iff_ h_3 H
  refine k_skip ?_
  refine k_seq ?_
  refine k_region ?_
  refine sv (v := .int .u32 8519680) rfl rfl rfl (e_assign rfl) ?_
  refine k_nil ?_
  refine k_ret ?_
  obtain rfl := id H
  exact k_end rfl (.tmp rfl rfl .nil) rfl ⟨rfl, (hp0).aft⟩

end Go.Proofs.Ytcnchjlomcafeaa.W
