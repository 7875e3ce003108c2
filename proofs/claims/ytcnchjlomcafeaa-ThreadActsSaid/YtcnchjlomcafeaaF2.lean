/- Functions of the program as plain Lean functions, and that the calls do what they say: written by w2.py. -/
import Derived.Test.YtcnchjlomcafeaaDefer
import Derived.Test.YtcnchjlomcafeaaTy
set_option linter.unusedVariables false
set_option linter.unusedSimpArgs false
set_option linter.unusedSectionVars false
namespace Go.Proofs.Ytcnchjlomcafeaa.W
open Go Go.RowKit Go.Proofs.Ytcnchjlomcafeaa.B
attribute [local irreducible] Go.wpList Go.Code.wp Go.Region.wanted Go.yielded
/-! ### selvage/isa.reg: function 55 -/
def isa_reg.m (a0 : Int) : Bool :=
  ((decide (a0 ≥ 0)) && (decide (a0 < 32)))
set_option maxHeartbeats 4000000 in
set_option maxRecDepth 100000 in
theorem isa_reg.calls (a0 : Int) (w : World) :
    Ret Try.prog 55 [.int .i64 a0] w fun v w' => v = .bool (isa_reg.m a0) ∧ Aft w w' [] [] := by
  obtain ⟨r, H⟩ : ∃ r, isa_reg.m a0 = r := ⟨_, rfl⟩
  rw [H]
  unfold isa_reg.m at H
  have hp0 := Hp.startR (F := no) (R := []) (Have.nil w) (fun _ h => h.elim)
  have ep0 := Ep.refl no [] w
  refine enter (L := [(0, .int .i64 a0)]) Try.func55 rfl Try.ntmps55 rfl rfl ?_
  refine k_seq ?_
  refine k_region ?_
  refine sv (v := .bool false) rfl rfl rfl (e_assign rfl) ?_
  refine k_nil ?_
  refine k_seq ?_
  refine k_region ?_
  refine sv (v := .int .i64 a0) rfl rfl rfl (e_move (tm rfl rfl)) ?_
  refine sv (v := .bool (decide (a0 ≥ 0))) rfl rfl rfl (e_bin (tm rfl rfl) rfl (r_geq rfl)) ?_
  refine sv (v := .bool (decide (a0 ≥ 0))) rfl rfl rfl (e_move (tm rfl rfl)) ?_
  refine s_gp (v := .int .i64 a0) rfl rfl rfl (beq_t _) (fun g_ => e_move (tm rfl rfl)) rfl ?_
  refine s_gp (v := .bool (decide (a0 < 32))) rfl rfl rfl (beq_t _) (fun g_ => e_bin (tmg (decide (a0 ≥ 0)) (.int .i64 a0) rfl rfl g_) rfl (r_lss rfl)) rfl ?_
  refine sv (v := .bool ((decide (a0 ≥ 0)) && (decide (a0 < 32)))) rfl rfl rfl (e_pick (v1 := .bool (decide (a0 < 32))) (v2 := .bool false) (tm rfl rfl) (fun h_ => tmg (decide (a0 ≥ 0)) (.bool (decide (a0 < 32))) rfl rfl h_) (fun _ => rfl) (pk_and (decide (a0 ≥ 0)))) ?_
  refine sv (v := .bool ((decide (a0 ≥ 0)) && (decide (a0 < 32)))) rfl rfl rfl (e_assign (tm rfl rfl)) ?_
  refine k_nil ?_
  refine k_ret ?_
  obtain rfl := id H
  exact k_end rfl (.tmp rfl rfl .nil) rfl ⟨rfl, (hp0).aft⟩

end Go.Proofs.Ytcnchjlomcafeaa.W
