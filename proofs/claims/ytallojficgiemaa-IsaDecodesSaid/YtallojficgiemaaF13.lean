/- Functions of the program as plain Lean functions, and that the calls do what they say: written by wip/tools/walk.py. -/
import Derived.Test.YtallojficgiemaaTy
import Derived.Test.YtallojficgiemaaF0
import Derived.Test.YtallojficgiemaaF1
import Derived.Test.YtallojficgiemaaF2
import Derived.Test.YtallojficgiemaaF3
import Derived.Test.YtallojficgiemaaF4
import Derived.Test.YtallojficgiemaaF5
import Derived.Test.YtallojficgiemaaF6
import Derived.Test.YtallojficgiemaaF7
import Derived.Test.YtallojficgiemaaF8
import Derived.Test.YtallojficgiemaaF9
import Derived.Test.YtallojficgiemaaF10
import Derived.Test.YtallojficgiemaaF11
import Derived.Test.YtallojficgiemaaF12
set_option linter.unusedVariables false
set_option linter.unusedSimpArgs false
set_option linter.unusedSectionVars false
namespace Go.Proofs.Ytallojficgiemaa.W
open Go Go.RowKit Go.Proofs.Ytallojficgiemaa.B
attribute [local irreducible] Go.wpList Go.Code.wp Go.Region.wanted Go.yielded
/-! ### selvage/selvageref15.signed: function 22 -/
def selvageref15_signed.m (a0 : Int) (a1 : Int) : Int := if (decide (a0 ≥ (wrap64 (1 * 2 ^ (min ((wrap64 (a1 - 1)) % 18446744073709551616).toNat 64))))) = true then (wrap64 (a0 - (wrap64 (1 * 2 ^ (min ((a1) % 18446744073709551616).toNat 64))))) else (a0)
set_option maxHeartbeats 4000000 in
set_option maxRecDepth 100000 in
theorem selvageref15_signed.calls (a0 : Int) (a1 : Int) (w : World) :
    Ret Try.prog 22 [.int .i64 a0, .int .i64 a1] w fun v w' => v = .int .i64 (selvageref15_signed.m a0 a1) ∧ Below w.heap.size w w' := by
  obtain ⟨r, H⟩ : ∃ r, selvageref15_signed.m a0 a1 = r := ⟨_, rfl⟩
  rw [H]
  unfold selvageref15_signed.m at H
  have hp0 := Hp.start w
  refine enter (L := [(0, .int .i64 a0), (1, .int .i64 a1)]) Try.func22 rfl Try.ntmps22 rfl rfl ?_
  refine k_seq ?_
  refine k_region ?_
  refine sv (v := .int .i64 0) rfl rfl rfl (e_assign rfl) ?_
  refine k_nil ?_
  refine k_seq ?_
  refine k_seq ?_
  refine k_region ?_
  refine sv (v := .int .i64 a0) rfl rfl rfl (e_move (tm rfl rfl)) ?_
  refine sv (v := .int .i64 a1) rfl rfl rfl (e_move (tm rfl rfl)) ?_
  refine sv (v := .int .i64 (wrap64 (a1 - 1))) rfl rfl rfl (e_bin (tm rfl rfl) rfl (r_sub (wrap_i64 _))) ?_
  refine sv (v := .int .u64 ((wrap64 (a1 - 1)) % 18446744073709551616)) rfl rfl rfl (e_conv (tm rfl rfl) Try.runUnderlying3 Try.runUnderlying43 (wrap_u64 _)) ?_
  refine sv (v := .int .i64 (wrap64 (1 * 2 ^ (min ((wrap64 (a1 - 1)) % 18446744073709551616).toNat 64)))) rfl rfl rfl (e_bin rfl (tm rfl rfl) (r_shl (Int.emod_nonneg _ (by decide)) (wrap_i64 _))) ?_
  refine sv (v := .bool (decide (a0 ≥ (wrap64 (1 * 2 ^ (min ((wrap64 (a1 - 1)) % 18446744073709551616).toNat 64)))))) rfl rfl rfl (e_bin (tm rfl rfl) (tm rfl rfl) (r_geq rfl)) ?_
  refine k_nil ?_
  refine k_if (tm rfl rfl) (fun h1 => ?_) (fun h1 => ?_)
  · have H := ift h1 H
    refine k_seq ?_
    refine k_region ?_
    refine sv (v := .int .i64 a0) rfl rfl rfl (e_move (tm rfl rfl)) ?_
    refine sv (v := .int .i64 a1) rfl rfl rfl (e_move (tm rfl rfl)) ?_
    refine sv (v := .int .u64 ((a1) % 18446744073709551616)) rfl rfl rfl (e_conv (tm rfl rfl) Try.runUnderlying3 Try.runUnderlying43 (wrap_u64 _)) ?_
    refine sv (v := .int .i64 (wrap64 (1 * 2 ^ (min ((a1) % 18446744073709551616).toNat 64)))) rfl rfl rfl (e_bin rfl (tm rfl rfl) (r_shl (Int.emod_nonneg _ (by decide)) (wrap_i64 _))) ?_
    refine sv (v := .int .i64 (wrap64 (a0 - (wrap64 (1 * 2 ^ (min ((a1) % 18446744073709551616).toNat 64)))))) rfl rfl rfl (e_bin (tm rfl rfl) (tm rfl rfl) (r_sub (wrap_i64 _))) ?_
    refine sv (v := .int .i64 (wrap64 (a0 - (wrap64 (1 * 2 ^ (min ((a1) % 18446744073709551616).toNat 64)))))) rfl rfl rfl (e_assign (tm rfl rfl)) ?_
    refine k_nil ?_
    refine k_ret ?_
    obtain rfl := id H
    exact k_end rfl (.tmp rfl rfl .nil) rfl ⟨rfl, hp0.below⟩
  have H := iff_ h1 H
  refine k_skip ?_
  refine k_seq ?_
  refine k_region ?_
  refine sv (v := .int .i64 a0) rfl rfl rfl (e_move (tm rfl rfl)) ?_
  refine sv (v := .int .i64 a0) rfl rfl rfl (e_assign (tm rfl rfl)) ?_
  refine k_nil ?_
  refine k_ret ?_
  obtain rfl := id H
  exact k_end rfl (.tmp rfl rfl .nil) rfl ⟨rfl, hp0.below⟩

end Go.Proofs.Ytallojficgiemaa.W
