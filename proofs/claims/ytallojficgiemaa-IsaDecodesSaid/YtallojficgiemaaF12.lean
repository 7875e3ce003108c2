/- Functions of the program as plain Lean functions, and that the calls do what they say: written by wip/tools/walk.py. -/
import Derived.Test.YtallojficgiemaaTy
import Derived.Test.YtallojficgiemaaF0
import Derived.Test.YtallojficgiemaaF1
import Derived.Test.YtallojficgiemaaF2
import Derived.Test.YtallojficgiemaaF3
import Derived.Test.YtallojficgiemaaF4
import Derived.Test.YtallojficgiemaaF5
import Derived.Test.YtallojficgiemaaF6
import Derived.Test.YtallojficgiemaaF7
import Derived.Test.YtallojficgiemaaF8
import Derived.Test.YtallojficgiemaaF9
import Derived.Test.YtallojficgiemaaF10
import Derived.Test.YtallojficgiemaaF11
set_option linter.unusedVariables false
set_option linter.unusedSimpArgs false
set_option linter.unusedSectionVars false
namespace Go.Proofs.Ytallojficgiemaa.W
open Go Go.RowKit Go.Proofs.Ytallojficgiemaa.B
attribute [local irreducible] Go.wpList Go.Code.wp Go.Region.wanted Go.yielded
/-! ### selvage/selvageref15.bits: function 21 -/
def selvageref15_bits.m (a0 : Int) (a1 : Int) (a2 : Int) : Int := wrap64 (((a0 * 2 ^ (min ((a1) % 18446744073709551616).toNat 32)) % 4294967296) / 2 ^ (min ((wrap64 (32 - a2)) % 18446744073709551616).toNat 32))
set_option maxHeartbeats 4000000 in
set_option maxRecDepth 100000 in
theorem selvageref15_bits.calls (a0 : Int) (a1 : Int) (a2 : Int) (w : World) :
    Ret Try.prog 21 [.int .u32 a0, .int .i64 a1, .int .i64 a2] w fun v w' => v = .int .i64 (selvageref15_bits.m a0 a1 a2) ∧ Below w.heap.size w w' := by
  obtain ⟨r, H⟩ : ∃ r, selvageref15_bits.m a0 a1 a2 = r := ⟨_, rfl⟩
  rw [H]
  unfold selvageref15_bits.m at H
  have hp0 := Hp.start w
  refine enter (L := [(0, .int .u32 a0), (1, .int .i64 a1), (2, .int .i64 a2)]) Try.func21 rfl Try.ntmps21 rfl rfl ?_
  refine k_seq ?_
  refine k_region ?_
  refine sv (v := .int .i64 0) rfl rfl rfl (e_assign rfl) ?_
  refine k_nil ?_
  refine k_seq ?_
  refine k_region ?_
  refine sv (v := .int .u32 a0) rfl rfl rfl (e_move (tm rfl rfl)) ?_
  refine sv (v := .int .i64 a1) rfl rfl rfl (e_move (tm rfl rfl)) ?_
  refine sv (v := .int .u64 ((a1) % 18446744073709551616)) rfl rfl rfl (e_conv (tm rfl rfl) Try.runUnderlying3 Try.runUnderlying43 (wrap_u64 _)) ?_
  refine sv (v := .int .u32 ((a0 * 2 ^ (min ((a1) % 18446744073709551616).toNat 32)) % 4294967296)) rfl rfl rfl (e_bin (tm rfl rfl) (tm rfl rfl) (r_shl (Int.emod_nonneg _ (by decide)) (wrap_u32 _))) ?_
  refine sv (v := .int .i64 a2) rfl rfl rfl (e_move (tm rfl rfl)) ?_
  refine sv (v := .int .i64 (wrap64 (32 - a2))) rfl rfl rfl (e_bin rfl (tm rfl rfl) (r_sub (wrap_i64 _))) ?_
  refine sv (v := .int .u64 ((wrap64 (32 - a2)) % 18446744073709551616)) rfl rfl rfl (e_conv (tm rfl rfl) Try.runUnderlying3 Try.runUnderlying43 (wrap_u64 _)) ?_
  refine sv (v := .int .u32 (((a0 * 2 ^ (min ((a1) % 18446744073709551616).toNat 32)) % 4294967296) / 2 ^ (min ((wrap64 (32 - a2)) % 18446744073709551616).toNat 32))) rfl rfl rfl (e_bin (tm rfl rfl) (tm rfl rfl) (r_shr (Int.emod_nonneg _ (by decide)) (fdp _ _ rfl))) ?_
  refine sv (v := .int .i64 (wrap64 (((a0 * 2 ^ (min ((a1) % 18446744073709551616).toNat 32)) % 4294967296) / 2 ^ (min ((wrap64 (32 - a2)) % 18446744073709551616).toNat 32)))) rfl rfl rfl (e_conv (tm rfl rfl) Try.runUnderlying25 Try.runUnderlying3 (wrap_i64 _)) ?_
  refine sv (v := .int .i64 (wrap64 (((a0 * 2 ^ (min ((a1) % 18446744073709551616).toNat 32)) % 4294967296) / 2 ^ (min ((wrap64 (32 - a2)) % 18446744073709551616).toNat 32)))) rfl rfl rfl (e_assign (tm rfl rfl)) ?_
  refine k_nil ?_
  refine k_ret ?_
  obtain rfl := id H
  exact k_end rfl (.tmp rfl rfl .nil) rfl ⟨rfl, hp0.below⟩

end Go.Proofs.Ytallojficgiemaa.W
