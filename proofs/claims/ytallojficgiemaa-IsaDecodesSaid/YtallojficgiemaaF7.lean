/- Functions of the program as plain Lean functions, and that the calls do what they say: written by wip/tools/walk.py. -/
import Derived.Test.YtallojficgiemaaTy
import Derived.Test.YtallojficgiemaaF0
import Derived.Test.YtallojficgiemaaF1
import Derived.Test.YtallojficgiemaaF2
import Derived.Test.YtallojficgiemaaF3
import Derived.Test.YtallojficgiemaaF4
import Derived.Test.YtallojficgiemaaF5
import Derived.Test.YtallojficgiemaaF6
set_option linter.unusedVariables false
set_option linter.unusedSimpArgs false
set_option linter.unusedSectionVars false
namespace Go.Proofs.Ytallojficgiemaa.W
open Go Go.RowKit Go.Proofs.Ytallojficgiemaa.B
attribute [local irreducible] Go.wpList Go.Code.wp Go.Region.wanted Go.yielded
/-! ### selvage/selvageref15.uses: function 16 -/
def selvageref15_uses.m (a0 : Int) : Option (ByteArray) := if 0 ≤ a0 ∧ a0 < 11 then (some (gi strE ([(⟨#[]⟩ : ByteArray), (⟨#[116, 97, 105]⟩ : ByteArray), (⟨#[116, 97, 105]⟩ : ByteArray), (⟨#[116, 97, 105]⟩ : ByteArray), (⟨#[116, 97, 98]⟩ : ByteArray), (⟨#[116, 97, 105]⟩ : ByteArray), (⟨#[97, 98]⟩ : ByteArray), (⟨#[97, 105]⟩ : ByteArray), (⟨#[116, 105]⟩ : ByteArray), (⟨#[105]⟩ : ByteArray), (⟨#[]⟩ : ByteArray)] : List ByteArray) a0)) else none
set_option maxHeartbeats 4000000 in
set_option maxRecDepth 100000 in
theorem selvageref15_uses.calls (a0 : Int) (r : ByteArray) (w : World) (H : selvageref15_uses.m a0 = some r) :
    Ret Try.prog 16 [.int .i64 a0] w fun v w' => v = .string r ∧ Below w.heap.size w w' := by
  unfold selvageref15_uses.m at H
  have hp0 := Hp.start w
  refine enter (L := [(0, .int .i64 a0)]) Try.func16 rfl Try.ntmps16 rfl rfl ?_
  refine k_seq ?_
  refine k_region ?_
  refine sv (v := .string (⟨#[]⟩ : ByteArray)) rfl rfl rfl (e_assign rfl) ?_
  refine k_nil ?_
  refine k_seq ?_
  refine k_region ?_
  refine sv (v := .agg #[.string (⟨#[]⟩ : ByteArray), .string (⟨#[116, 97, 105]⟩ : ByteArray), .string (⟨#[116, 97, 105]⟩ : ByteArray), .string (⟨#[116, 97, 105]⟩ : ByteArray), .string (⟨#[116, 97, 98]⟩ : ByteArray), .string (⟨#[116, 97, 105]⟩ : ByteArray), .string (⟨#[97, 98]⟩ : ByteArray), .string (⟨#[97, 105]⟩ : ByteArray), .string (⟨#[116, 105]⟩ : ByteArray), .string (⟨#[105]⟩ : ByteArray), .string (⟨#[]⟩ : ByteArray)]) rfl rfl rfl (e_build (vs := [(0, .string (⟨#[]⟩ : ByteArray)), (1, .string (⟨#[116, 97, 105]⟩ : ByteArray)), (2, .string (⟨#[116, 97, 105]⟩ : ByteArray)), (3, .string (⟨#[116, 97, 105]⟩ : ByteArray)), (4, .string (⟨#[116, 97, 98]⟩ : ByteArray)), (5, .string (⟨#[116, 97, 105]⟩ : ByteArray)), (6, .string (⟨#[97, 98]⟩ : ByteArray)), (7, .string (⟨#[97, 105]⟩ : ByteArray)), (8, .string (⟨#[116, 105]⟩ : ByteArray)), (9, .string (⟨#[105]⟩ : ByteArray)), (10, .string (⟨#[]⟩ : ByteArray))]) (.cons rfl (.cons rfl (.cons rfl (.cons rfl (.cons rfl (.cons rfl (.cons rfl (.cons rfl (.cons rfl (.cons rfl (.cons rfl .nil))))))))))) (by kernel_rfl)) ?_
  refine sv (v := .int .i64 a0) rfl rfl rfl (e_move (tm rfl rfl)) ?_
  obtain ⟨g1, H⟩ := grd H
  refine sv (v := .string (gi strE ([(⟨#[]⟩ : ByteArray), (⟨#[116, 97, 105]⟩ : ByteArray), (⟨#[116, 97, 105]⟩ : ByteArray), (⟨#[116, 97, 105]⟩ : ByteArray), (⟨#[116, 97, 98]⟩ : ByteArray), (⟨#[116, 97, 105]⟩ : ByteArray), (⟨#[97, 98]⟩ : ByteArray), (⟨#[97, 105]⟩ : ByteArray), (⟨#[116, 105]⟩ : ByteArray), (⟨#[105]⟩ : ByteArray), (⟨#[]⟩ : ByteArray)] : List ByteArray) a0)) rfl rfl rfl (e_index (E := strE) (xs := ([(⟨#[]⟩ : ByteArray), (⟨#[116, 97, 105]⟩ : ByteArray), (⟨#[116, 97, 105]⟩ : ByteArray), (⟨#[116, 97, 105]⟩ : ByteArray), (⟨#[116, 97, 98]⟩ : ByteArray), (⟨#[116, 97, 105]⟩ : ByteArray), (⟨#[97, 98]⟩ : ByteArray), (⟨#[97, 105]⟩ : ByteArray), (⟨#[116, 105]⟩ : ByteArray), (⟨#[105]⟩ : ByteArray), (⟨#[]⟩ : ByteArray)] : List ByteArray)) (tm rfl rfl) (tm rfl rfl) Try.runUnderlying64 Try.isAgg9 Try.sizeOf9 rfl rfl g1 rfl) ?_
  refine sv (v := .string (gi strE ([(⟨#[]⟩ : ByteArray), (⟨#[116, 97, 105]⟩ : ByteArray), (⟨#[116, 97, 105]⟩ : ByteArray), (⟨#[116, 97, 105]⟩ : ByteArray), (⟨#[116, 97, 98]⟩ : ByteArray), (⟨#[116, 97, 105]⟩ : ByteArray), (⟨#[97, 98]⟩ : ByteArray), (⟨#[97, 105]⟩ : ByteArray), (⟨#[116, 105]⟩ : ByteArray), (⟨#[105]⟩ : ByteArray), (⟨#[]⟩ : ByteArray)] : List ByteArray) a0)) rfl rfl rfl (e_assign (tm rfl rfl)) ?_
  refine k_nil ?_
  refine k_ret ?_
  obtain rfl := Option.some.inj H
  exact k_end rfl (.tmp rfl rfl .nil) rfl ⟨rfl, hp0.below⟩

end Go.Proofs.Ytallojficgiemaa.W
