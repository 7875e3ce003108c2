/- Functions of the program as plain Lean functions, and that the calls do what they say: written by wip/tools/walk.py. -/
import Derived.Test.YtallojficgiemaaProg
import Derived.Test.YtallojficgiemaaDraw
set_option linter.unusedVariables false
set_option linter.unusedSimpArgs false
set_option linter.unusedSectionVars false
namespace Go.Proofs.Ytallojficgiemaa.W
open Go Go.RowKit Go.Proofs.Ytallojficgiemaa.B
attribute [local irreducible] Go.wpList Go.Code.wp Go.Region.wanted Go.yielded
theorem mixed : Try.prog.follows .mixedOrders = true := by kernel_rfl
structure api_Inst where
  Op : Int
  T : Int
  A : Int
  B : Int
  Imm : Int
  deriving DecidableEq
def api_Inst_E : Enc api_Inst := ⟨fun x => [.int .i64 (x.Op), .int .i64 (x.T), .int .i64 (x.A), .int .i64 (x.B), .int .i64 (x.Imm)], 5, ⟨0, 0, 0, 0, 0⟩, fun _ => rfl, by decide, fun x u hu => by simp at hu; rcases hu with rfl | rfl | rfl | rfl | rfl <;> rfl⟩
structure selvageref15_word where
  w : Int
  bits : Int
  deriving DecidableEq
def selvageref15_word_E : Enc selvageref15_word := ⟨fun x => [.int .u32 (x.w), .int .i64 (x.bits)], 2, ⟨0, 0⟩, fun _ => rfl, by decide, fun x u hu => by simp at hu; rcases hu with rfl | rfl <;> rfl⟩

end Go.Proofs.Ytallojficgiemaa.W
