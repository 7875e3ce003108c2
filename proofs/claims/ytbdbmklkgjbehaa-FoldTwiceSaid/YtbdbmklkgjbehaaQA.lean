/- QA: several texts in one. -/
import Derived.Test.YtbdbmklkgjbehaaProg
import Derived.Test.YtbdbmklkgjbehaaLE
set_option linter.unusedVariables false
set_option linter.unusedSimpArgs false
set_option linter.unusedSectionVars false
set_option maxRecDepth 100000
namespace Go.Proofs.Ytbdbmklkgjbehaa
open Go Go.RowKit Go.Proofs Go.Proofs.Ytbdbmklkgjbehaa.X
open Go.Proofs.Ytbdbmklkgjbehaa.B (wr sb feq fls qf flt i2f aget aset isnan isnan_flt)
theorem mixed : Try.prog.follows .mixedOrders = true := by kernel_rfl
structure api_Ins where
 Op : Int
 D : Int
 A : Int
 B : Int
 Loc : Int
 Len : Int
 K : Int
 To : Int
 deriving Inhabited, DecidableEq
def api_Ins.c (x : api_Ins) : List AV := [.v (.int .i64 x.Op), .v (.int .i64 x.D), .v (.int .i64 x.A), .v (.int .i64 x.B), .v (.int .i64 x.Loc), .v (.int .i64 x.Len), .v (.int .i64 x.K), .v (.int .i64 x.To)]
def api_Ins.v (x : api_Ins) : AV := .agg (api_Ins.c x)
structure api_Loc where
 Atomic : Bool
 Init : Int
 deriving Inhabited, DecidableEq
def api_Loc.c (x : api_Loc) : List AV := [.v (.bool x.Atomic), .v (.int .i64 x.Init)]
def api_Loc.v (x : api_Loc) : AV := .agg (api_Loc.c x)
structure tree_uses where
 d : Bool
 a : Bool
 b : Bool
 k : Bool
 to_ : Bool
 place : Bool
 row : Bool
 atomic : Bool
 deriving Inhabited, DecidableEq
def tree_uses.c (x : tree_uses) : List AV := [.v (.bool x.d), .v (.bool x.a), .v (.bool x.b), .v (.bool x.k), .v (.bool x.to_), .v (.bool x.place), .v (.bool x.row), .v (.bool x.atomic)]
def tree_uses.v (x : tree_uses) : AV := .agg (tree_uses.c x)
structure fold_node where
 x : api_Ins
 next : Option Nat
 side : Option Nat
 deriving Inhabited, DecidableEq
def fold_node.c (x : fold_node) : List AV := [.v (.int .i64 x.x.Op), .v (.int .i64 x.x.D), .v (.int .i64 x.x.A), .v (.int .i64 x.x.B), .v (.int .i64 x.x.Loc), .v (.int .i64 x.x.Len), .v (.int .i64 x.x.K), .v (.int .i64 x.x.To), .nd x.next 0, .nd x.side 0]
def fold_node.v (x : fold_node) : AV := .agg (fold_node.c x)
structure api_Act where
 Kind : Int
 Loc : Int
 Old : Int
 New : Int
 deriving Inhabited, DecidableEq
def api_Act.c (x : api_Act) : List AV := [.v (.int .i64 x.Kind), .v (.int .i64 x.Loc), .v (.int .i64 x.Old), .v (.int .i64 x.New)]
def api_Act.v (x : api_Act) : AV := .agg (api_Act.c x)
structure api_Trace where
 Acts : List api_Act
 Status : Int
 deriving Inhabited, DecidableEq
def api_Trace.c (x : api_Trace) : List AV := [.ro false 4 x.Acts.length (x.Acts.map api_Act.c), .v (.int .i64 x.Status)]
def api_Trace.v (x : api_Trace) : AV := .agg (api_Trace.c x)
noncomputable def tb : List (TE Try.prog) := [
 ⟨2, _, _, _, Try.runUnderlying2, Try.sizeOf2, Try.isAgg2, 8, .int .i64 0, by kernel_rfl⟩,
 ⟨3, _, _, _, Try.runUnderlying3, Try.sizeOf3, Try.isAgg3, 8, .int .i64 0, by kernel_rfl⟩,
 ⟨4, _, _, _, Try.runUnderlying4, Try.sizeOf4, Try.isAgg4, 1, .bool false, by kernel_rfl⟩,
 ⟨22, _, _, _, Try.runUnderlying22, Try.sizeOf22, Try.isAgg22, 24, .slice none 0 0, by kernel_rfl⟩,
 ⟨23, _, _, _, Try.runUnderlying23, Try.sizeOf23, Try.isAgg23, 24, .slice none 0 0, by kernel_rfl⟩,
 ⟨24, _, _, _, Try.runUnderlying24, Try.sizeOf24, Try.isAgg24, 24, .slice none 0 0, by kernel_rfl⟩,
 ⟨27, _, _, _, Try.runUnderlying27, Try.sizeOf27, Try.isAgg27, 8, .int .i64 0, by kernel_rfl⟩,
 ⟨33, _, _, _, Try.runUnderlying33, Try.sizeOf33, Try.isAgg33, 24, .slice none 0 0, by kernel_rfl⟩,
 ⟨35, _, _, _, Try.runUnderlying35, Try.sizeOf35, Try.isAgg35, 32, .agg #[.slice none 0 0, .int .i64 0], by kernel_rfl⟩,
 ⟨39, _, _, _, Try.runUnderlying39, Try.sizeOf39, Try.isAgg39, 64, .agg #[.int .i64 0, .int .i64 0, .int .i64 0, .int .i64 0, .int .i64 0, .int .i64 0, .int .i64 0, .int .i64 0], by kernel_rfl⟩,
 ⟨44, _, _, _, Try.runUnderlying44, Try.sizeOf44, Try.isAgg44, 32, .agg #[.int .i64 0, .int .i64 0, .int .i64 0, .int .i64 0], by kernel_rfl⟩,
 ⟨45, _, _, _, Try.runUnderlying45, Try.sizeOf45, Try.isAgg45, 8, .pointer none, by kernel_rfl⟩,
 ⟨47, _, _, _, Try.runUnderlying47, Try.sizeOf47, Try.isAgg47, 8, .map none, by kernel_rfl⟩,
 ⟨48, _, _, _, Try.runUnderlying48, Try.sizeOf48, Try.isAgg48, 8, .map none, by kernel_rfl⟩,
 ⟨54, _, _, _, Try.runUnderlying54, Try.sizeOf54, Try.isAgg54, 24, .slice none 0 0, by kernel_rfl⟩,
 ⟨57, _, _, _, Try.runUnderlying57, Try.sizeOf57, Try.isAgg57, 8, .pointer none, by kernel_rfl⟩,
 ⟨58, _, _, _, Try.runUnderlying58, Try.sizeOf58, Try.isAgg58, 3200, .agg #[.int .i64 0, .int .i64 0, .int .i64 0, .int .i64 0, .int .i64 0, .int .i64 0, .int .i64 0, .int .i64 0, .int .i64 0, .int .i64 0, .int .i64 0, .int .i64 0, .int .i64 0, .int .i64 0, .int .i64 0, .int .i64 0, .int .i64 0, .int .i64 0, .int .i64 0, .int .i64 0, .int .i64 0, .int .i64 0, .int .i64 0, .int .i64 0, .int .i64 0, .int .i64 0, .int .i64 0, .int .i64 0, .int .i64 0, .int .i64 0, .int .i64 0, .int .i64 0, .int .i64 0, .int .i64 0, .int .i64 0, .int .i64 0, .int .i64 0, .int .i64 0, .int .i64 0, .int .i64 0, .int .i64 0, .int .i64 0, .int .i64 0, .int .i64 0, .int .i64 0, .int .i64 0, .int .i64 0, .int .i64 0, .int .i64 0, .int .i64 0, .int .i64 0, .int .i64 0, .int .i64 0, .int .i64 0, .int .i64 0, .int .i64 0, .int .i64 0, .int .i64 0, .int .i64 0, .int .i64 0, .int .i64 0, .int .i64 0, .int .i64 0, .int .i64 0, .int .i64 0, .int .i64 0, .int .i64 0, .int .i64 0, .int .i64 0, .int .i64 0, .int .i64 0, .int .i64 0, .int .i64 0, .int .i64 0, .int .i64 0, .int .i64 0, .int .i64 0, .int .i64 0, .int .i64 0, .int .i64 0, .int .i64 0, .int .i64 0, .int .i64 0, .int .i64 0, .int .i64 0, .int .i64 0, .int .i64 0, .int .i64 0, .int .i64 0, .int .i64 0, .int .i64 0, .int .i64 0, .int .i64 0, .int .i64 0, .int .i64 0, .int .i64 0, .int .i64 0, .int .i64 0, .int .i64 0, .int .i64 0, .int .i64 0, .int .i64 0, .int .i64 0, .int .i64 0, .int .i64 0, .int .i64 0, .int .i64 0, .int .i64 0, .int .i64 0, .int .i64 0, .int .i64 0, .int .i64 0, .int .i64 0, .int .i64 0, .int .i64 0, .int .i64 0, .int .i64 0, .int .i64 0, .int .i64 0, .int .i64 0, .int .i64 0, .int .i64 0, .int .i64 0, .int .i64 0, .int .i64 0, .int .i64 0, .int .i64 0, .int .i64 0, .int .i64 0, .int .i64 0, .int .i64 0, .int .i64 0, .int .i64 0, .int .i64 0, .int .i64 0, .int .i64 0, .int .i64 0, .int .i64 0, .int .i64 0, .int .i64 0, .int .i64 0, .int .i64 0, .int .i64 0, .int .i64 0, .int .i64 0, .int .i64 0, .int .i64 0, .int .i64 0, .int .i64 0, .int .i64 0, .int .i64 0, .int .i64 0, .int .i64 0, .int .i64 0, .int .i64 0, .int .i64 0, .int .i64 0, .int .i64 0, .int .i64 0, .int .i64 0, .int .i64 0, .int .i64 0, .int .i64 0, .int .i64 0, .int .i64 0, .int .i64 0, .int .i64 0, .int .i64 0, .int .i64 0, .int .i64 0, .int .i64 0, .int .i64 0, .int .i64 0, .int .i64 0, .int .i64 0, .int .i64 0, .int .i64 0, .int .i64 0, .int .i64 0, .int .i64 0, .int .i64 0, .int .i64 0, .int .i64 0, .int .i64 0, .int .i64 0, .int .i64 0, .int .i64 0, .int .i64 0, .int .i64 0, .int .i64 0, .int .i64 0, .int .i64 0, .int .i64 0, .int .i64 0, .int .i64 0, .int .i64 0, .int .i64 0, .int .i64 0, .int .i64 0, .int .i64 0, .int .i64 0, .int .i64 0, .int .i64 0, .int .i64 0, .int .i64 0, .int .i64 0, .int .i64 0, .int .i64 0, .int .i64 0, .int .i64 0, .int .i64 0, .int .i64 0, .int .i64 0, .int .i64 0, .int .i64 0, .int .i64 0, .int .i64 0, .int .i64 0, .int .i64 0, .int .i64 0, .int .i64 0, .int .i64 0, .int .i64 0, .int .i64 0, .int .i64 0, .int .i64 0, .int .i64 0, .int .i64 0, .int .i64 0, .int .i64 0, .int .i64 0, .int .i64 0, .int .i64 0, .int .i64 0, .int .i64 0, .int .i64 0, .int .i64 0, .int .i64 0, .int .i64 0, .int .i64 0, .int .i64 0, .int .i64 0, .int .i64 0, .int .i64 0, .int .i64 0, .int .i64 0, .int .i64 0, .int .i64 0, .int .i64 0, .int .i64 0, .int .i64 0, .int .i64 0, .int .i64 0, .int .i64 0, .int .i64 0, .int .i64 0, .int .i64 0, .int .i64 0, .int .i64 0, .int .i64 0, .int .i64 0, .int .i64 0, .int .i64 0, .int .i64 0, .int .i64 0, .int .i64 0, .int .i64 0, .int .i64 0, .int .i64 0, .int .i64 0, .int .i64 0, .int .i64 0, .int .i64 0, .int .i64 0, .int .i64 0, .int .i64 0, .int .i64 0, .int .i64 0, .int .i64 0, .int .i64 0, .int .i64 0, .int .i64 0, .int .i64 0, .int .i64 0, .int .i64 0, .int .i64 0, .int .i64 0, .int .i64 0, .int .i64 0, .int .i64 0, .int .i64 0, .int .i64 0, .int .i64 0, .int .i64 0, .int .i64 0, .int .i64 0, .int .i64 0, .int .i64 0, .int .i64 0, .int .i64 0, .int .i64 0, .int .i64 0, .int .i64 0, .int .i64 0, .int .i64 0, .int .i64 0, .int .i64 0, .int .i64 0, .int .i64 0, .int .i64 0, .int .i64 0, .int .i64 0, .int .i64 0, .int .i64 0, .int .i64 0, .int .i64 0, .int .i64 0, .int .i64 0, .int .i64 0, .int .i64 0, .int .i64 0, .int .i64 0, .int .i64 0, .int .i64 0, .int .i64 0, .int .i64 0, .int .i64 0, .int .i64 0, .int .i64 0, .int .i64 0, .int .i64 0, .int .i64 0, .int .i64 0, .int .i64 0, .int .i64 0, .int .i64 0, .int .i64 0, .int .i64 0, .int .i64 0, .int .i64 0, .int .i64 0, .int .i64 0, .int .i64 0, .int .i64 0, .int .i64 0, .int .i64 0, .int .i64 0, .int .i64 0, .int .i64 0, .int .i64 0, .int .i64 0, .int .i64 0, .int .i64 0, .int .i64 0, .int .i64 0, .int .i64 0, .int .i64 0, .int .i64 0, .int .i64 0, .int .i64 0, .int .i64 0, .int .i64 0, .int .i64 0, .int .i64 0, .int .i64 0, .int .i64 0, .int .i64 0, .int .i64 0, .int .i64 0, .int .i64 0, .int .i64 0, .int .i64 0, .int .i64 0, .int .i64 0, .int .i64 0, .int .i64 0, .int .i64 0, .int .i64 0, .int .i64 0, .int .i64 0, .int .i64 0, .int .i64 0, .int .i64 0, .int .i64 0, .int .i64 0, .int .i64 0, .int .i64 0, .int .i64 0, .int .i64 0, .int .i64 0, .int .i64 0, .int .i64 0, .int .i64 0, .int .i64 0, .int .i64 0, .int .i64 0, .int .i64 0, .int .i64 0, .int .i64 0, .int .i64 0], by kernel_rfl⟩,
 ⟨60, _, _, _, Try.runUnderlying60, Try.sizeOf60, Try.isAgg60, 3248, .agg #[.int .i64 0, .int .i64 0, .int .i64 0, .int .i64 0, .int .i64 0, .int .i64 0, .int .i64 0, .int .i64 0, .int .i64 0, .int .i64 0, .int .i64 0, .int .i64 0, .int .i64 0, .int .i64 0, .int .i64 0, .int .i64 0, .int .i64 0, .int .i64 0, .int .i64 0, .int .i64 0, .int .i64 0, .int .i64 0, .int .i64 0, .int .i64 0, .int .i64 0, .int .i64 0, .int .i64 0, .int .i64 0, .int .i64 0, .int .i64 0, .int .i64 0, .int .i64 0, .int .i64 0, .int .i64 0, .int .i64 0, .int .i64 0, .int .i64 0, .int .i64 0, .int .i64 0, .int .i64 0, .int .i64 0, .int .i64 0, .int .i64 0, .int .i64 0, .int .i64 0, .int .i64 0, .int .i64 0, .int .i64 0, .int .i64 0, .int .i64 0, .int .i64 0, .int .i64 0, .int .i64 0, .int .i64 0, .int .i64 0, .int .i64 0, .int .i64 0, .int .i64 0, .int .i64 0, .int .i64 0, .int .i64 0, .int .i64 0, .int .i64 0, .int .i64 0, .int .i64 0, .int .i64 0, .int .i64 0, .int .i64 0, .int .i64 0, .int .i64 0, .int .i64 0, .int .i64 0, .int .i64 0, .int .i64 0, .int .i64 0, .int .i64 0, .int .i64 0, .int .i64 0, .int .i64 0, .int .i64 0, .int .i64 0, .int .i64 0, .int .i64 0, .int .i64 0, .int .i64 0, .int .i64 0, .int .i64 0, .int .i64 0, .int .i64 0, .int .i64 0, .int .i64 0, .int .i64 0, .int .i64 0, .int .i64 0, .int .i64 0, .int .i64 0, .int .i64 0, .int .i64 0, .int .i64 0, .int .i64 0, .int .i64 0, .int .i64 0, .int .i64 0, .int .i64 0, .int .i64 0, .int .i64 0, .int .i64 0, .int .i64 0, .int .i64 0, .int .i64 0, .int .i64 0, .int .i64 0, .int .i64 0, .int .i64 0, .int .i64 0, .int .i64 0, .int .i64 0, .int .i64 0, .int .i64 0, .int .i64 0, .int .i64 0, .int .i64 0, .int .i64 0, .int .i64 0, .int .i64 0, .int .i64 0, .int .i64 0, .int .i64 0, .int .i64 0, .int .i64 0, .int .i64 0, .int .i64 0, .int .i64 0, .int .i64 0, .int .i64 0, .int .i64 0, .int .i64 0, .int .i64 0, .int .i64 0, .int .i64 0, .int .i64 0, .int .i64 0, .int .i64 0, .int .i64 0, .int .i64 0, .int .i64 0, .int .i64 0, .int .i64 0, .int .i64 0, .int .i64 0, .int .i64 0, .int .i64 0, .int .i64 0, .int .i64 0, .int .i64 0, .int .i64 0, .int .i64 0, .int .i64 0, .int .i64 0, .int .i64 0, .int .i64 0, .int .i64 0, .int .i64 0, .int .i64 0, .int .i64 0, .int .i64 0, .int .i64 0, .int .i64 0, .int .i64 0, .int .i64 0, .int .i64 0, .int .i64 0, .int .i64 0, .int .i64 0, .int .i64 0, .int .i64 0, .int .i64 0, .int .i64 0, .int .i64 0, .int .i64 0, .int .i64 0, .int .i64 0, .int .i64 0, .int .i64 0, .int .i64 0, .int .i64 0, .int .i64 0, .int .i64 0, .int .i64 0, .int .i64 0, .int .i64 0, .int .i64 0, .int .i64 0, .int .i64 0, .int .i64 0, .int .i64 0, .int .i64 0, .int .i64 0, .int .i64 0, .int .i64 0, .int .i64 0, .int .i64 0, .int .i64 0, .int .i64 0, .int .i64 0, .int .i64 0, .int .i64 0, .int .i64 0, .int .i64 0, .int .i64 0, .int .i64 0, .int .i64 0, .int .i64 0, .int .i64 0, .int .i64 0, .int .i64 0, .int .i64 0, .int .i64 0, .int .i64 0, .int .i64 0, .int .i64 0, .int .i64 0, .int .i64 0, .int .i64 0, .int .i64 0, .int .i64 0, .int .i64 0, .int .i64 0, .int .i64 0, .int .i64 0, .int .i64 0, .int .i64 0, .int .i64 0, .int .i64 0, .int .i64 0, .int .i64 0, .int .i64 0, .int .i64 0, .int .i64 0, .int .i64 0, .int .i64 0, .int .i64 0, .int .i64 0, .int .i64 0, .int .i64 0, .int .i64 0, .int .i64 0, .int .i64 0, .int .i64 0, .int .i64 0, .int .i64 0, .int .i64 0, .int .i64 0, .int .i64 0, .int .i64 0, .int .i64 0, .int .i64 0, .int .i64 0, .int .i64 0, .int .i64 0, .int .i64 0, .int .i64 0, .int .i64 0, .int .i64 0, .int .i64 0, .int .i64 0, .int .i64 0, .int .i64 0, .int .i64 0, .int .i64 0, .int .i64 0, .int .i64 0, .int .i64 0, .int .i64 0, .int .i64 0, .int .i64 0, .int .i64 0, .int .i64 0, .int .i64 0, .int .i64 0, .int .i64 0, .int .i64 0, .int .i64 0, .int .i64 0, .int .i64 0, .int .i64 0, .int .i64 0, .int .i64 0, .int .i64 0, .int .i64 0, .int .i64 0, .int .i64 0, .int .i64 0, .int .i64 0, .int .i64 0, .int .i64 0, .int .i64 0, .int .i64 0, .int .i64 0, .int .i64 0, .int .i64 0, .int .i64 0, .int .i64 0, .int .i64 0, .int .i64 0, .int .i64 0, .int .i64 0, .int .i64 0, .int .i64 0, .int .i64 0, .int .i64 0, .int .i64 0, .int .i64 0, .int .i64 0, .int .i64 0, .int .i64 0, .int .i64 0, .int .i64 0, .int .i64 0, .int .i64 0, .int .i64 0, .int .i64 0, .int .i64 0, .int .i64 0, .int .i64 0, .int .i64 0, .int .i64 0, .int .i64 0, .int .i64 0, .int .i64 0, .int .i64 0, .int .i64 0, .int .i64 0, .int .i64 0, .int .i64 0, .int .i64 0, .int .i64 0, .int .i64 0, .int .i64 0, .int .i64 0, .int .i64 0, .int .i64 0, .int .i64 0, .int .i64 0, .int .i64 0, .int .i64 0, .int .i64 0, .int .i64 0, .int .i64 0, .int .i64 0, .int .i64 0, .int .i64 0, .int .i64 0, .int .i64 0, .int .i64 0, .int .i64 0, .int .i64 0, .int .i64 0, .int .i64 0, .int .i64 0, .int .i64 0, .int .i64 0, .int .i64 0, .int .i64 0, .int .i64 0, .int .i64 0, .int .i64 0, .int .i64 0, .int .i64 0, .int .i64 0, .int .i64 0, .int .i64 0, .int .i64 0, .int .i64 0, .int .i64 0, .int .i64 0, .int .i64 0, .int .i64 0, .int .i64 0, .int .i64 0, .int .i64 0, .int .i64 0, .int .i64 0, .int .i64 0, .int .i64 0, .int .i64 0, .int .i64 0, .int .i64 0, .int .i64 0, .int .i64 0, .int .i64 0, .int .i64 0, .int .i64 0, .int .i64 0, .int .i64 0, .int .i64 0, .int .i64 0, .int .i64 0, .int .i64 0, .int .i64 0, .slice none 0 0, .slice none 0 0], by kernel_rfl⟩,
 ⟨66, _, _, _, Try.runUnderlying66, Try.sizeOf66, Try.isAgg66, 8, .agg #[.bool false, .bool false, .bool false, .bool false, .bool false, .bool false, .bool false, .bool false], by kernel_rfl⟩,
 ⟨74, _, _, _, Try.runUnderlying74, Try.sizeOf74, Try.isAgg74, 80, .agg #[.int .i64 0, .int .i64 0, .int .i64 0, .int .i64 0, .int .i64 0, .int .i64 0, .int .i64 0, .int .i64 0, .pointer none, .pointer none], by kernel_rfl⟩,
 ⟨80, _, _, _, Try.runUnderlying80, Try.sizeOf80, Try.isAgg80, 16, .agg #[.bool false, .int .i64 0], by kernel_rfl⟩]
theorem fn {N m0 : Nat} {c : Code} {S : ASt} {x : Ex} {S2 : ASt} (sc : List It) (h : lhs (finC tb N m0 c S sc x S2) = rhs (finC tb N m0 c S sc x S2) sc := by kernel_rfl) : Runs Try.prog N m0 c S x S2 := Runs.fin mixed sc h
noncomputable def tree_shape.F : FI Try.prog 27 := fi Try.f27 50 Try.call27 Try.func27
def tree_shape.m (a_1 : Int) : tree_uses × Bool :=
 if a_1 = 1 then (((tree_uses.mk true false false true false false false false), true)) else (letC (if a_1 = 2 then ((true : Bool)) else (if a_1 = 3 then ((true : Bool)) else (if a_1 = 4 then ((true : Bool)) else (((decide (a_1 = 5)) : Bool)))) : Bool) fun o_3 => if o_3 = true then (((tree_uses.mk true true true false false false false false), true)) else (if a_1 = 6 then (((tree_uses.mk true false false false false true false false), true)) else (if a_1 = 7 then (((tree_uses.mk false true false false false true false false), true)) else (if a_1 = 8 then (((tree_uses.mk true false false false false true false true), true)) else (if a_1 = 9 then (((tree_uses.mk false true false false false true false true), true)) else (letC (if a_1 = 10 then ((true : Bool)) else (((decide (a_1 = 11)) : Bool)) : Bool) fun o_14 => if o_14 = true then (((tree_uses.mk true true false false false true false true), true)) else (if a_1 = 12 then (((tree_uses.mk false true true false true true false true), true)) else (if a_1 = 13 then (((tree_uses.mk true true false false false true true false), true)) else (if a_1 = 14 then (((tree_uses.mk false true true false false true true false), true)) else (if a_1 = 15 then (((tree_uses.mk false true false false false false false false), true)) else (letC (if a_1 = 16 then ((true : Bool)) else (((decide (a_1 = 17)) : Bool)) : Bool) fun o_23 => if o_23 = true then (((tree_uses.mk false true true false true false false false), true)) else (if a_1 = 18 then (((tree_uses.mk false false false false false false false false), true)) else (((tree_uses.mk false false false false false false false false), false))))))))))))))
noncomputable def tree_shape.o (a_1 : Int) (r : tree_uses × Bool) : Out := .ret (.tup [.agg (tree_uses.c r.1), .v (.bool r.2)]) [] []
theorem tree_shape.ev {a_1 : Int} {r : tree_uses × Bool} (H : tree_shape.m a_1 = r) : Ev Try.prog 27 [vi a_1] [] [] (tree_shape.o a_1 r) := by
 unfold tree_shape.m at H
 rcases ic H with ⟨h_2, H⟩ | ⟨h_2, H⟩
 ·subst H
  exact tree_shape.F.run tb mixed [br h_2] rfl (by kernel_rfl)
 ·obtain ⟨o_3, e_4, H⟩ := ltE H
  have j_5 : Rq tree_shape.F 0 [1, 0, 1, 0, 1, 1, 0, 1] ⟨[(2, .ref 0 0), (4, vi a_1), (8, .v (.bool (decide (a_1 = 2))))], [.box (tree_uses.c (tree_uses.mk false false false false false false false false))], []⟩ ((fun _ => .normal : Bool → Ex) o_3) ((fun o_3 => ⟨[(2, .ref 0 0), (4, vi a_1), (8, .v (.bool o_3))], [.box (tree_uses.c (tree_uses.mk false false false false false false false false))], []⟩ : Bool → ASt) o_3) := by
   clear H
   have H := e_4
   clear e_4
   rcases ic H with ⟨h_6, H⟩ | ⟨h_6, H⟩
   ·subst H
    exact fn [br h_6]
   ·rcases ic H with ⟨h_7, H⟩ | ⟨h_7, H⟩
    ·subst H
     exact fn [br h_6, br h_7]
    ·rcases ic H with ⟨h_8, H⟩ | ⟨h_8, H⟩
     ·subst H
      exact fn [br h_6, br h_7, br h_8]
     ·subst H
      exact fn [br h_6, br h_7, br h_8]
  rcases ie H with ⟨h_9, H⟩ | ⟨h_9, H⟩
  ·subst H
   exact tree_shape.F.run tb mixed [br h_2, sc_ j_5, br h_9] rfl (by kernel_rfl)
  ·rcases ic H with ⟨h_10, H⟩ | ⟨h_10, H⟩
   ·subst H
    exact tree_shape.F.run tb mixed [br h_2, sc_ j_5, br h_9, br h_10] rfl (by kernel_rfl)
   ·rcases ic H with ⟨h_11, H⟩ | ⟨h_11, H⟩
    ·subst H
     exact tree_shape.F.run tb mixed [br h_2, sc_ j_5, br h_9, br h_10, br h_11] rfl (by kernel_rfl)
    ·rcases ic H with ⟨h_12, H⟩ | ⟨h_12, H⟩
     ·subst H
      exact tree_shape.F.run tb mixed [br h_2, sc_ j_5, br h_9, br h_10, br h_11, br h_12] rfl (by kernel_rfl)
     ·rcases ic H with ⟨h_13, H⟩ | ⟨h_13, H⟩
      ·subst H
       exact tree_shape.F.run tb mixed [br h_2, sc_ j_5, br h_9, br h_10, br h_11, br h_12, br h_13] rfl (by kernel_rfl)
      ·obtain ⟨o_14, e_15, H⟩ := ltE H
       have j_16 : Rq tree_shape.F 0 [1, 0, 1, 0, 1, 1, 1, 1, 1, 1, 1, 1, 1, 1, 1, 1, 0, 1] ⟨[(2, .ref 0 0), (4, vi a_1), (26, .v (.bool (decide (a_1 = 10))))], [.box (tree_uses.c (tree_uses.mk false false false false false false false false))], []⟩ ((fun _ => .normal : Bool → Ex) o_14) ((fun o_14 => ⟨[(2, .ref 0 0), (4, vi a_1), (26, .v (.bool o_14))], [.box (tree_uses.c (tree_uses.mk false false false false false false false false))], []⟩ : Bool → ASt) o_14) := by
        clear H
        have H := e_15
        clear e_15
        rcases ic H with ⟨h_17, H⟩ | ⟨h_17, H⟩
        ·subst H
         exact fn [br h_17]
        ·subst H
         exact fn [br h_17]
       rcases ie H with ⟨h_18, H⟩ | ⟨h_18, H⟩
       ·subst H
        exact tree_shape.F.run tb mixed [br h_2, sc_ j_5, br h_9, br h_10, br h_11, br h_12, br h_13, sc_ j_16, br h_18] rfl (by kernel_rfl)
       ·rcases ic H with ⟨h_19, H⟩ | ⟨h_19, H⟩
        ·subst H
         exact tree_shape.F.run tb mixed [br h_2, sc_ j_5, br h_9, br h_10, br h_11, br h_12, br h_13, sc_ j_16, br h_18, br h_19] rfl (by kernel_rfl)
        ·rcases ic H with ⟨h_20, H⟩ | ⟨h_20, H⟩
         ·subst H
          exact tree_shape.F.run tb mixed [br h_2, sc_ j_5, br h_9, br h_10, br h_11, br h_12, br h_13, sc_ j_16, br h_18, br h_19, br h_20] rfl (by kernel_rfl)
         ·rcases ic H with ⟨h_21, H⟩ | ⟨h_21, H⟩
          ·subst H
           exact tree_shape.F.run tb mixed [br h_2, sc_ j_5, br h_9, br h_10, br h_11, br h_12, br h_13, sc_ j_16, br h_18, br h_19, br h_20, br h_21] rfl (by kernel_rfl)
          ·rcases ic H with ⟨h_22, H⟩ | ⟨h_22, H⟩
           ·subst H
            exact tree_shape.F.run tb mixed [br h_2, sc_ j_5, br h_9, br h_10, br h_11, br h_12, br h_13, sc_ j_16, br h_18, br h_19, br h_20, br h_21, br h_22] rfl (by kernel_rfl)
           ·obtain ⟨o_23, e_24, H⟩ := ltE H
            have j_25 : Rq tree_shape.F 0 [1, 0, 1, 0, 1, 1, 1, 1, 1, 1, 1, 1, 1, 1, 1, 1, 1, 1, 1, 1, 1, 1, 1, 1, 1, 1, 0, 1] ⟨[(2, .ref 0 0), (4, vi a_1), (42, .v (.bool (decide (a_1 = 16))))], [.box (tree_uses.c (tree_uses.mk false false false false false false false false))], []⟩ ((fun _ => .normal : Bool → Ex) o_23) ((fun o_23 => ⟨[(2, .ref 0 0), (4, vi a_1), (42, .v (.bool o_23))], [.box (tree_uses.c (tree_uses.mk false false false false false false false false))], []⟩ : Bool → ASt) o_23) := by
             clear H
             have H := e_24
             clear e_24
             rcases ic H with ⟨h_26, H⟩ | ⟨h_26, H⟩
             ·subst H
              exact fn [br h_26]
             ·subst H
              exact fn [br h_26]
            rcases ie H with ⟨h_27, H⟩ | ⟨h_27, H⟩
            ·subst H
             exact tree_shape.F.run tb mixed [br h_2, sc_ j_5, br h_9, br h_10, br h_11, br h_12, br h_13, sc_ j_16, br h_18, br h_19, br h_20, br h_21, br h_22, sc_ j_25, br h_27] rfl (by kernel_rfl)
            ·rcases ic H with ⟨h_28, H⟩ | ⟨h_28, H⟩
             ·subst H
              exact tree_shape.F.run tb mixed [br h_2, sc_ j_5, br h_9, br h_10, br h_11, br h_12, br h_13, sc_ j_16, br h_18, br h_19, br h_20, br h_21, br h_22, sc_ j_25, br h_27, br h_28] rfl (by kernel_rfl)
             ·subst H
              exact tree_shape.F.run tb mixed [br h_2, sc_ j_5, br h_9, br h_10, br h_11, br h_12, br h_13, sc_ j_16, br h_18, br h_19, br h_20, br h_21, br h_22, sc_ j_25, br h_27, br h_28] rfl (by kernel_rfl)
noncomputable def tree_temp.F : FI Try.prog 28 := fi Try.f28 22 Try.call28 Try.func28
def tree_temp.m (a_1 : Bool) (a_2 : Int) : Bool :=
 if a_1 = true then (if a_2 ≥ 0 then (if a_2 < 400 then (true) else (false)) else (false)) else ((decide (a_2 = 0)))
noncomputable def tree_temp.o (a_1 : Bool) (a_2 : Int) (r : Bool) : Out := .ret (.v (.bool r)) [] []
theorem tree_temp.ev {a_1 : Bool} {a_2 : Int} {r : Bool} (H : tree_temp.m a_1 a_2 = r) : Ev Try.prog 28 [.v (.bool a_1), vi a_2] [] [] (tree_temp.o a_1 a_2 r) := by
 unfold tree_temp.m at H
 rcases ie H with ⟨h_3, H⟩ | ⟨h_3, H⟩
 ·rcases ic H with ⟨h_4, H⟩ | ⟨h_4, H⟩
  ·rcases ic H with ⟨h_5, H⟩ | ⟨h_5, H⟩
   ·subst H
    exact tree_temp.F.run tb mixed [br h_3, pT, br h_4, pT, br h_5, pT] rfl (by kernel_rfl)
   ·subst H
    exact tree_temp.F.run tb mixed [br h_3, pT, br h_4, pT, br h_5, bn h_3, pF, pF] rfl (by kernel_rfl)
  ·subst H
   exact tree_temp.F.run tb mixed [br h_3, pT, br h_4, pF, au, bn h_3, pF, pF] rfl (by kernel_rfl)
 ·subst H
  exact tree_temp.F.run tb mixed [br h_3, pF, au, pF, au, bn h_3, pT, pF] rfl (by kernel_rfl)
noncomputable def tree_places.F : FI Try.prog 29 := fi Try.f29 69 Try.call29 Try.func29
def tree_places.l1 (a_1 : tree_uses) (v_21 : List api_Loc) (s_24 : Int) : Option (Int ⊕ (Unit ⊕ Unit)) :=
 if s_24 < (v_21.length : Int) then (if 0 ≤ s_24 ∧ s_24 < (v_21.length : Int) then (letC (gi v_21 s_24) fun v_32 => if (v_32.Atomic == a_1.atomic) = true then (some (Sum.inl (wr .i64 (s_24 + 1)))) else (some (Sum.inr (Sum.inl ())))) else none) else (some (Sum.inr (Sum.inr (()))))
def tree_places.m (a_1 : tree_uses) (a_2 : api_Ins) (a_3 : List api_Loc) : Option (Bool) :=
 if a_1.place = true then ((if a_1.row = true then (some (Sum.inl a_2.Len : Int ⊕ Unit)) else (if a_2.Len = 0 then (some (Sum.inl 1 : Int ⊕ Unit)) else (some (Sum.inr (()) : Int ⊕ Unit))) : Option (Int ⊕ Unit)).bind fun o_5 => match o_5 with | Sum.inl s_10 => ((if s_10 < 1 then (some (true : Bool)) else (if s_10 > (a_3.length : Int) then (some (true : Bool)) else (if a_2.Loc < 0 then (some (true : Bool)) else (letC (wr .i64 ((a_3.length : Int) - s_10)) fun v_18 => some ((decide (a_2.Loc > v_18)) : Bool)))) : Option Bool).bind fun o_12 => if o_12 = true then (some false) else (if 0 ≤ a_2.Loc ∧ a_2.Loc ≤ (wr .i64 (a_2.Loc + s_10)) ∧ (wr .i64 (a_2.Loc + s_10)) ≤ (a_3.length : Int) then (letC ((a_3.drop a_2.Loc.toNat).take ((wr .i64 (a_2.Loc + s_10)).toNat - a_2.Loc.toNat)) fun v_21 => (B.loop (tree_places.l1 a_1 v_21) (0 : Int)).bind fun o_25 => match o_25 with | Sum.inl s_28 => (some false) | Sum.inr (s_29) => (some true)) else none)) | Sum.inr (s_11) => (some false)) else (if a_2.Loc = 0 then (some (decide (a_2.Len = 0))) else (some false))
noncomputable def tree_places.o (a_1 : tree_uses) (a_2 : api_Ins) (a_3 : List api_Loc) (r : Bool) : Out := .ret (.v (.bool r)) [] []
theorem tree_places.ev {a_1 : tree_uses} {a_2 : api_Ins} {a_3 : List api_Loc} {r : Bool} (H : tree_places.m a_1 a_2 a_3 = some r) : Ev Try.prog 29 [.agg (tree_uses.c a_1), .agg (api_Ins.c a_2), .ro false 2 a_3.length (a_3.map api_Loc.c)] [] [] (tree_places.o a_1 a_2 a_3 r) := by
 unfold tree_places.m at H
 rcases ie H with ⟨h_4, H⟩ | ⟨h_4, H⟩
 ·obtain ⟨o_5, e_6, H⟩ := bdE H
  have j_7 : Rq tree_places.F 0 [1, 1, 1, 0, 1] ⟨[(2, .ro false 2 a_3.length (a_3.map api_Loc.c)), (3, .ref 0 0), (4, .ref 1 0), (7, vi 1), (22, .v (.bool a_1.row))], [.box (tree_uses.c a_1), .box (api_Ins.c a_2)], []⟩ ((fun o => match o with | Sum.inl _ => .normal | Sum.inr (_) => .ret : (Int ⊕ Unit) → Ex) o_5) ((fun o => match o with | Sum.inl s_10 => ⟨[(2, .ro false 2 a_3.length (a_3.map api_Loc.c)), (3, .ref 0 0), (4, .ref 1 0), (7, vi s_10)], [.box (tree_uses.c a_1), .box (api_Ins.c a_2)], []⟩ | Sum.inr (s_11) => ⟨[(6, .v (.bool false))], [], []⟩ : (Int ⊕ Unit) → ASt) o_5) := by
   clear H
   have H := e_6
   clear e_6
   rcases ie H with ⟨h_8, H⟩ | ⟨h_8, H⟩
   ·obtain rfl := sj H
    exact fn [br h_8]
   ·rcases ic H with ⟨h_9, H⟩ | ⟨h_9, H⟩
    ·obtain rfl := sj H
     exact fn [br h_8, bn h_9]
    ·obtain rfl := sj H
     exact fn [br h_8, bn h_9]
  rcases o_5 with s_10 | s_11
  ·obtain ⟨o_12, e_13, H⟩ := bdE H
   have j_14 : Rq tree_places.F 0 [1, 1, 1, 1, 0, 0] ⟨[(2, .ro false 2 a_3.length (a_3.map api_Loc.c)), (3, .ref 0 0), (4, .ref 1 0), (7, vi s_10)], [.box (tree_uses.c a_1), .box (api_Ins.c a_2)], []⟩ ((fun _ => .normal : Bool → Ex) o_12) ((fun o_12 => ⟨[(2, .ro false 2 a_3.length (a_3.map api_Loc.c)), (3, .ref 0 0), (4, .ref 1 0), (7, vi s_10), (49, .v (.bool o_12))], [.box (tree_uses.c a_1), .box (api_Ins.c a_2)], []⟩ : Bool → ASt) o_12) := by
    clear H
    have H := e_13
    clear e_13
    rcases ic H with ⟨h_15, H⟩ | ⟨h_15, H⟩
    ·obtain rfl := sj H
     exact fn [br h_15, pT, au, pT, au, pT]
    ·rcases ic H with ⟨h_16, H⟩ | ⟨h_16, H⟩
     ·obtain rfl := sj H
      exact fn [br h_15, pF, br h_16, pT, au, pT]
     ·rcases ic H with ⟨h_17, H⟩ | ⟨h_17, H⟩
      ·obtain rfl := sj H
       exact fn [br h_15, pF, br h_16, pF, br h_17, pT]
      ·let v_18 : Int := wr .i64 ((a_3.length : Int) - s_10)
       replace H := ltD H
       obtain rfl := sj H
       exact fn [br h_15, pF, br h_16, pF, br h_17, pF]
   rcases ie H with ⟨h_19, H⟩ | ⟨h_19, H⟩
   ·obtain rfl := sj H
    exact tree_places.F.run tb mixed [bn h_4, sc_ j_7, sg_ 8 j_14, br h_19] rfl (by kernel_rfl)
   ·obtain ⟨g_20, H⟩ := gdE H
    let v_21 : List api_Loc := (a_3.drop a_2.Loc.toNat).take ((wr .i64 (a_2.Loc + s_10)).toNat - a_2.Loc.toNat)
    replace H := ltD H
    obtain ⟨o_25, e_26, H⟩ := bdE H
    have j_27 := Runs.loop (P := Try.prog) (N := tree_places.F.N) (m0 := 0) (c := sub_ tree_places.F.c [1, 1, 1, 1, 1, 0, 1, 0, 0]) (f := (tree_places.l1 a_1 v_21)) (St := fun s_24 => ⟨[(3, .ref 0 0), (57, .ro false 2 v_21.length (v_21.map api_Loc.c)), (58, vi (v_21.length : Int)), (59, vi s_24)], [.box (tree_uses.c a_1)], []⟩) (xo := (fun o => match o with | Sum.inl _ => .ret | Sum.inr (_) => (.exit 0) : (Unit ⊕ Unit) → Ex)) (So := (fun o => match o with | Sum.inl s_28 => ⟨[(6, .v (.bool false))], [], []⟩ | Sum.inr (s_29) => ⟨[], [], []⟩ : (Unit ⊕ Unit) → ASt)) (by intro o; rcases o with _ | _ <;> simp) (fun s_24 z H => by
     unfold tree_places.l1 at H
     rcases ic H with ⟨h_30, H⟩ | ⟨h_30, H⟩
     ·obtain ⟨g_31, H⟩ := gdE H
      let v_32 : api_Loc := gi v_21 s_24
      replace H := ltD H
      rcases ie H with ⟨h_33, H⟩ | ⟨h_33, H⟩
      ·obtain rfl := sj H
       exact fn [br h_30, ix api_Loc.c g_31, bn h_33]
      ·obtain rfl := sj H
       exact fn [br h_30, ix api_Loc.c g_31, bn h_33]
     ·obtain rfl := sj H
      exact fn [br h_30] (by kernel_rfl)) e_26
    rcases o_25 with s_28 | s_29
    ·obtain rfl := sj H
     exact tree_places.F.run tb mixed [bn h_4, sc_ j_7, sg_ 8 j_14, br h_19, ct api_Loc.c a_3 a_2.Loc (wr .i64 (a_2.Loc + s_10)) g_20, su j_27] rfl (by kernel_rfl)
    ·obtain rfl := sj H
     exact tree_places.F.run tb mixed [bn h_4, sc_ j_7, sg_ 8 j_14, br h_19, ct api_Loc.c a_3 a_2.Loc (wr .i64 (a_2.Loc + s_10)) g_20, su j_27] rfl (by kernel_rfl)
  ·obtain rfl := sj H
   exact tree_places.F.run tb mixed [bn h_4, sc_ j_7] rfl (by kernel_rfl)
 ·rcases ic H with ⟨h_34, H⟩ | ⟨h_34, H⟩
  ·obtain rfl := sj H
   exact tree_places.F.run tb mixed [bn h_4, br h_34, pT] rfl (by kernel_rfl)
  ·obtain rfl := sj H
   exact tree_places.F.run tb mixed [bn h_4, br h_34, pF] rfl (by kernel_rfl)
def tree_places.k1 (a_1 : tree_uses) (v_21 : List api_Loc) (s_24 : Int) : Option (Int ⊕ (Unit ⊕ Unit)) :=
 if s_24 < (v_21.length : Int) then (if 0 ≤ s_24 ∧ s_24 < (v_21.length : Int) then (letK (gi v_21 s_24) fun v_32 => if (v_32.Atomic == a_1.atomic) = true then (some (Sum.inl (wr .i64 (s_24 + 1)))) else (some (Sum.inr (Sum.inl ())))) else none) else (some (Sum.inr (Sum.inr (()))))
theorem tree_places.k1_le (a_1 : tree_uses) (v_21 : List api_Loc) (s_24 : Int) : OLe (tree_places.k1 a_1 v_21 s_24) (tree_places.l1 a_1 v_21 s_24) := by
 unfold tree_places.k1 tree_places.l1
 repeat' with_reducible first | refine OLe.lt (fun _ => ?_) | refine OLe.lp (fun _ => ?_) | refine OLe.bind ?_ (fun _ => ?_) | refine OLe.ite ?_ ?_ | exact OLe.rfl' | split
def tree_places.k (a_1 : tree_uses) (a_2 : api_Ins) (a_3 : List api_Loc) : Option (Bool) :=
 if a_1.place = true then ((if a_1.row = true then (some (Sum.inl a_2.Len : Int ⊕ Unit)) else (if a_2.Len = 0 then (some (Sum.inl 1 : Int ⊕ Unit)) else (some (Sum.inr (()) : Int ⊕ Unit))) : Option (Int ⊕ Unit)).bind fun o_5 => match o_5 with | Sum.inl s_10 => ((if s_10 < 1 then (some (true : Bool)) else (if s_10 > (a_3.length : Int) then (some (true : Bool)) else (if a_2.Loc < 0 then (some (true : Bool)) else (letK (wr .i64 ((a_3.length : Int) - s_10)) fun v_18 => some ((decide (a_2.Loc > v_18)) : Bool)))) : Option Bool).bind fun o_12 => if o_12 = true then (some false) else (if 0 ≤ a_2.Loc ∧ a_2.Loc ≤ (wr .i64 (a_2.Loc + s_10)) ∧ (wr .i64 (a_2.Loc + s_10)) ≤ (a_3.length : Int) then (letK ((a_3.drop a_2.Loc.toNat).take ((wr .i64 (a_2.Loc + s_10)).toNat - a_2.Loc.toNat)) fun v_21 => (lpK (tree_places.k1 a_1 v_21) (0 : Int)).bind fun o_25 => match o_25 with | Sum.inl s_28 => (some false) | Sum.inr (s_29) => (some true)) else none)) | Sum.inr (s_11) => (some false)) else (if a_2.Loc = 0 then (some (decide (a_2.Len = 0))) else (some false))
theorem tree_places.k_le (a_1 : tree_uses) (a_2 : api_Ins) (a_3 : List api_Loc) : OLe (tree_places.k a_1 a_2 a_3) (tree_places.m a_1 a_2 a_3) := by
 unfold tree_places.k tree_places.m
 repeat' with_reducible first | refine OLe.lt (fun _ => ?_) | refine OLe.lp (fun _ => ?_) | refine OLe.bind ?_ (fun _ => ?_) | refine OLe.ite ?_ ?_ | exact OLe.rfl' | split | exact tree_places.k1_le ..
 all_goals (exfalso; simp_all)
noncomputable def tree_above.F : FI Try.prog 30 := fi Try.f30 29 Try.call30 Try.func30
def tree_above.l1 (a_4 : List Int) (a_5 : Nat) (v_6 : Int) (s_11 : Int) : Option (Int ⊕ (Unit ⊕ Unit)) :=
 if s_11 > v_6 then (if 0 ≤ s_11 ∧ s_11 < (a_5 : Int) then (if 0 ≤ s_11 ∧ s_11 < (a_4.length : Int) then (letC (gi a_4 s_11) fun v_20 => if v_20 = v_6 then (some (Sum.inr (Sum.inl ()))) else (some (Sum.inl v_20))) else none) else none) else (some (Sum.inr (Sum.inr (()))))
def tree_above.m (a_1 : Int) (a_2 : Int) (a_3 : List (Int × Int)) (a_4 : List Int) (a_5 : Nat) : Option (Bool) :=
 match aget a_3 a_1 with | none => (some false) | some v_6 => ((B.loop (tree_above.l1 a_4 a_5 v_6) (a_2 : Int)).bind fun o_12 => match o_12 with | Sum.inl s_15 => (some true) | Sum.inr (s_16) => (some false))
noncomputable def tree_above.o (a_1 : Int) (a_2 : Int) (a_3 : List (Int × Int)) (a_4 : List Int) (a_5 : Nat) (r : Bool) : Out := .ret (.v (.bool r)) [.mp .i64 (mE (vI .i64) a_3), .arr false 3 1 a_5 (a_4.map (cI .i64))] []
theorem tree_above.ev {a_1 : Int} {a_2 : Int} {a_3 : List (Int × Int)} {a_4 : List Int} {a_5 : Nat} {r : Bool} (H : tree_above.m a_1 a_2 a_3 a_4 a_5 = some r) : Ev Try.prog 30 [.mp 0, .sl 0 1 a_5 0 a_5, vi a_1, vi a_2] [.mp .i64 (mE (vI .i64) a_3), .arr false 3 1 a_5 (a_4.map (cI .i64))] [] (tree_above.o a_1 a_2 a_3 a_4 a_5 r) := by
 unfold tree_above.m at H
 rcases e_7 : aget a_3 a_1 with _ | v_6
 ·rw [e_7] at H
  obtain rfl := sj H
  exact tree_above.F.run tb mixed [mgN (vI .i64) e_7, au] rfl (by kernel_rfl)
 ·rw [e_7] at H
  obtain ⟨o_12, e_13, H⟩ := bdE H
  have j_14 := Runs.loop (P := Try.prog) (N := tree_above.F.N) (m0 := 2) (c := sub_ tree_above.F.c [1, 1, 1, 0, 0, 0]) (f := (tree_above.l1 a_4 a_5 v_6)) (St := fun s_11 => ⟨[(1, .sl 0 1 a_5 0 a_5), (3, vi s_11), (9, vi v_6)], [.mp .i64 (mE (vI .i64) a_3), .arr false 3 1 a_5 (a_4.map (cI .i64))], []⟩) (xo := (fun o => match o with | Sum.inl _ => .ret | Sum.inr (_) => (.exit 0) : (Unit ⊕ Unit) → Ex)) (So := (fun o => match o with | Sum.inl s_15 => ⟨[(8, .v (.bool true))], [.mp .i64 (mE (vI .i64) a_3), .arr false 3 1 a_5 (a_4.map (cI .i64))], []⟩ | Sum.inr (s_16) => ⟨[], [.mp .i64 (mE (vI .i64) a_3), .arr false 3 1 a_5 (a_4.map (cI .i64))], []⟩ : (Unit ⊕ Unit) → ASt)) (by intro o; rcases o with _ | _ <;> simp) (fun s_11 z H => by
   unfold tree_above.l1 at H
   rcases ic H with ⟨h_17, H⟩ | ⟨h_17, H⟩
   ·obtain ⟨g_18, H⟩ := gdE H
    obtain ⟨g_19, H⟩ := gdE H
    let v_20 : Int := gi a_4 s_11
    replace H := ltD H
    rcases ic H with ⟨h_21, H⟩ | ⟨h_21, H⟩
    ·obtain rfl := sj H
     exact fn [br h_17, pf g_18, el (cI .i64) g_19, br h_21]
    ·obtain rfl := sj H
     exact fn [br h_17, pf g_18, el (cI .i64) g_19, br h_21]
   ·obtain rfl := sj H
    exact fn [br h_17] (by kernel_rfl)) e_13
  rcases o_12 with s_15 | s_16
  ·obtain rfl := sj H
   exact tree_above.F.run tb mixed [mgS (vI .i64) e_7, au, su j_14] rfl (by kernel_rfl)
  ·obtain rfl := sj H
   exact tree_above.F.run tb mixed [mgS (vI .i64) e_7, au, su j_14] rfl (by kernel_rfl)
def tree_above.k1 (a_4 : List Int) (a_5 : Nat) (v_6 : Int) (s_11 : Int) : Option (Int ⊕ (Unit ⊕ Unit)) :=
 if s_11 > v_6 then (if 0 ≤ s_11 ∧ s_11 < (a_5 : Int) then (if 0 ≤ s_11 ∧ s_11 < (a_4.length : Int) then (letK (gi a_4 s_11) fun v_20 => if v_20 = v_6 then (some (Sum.inr (Sum.inl ()))) else (some (Sum.inl v_20))) else none) else none) else (some (Sum.inr (Sum.inr (()))))
theorem tree_above.k1_le (a_4 : List Int) (a_5 : Nat) (v_6 : Int) (s_11 : Int) : OLe (tree_above.k1 a_4 a_5 v_6 s_11) (tree_above.l1 a_4 a_5 v_6 s_11) := by
 unfold tree_above.k1 tree_above.l1
 repeat' with_reducible first | refine OLe.lt (fun _ => ?_) | refine OLe.lp (fun _ => ?_) | refine OLe.bind ?_ (fun _ => ?_) | refine OLe.ite ?_ ?_ | exact OLe.rfl' | split
def tree_above.k (a_1 : Int) (a_2 : Int) (a_3 : List (Int × Int)) (a_4 : List Int) (a_5 : Nat) : Option (Bool) :=
 match aget a_3 a_1 with | none => (some false) | some v_6 => ((lpK (tree_above.k1 a_4 a_5 v_6) (a_2 : Int)).bind fun o_12 => match o_12 with | Sum.inl s_15 => (some true) | Sum.inr (s_16) => (some false))
theorem tree_above.k_le (a_1 : Int) (a_2 : Int) (a_3 : List (Int × Int)) (a_4 : List Int) (a_5 : Nat) : OLe (tree_above.k a_1 a_2 a_3 a_4 a_5) (tree_above.m a_1 a_2 a_3 a_4 a_5) := by
 unfold tree_above.k tree_above.m
 repeat' with_reducible first | refine OLe.lt (fun _ => ?_) | refine OLe.lp (fun _ => ?_) | refine OLe.bind ?_ (fun _ => ?_) | refine OLe.ite ?_ ?_ | exact OLe.rfl' | split | exact tree_above.k1_le ..
 all_goals try simp_all only [Option.some.injEq, reduceCtorEq]
 all_goals try subst_vars
 repeat' with_reducible first | refine OLe.lt (fun _ => ?_) | refine OLe.lp (fun _ => ?_) | refine OLe.bind ?_ (fun _ => ?_) | refine OLe.ite ?_ ?_ | exact OLe.rfl' | split | exact tree_above.k1_le ..
 all_goals (exfalso; simp_all)
noncomputable def tree_Right.F : FI Try.prog 16 := fi Try.f16 213 Try.call16 Try.func16
def tree_Right.l2 (a_1 : List api_Ins) (s_22 : (List Int) × (List Int) × (List (Int × Int))) (s_88 : Nat × Int) : Option ((Nat × Int) ⊕ (Unit ⊕ Unit)) :=
 if s_88.2 < (a_1.length : Int) then (if 0 ≤ s_88.2 ∧ s_88.2 < (a_1.length : Int) then (letC (gi a_1 s_88.2) fun v_96 => (if s_88.2 > 0 then (if 0 ≤ s_88.2 ∧ s_88.2 < (((a_1.length : Int).toNat : Nat) : Int) then (if 0 ≤ s_88.2 ∧ s_88.2 < (s_22.1.length : Int) then (letC (gi s_22.1 s_88.2) fun v_103 => some ((!(decide (v_103 = 1))) : Bool)) else none) else none) else (some (false : Bool)) : Option Bool).bind fun o_97 => if o_97 = true then (some (Sum.inr (Sum.inl ()))) else (letC (tree_shape.m v_96.Op) fun r_105 => (if r_105.1.a = true then ((tree_above.m v_96.A s_88.2 s_22.2.2 s_22.2.1 s_88.1).bind fun r_111 => if r_111 = true then (if r_105.1.b = true then ((tree_above.m v_96.B s_88.2 s_22.2.2 s_22.2.1 s_88.1).bind fun r_115 => some ((!r_115) : Bool)) else (some (false : Bool))) else (some (true : Bool))) else (if r_105.1.b = true then ((tree_above.m v_96.B s_88.2 s_22.2.2 s_22.2.1 s_88.1).bind fun r_118 => some ((!r_118) : Bool)) else (some (false : Bool))) : Option Bool).bind fun o_107 => if o_107 = true then (some (Sum.inr (Sum.inl ()))) else (letC (wr .i64 (s_88.2 + 1)) fun v_121 => some (Sum.inl (s_88.1, v_121))))) else none) else (some (Sum.inr (Sum.inr (()))))
def tree_Right.l1 (a_1 : List api_Ins) (a_2 : List api_Loc) (s_17 : (List Int) × (List Int) × (List (Int × Int)) × Int) : Option (((List Int) × (List Int) × (List (Int × Int)) × Int) ⊕ (Unit ⊕ ((List Int) × (List Int) × (List (Int × Int))))) :=
 if s_17.2.2.2 < (a_1.length : Int) then (if 0 ≤ s_17.2.2.2 ∧ s_17.2.2.2 < (a_1.length : Int) then (letC (gi a_1 s_17.2.2.2) fun v_25 => letC (tree_shape.m v_25.Op) fun r_26 => (if r_26.2 = true then (letC (tree_temp.m r_26.1.d v_25.D) fun r_32 => if r_32 = true then (letC (tree_temp.m r_26.1.a v_25.A) fun r_35 => if r_35 = true then (letC (tree_temp.m r_26.1.b v_25.B) fun r_38 => if r_38 = true then (if r_26.1.k = true then ((tree_places.m r_26.1 v_25 a_2).bind fun r_42 => some ((!r_42) : Bool)) else (if v_25.K = 0 then ((tree_places.m r_26.1 v_25 a_2).bind fun r_45 => some ((!r_45) : Bool)) else (some (true : Bool)))) else (some (true : Bool))) else (some (true : Bool))) else (some (true : Bool))) else (some (true : Bool)) : Option Bool).bind fun o_28 => if o_28 = true then (some (Sum.inr (Sum.inl ()))) else ((if r_26.1.to_ = true then (letC (wr .i64 (s_17.2.2.2 + 1)) fun v_52 => if v_25.To ≤ v_52 then (some (true : Bool)) else (if v_25.To ≥ (a_1.length : Int) then (some (true : Bool)) else (some (false : Bool)))) else (some ((!(decide (v_25.To = 0))) : Bool)) : Option Bool).bind fun o_48 => if o_48 = true then (some (Sum.inr (Sum.inl ()))) else ((if r_26.1.to_ = true then (if 0 ≤ v_25.To ∧ v_25.To < (((a_1.length : Int).toNat : Nat) : Int) then (if 0 ≤ v_25.To ∧ v_25.To < (s_17.1.length : Int) then (letC (gi s_17.1 v_25.To) fun v_62 => letC (s_17.1.set v_25.To.toNat (wr .i64 (v_62 + 1))) fun v_63 => if 0 ≤ v_25.To ∧ v_25.To < (s_17.2.1.length : Int) then (letC (s_17.2.1.set v_25.To.toNat s_17.2.2.2) fun v_65 => some ((v_63, v_65) : (List Int) × (List Int))) else none) else none) else none) else (some ((s_17.1, s_17.2.1) : (List Int) × (List Int))) : Option ((List Int) × (List Int))).bind fun o_56 => (if v_25.Op = 18 then (some ((o_56.1, o_56.2) : (List Int) × (List Int))) else (letC (wr .i64 (s_17.2.2.2 + 1)) fun v_70 => if 0 ≤ v_70 ∧ v_70 < (((a_1.length : Int).toNat : Nat) : Int) then (if 0 ≤ v_70 ∧ v_70 < (o_56.1.length : Int) then (letC (gi o_56.1 v_70) fun v_73 => letC (o_56.1.set v_70.toNat (wr .i64 (v_73 + 1))) fun v_74 => letC (wr .i64 (s_17.2.2.2 + 1)) fun v_75 => if 0 ≤ v_75 ∧ v_75 < (((a_1.length : Int).toNat : Nat) : Int) then (if 0 ≤ v_75 ∧ v_75 < (o_56.2.length : Int) then (letC (o_56.2.set v_75.toNat s_17.2.2.2) fun v_78 => some ((v_74, v_78) : (List Int) × (List Int))) else none) else none) else none) else none) : Option ((List Int) × (List Int))).bind fun o_66 => if r_26.1.d = true then (match aget s_17.2.2.1 v_25.D with | none => (letC (aset s_17.2.2.1 v_25.D s_17.2.2.2) fun v_83 => letC (wr .i64 (s_17.2.2.2 + 1)) fun v_84 => some (Sum.inl (o_66.1, o_66.2, v_83, v_84))) | some v_80 => (some (Sum.inr (Sum.inl ())))) else (letC (wr .i64 (s_17.2.2.2 + 1)) fun v_85 => some (Sum.inl (o_66.1, o_66.2, s_17.2.2.1, v_85)))))) else none) else (some (Sum.inr (Sum.inr ((s_17.1, s_17.2.1, s_17.2.2.1)))))
def tree_Right.m (a_1 : List api_Ins) (a_2 : List api_Loc) : Option (Bool) :=
 (if (a_1.length : Int) < 1 then (some (true : Bool)) else (if (a_1.length : Int) > 400 then (some (true : Bool)) else (letC (wr .i64 ((a_1.length : Int) - 1)) fun v_8 => if 0 ≤ v_8 ∧ v_8 < (a_1.length : Int) then (letC (gi a_1 v_8) fun v_10 => some ((!(decide (v_10.Op = 18))) : Bool)) else none)) : Option Bool).bind fun o_3 => if o_3 = true then (some false) else (if 0 ≤ (a_1.length : Int) ∧ (a_1.length : Int) ≤ (a_1.length : Int) ∧ (a_1.length : Int) * (8 : Nat) ≤ 140737488355328 then (letC (List.replicate (a_1.length : Int).toNat (0 : Int)) fun v_13 => letC (List.replicate (a_1.length : Int).toNat (0 : Int)) fun v_14 => (B.loop (tree_Right.l1 a_1 a_2) ((v_13, v_14, ([] : List (Int × Int)), 0) : (List Int) × (List Int) × (List (Int × Int)) × Int)).bind fun o_18 => match o_18 with | Sum.inl s_21 => (some false) | Sum.inr (s_22) => ((B.loop (tree_Right.l2 a_1 s_22) (((a_1.length : Int).toNat, 0) : Nat × Int)).bind fun o_89 => match o_89 with | Sum.inl s_92 => (some false) | Sum.inr (s_93) => (some true))) else none)
noncomputable def tree_Right.o (a_1 : List api_Ins) (a_2 : List api_Loc) (r : Bool) : Out := .ret (.v (.bool r)) [] []
theorem tree_Right.ev {a_1 : List api_Ins} {a_2 : List api_Loc} {r : Bool} (H : tree_Right.m a_1 a_2 = some r) : Ev Try.prog 16 [.ro false 8 a_1.length (a_1.map api_Ins.c), .ro false 2 a_2.length (a_2.map api_Loc.c)] [] [] (tree_Right.o a_1 a_2 r) := by
 unfold tree_Right.m at H
 obtain ⟨o_3, e_4, H⟩ := bdE H
 have j_5 : Rq tree_Right.F 0 [1, 1, 0, 0] ⟨[(0, .ro false 8 a_1.length (a_1.map api_Ins.c)), (1, .ro false 2 a_2.length (a_2.map api_Loc.c)), (5, vi (a_1.length : Int))], [], []⟩ ((fun _ => .normal : Bool → Ex) o_3) ((fun o_3 => ⟨[(0, .ro false 8 a_1.length (a_1.map api_Ins.c)), (1, .ro false 2 a_2.length (a_2.map api_Loc.c)), (5, vi (a_1.length : Int)), (35, .v (.bool o_3))], [], []⟩ : Bool → ASt) o_3) := by
  clear H
  have H := e_4
  clear e_4
  rcases ic H with ⟨h_6, H⟩ | ⟨h_6, H⟩
  ·obtain rfl := sj H
   exact fn [br h_6, pT, au, pT]
  ·rcases ic H with ⟨h_7, H⟩ | ⟨h_7, H⟩
   ·obtain rfl := sj H
    exact fn [br h_6, pF, br h_7, pT]
   ·let v_8 : Int := wr .i64 ((a_1.length : Int) - 1)
    replace H := ltD H
    obtain ⟨g_9, H⟩ := gdE H
    let v_10 : api_Ins := gi a_1 v_8
    replace H := ltD H
    obtain rfl := sj H
    exact fn [br h_6, pF, br h_7, ix api_Ins.c g_9, pF]
 rcases ie H with ⟨h_11, H⟩ | ⟨h_11, H⟩
 ·obtain rfl := sj H
  exact tree_Right.F.run tb mixed [sg_ 2 j_5, br h_11] rfl (by kernel_rfl)
 ·obtain ⟨g_12, H⟩ := gdE H
  let v_13 : List Int := List.replicate (a_1.length : Int).toNat (0 : Int)
  replace H := ltD H
  let v_14 : List Int := List.replicate (a_1.length : Int).toNat (0 : Int)
  replace H := ltD H
  obtain ⟨o_18, e_19, H⟩ := bdE H
  have j_20 := Runs.loop (P := Try.prog) (N := tree_Right.F.N) (m0 := 0) (c := sub_ tree_Right.F.c [1, 1, 1, 1, 1, 1, 0, 1, 0, 0]) (f := (tree_Right.l1 a_1 a_2)) (St := fun s_17 => ⟨[(0, .ro false 8 a_1.length (a_1.map api_Ins.c)), (1, .ro false 2 a_2.length (a_2.map api_Loc.c)), (5, vi (a_1.length : Int)), (6, .sl 0 0 ((a_1.length : Int).toNat) 0 ((a_1.length : Int).toNat)), (7, .sl 0 1 ((a_1.length : Int).toNat) 0 ((a_1.length : Int).toNat)), (8, .mp 2), (41, .ro false 8 a_1.length (a_1.map api_Ins.c)), (42, vi (a_1.length : Int)), (43, vi s_17.2.2.2)], [.arr false 3 1 ((a_1.length : Int).toNat) (s_17.1.map (cI .i64)), .arr false 3 1 ((a_1.length : Int).toNat) (s_17.2.1.map (cI .i64)), .mp .i64 (mE (vI .i64) s_17.2.2.1)], []⟩) (xo := (fun o => match o with | Sum.inl _ => .ret | Sum.inr (_) => (.exit 0) : (Unit ⊕ ((List Int) × (List Int) × (List (Int × Int)))) → Ex)) (So := (fun o => match o with | Sum.inl s_21 => ⟨[(4, .v (.bool false))], [], []⟩ | Sum.inr (s_22) => ⟨[(0, .ro false 8 a_1.length (a_1.map api_Ins.c)), (6, .sl 0 0 ((a_1.length : Int).toNat) 0 ((a_1.length : Int).toNat)), (7, .sl 0 1 ((a_1.length : Int).toNat) 0 ((a_1.length : Int).toNat)), (8, .mp 2)], [.arr false 3 1 ((a_1.length : Int).toNat) (s_22.1.map (cI .i64)), .arr false 3 1 ((a_1.length : Int).toNat) (s_22.2.1.map (cI .i64)), .mp .i64 (mE (vI .i64) s_22.2.2)], []⟩ : (Unit ⊕ ((List Int) × (List Int) × (List (Int × Int)))) → ASt)) (by intro o; rcases o with _ | _ <;> simp) (fun s_17 z H => by
   unfold tree_Right.l1 at H
   rcases ic H with ⟨h_23, H⟩ | ⟨h_23, H⟩
   ·obtain ⟨g_24, H⟩ := gdE H
    let v_25 : api_Ins := gi a_1 s_17.2.2.2
    replace H := ltD H
    obtain ⟨r_26, e_27, H⟩ := ltE H
    obtain ⟨o_28, e_29, H⟩ := bdE H
    have j_30 : Rq tree_Right.F 0 [1, 1, 1, 1, 1, 1, 0, 1, 0, 0, 1, 1, 0, 0, 1, 1, 0, 0] ⟨[(0, .ro false 8 a_1.length (a_1.map api_Ins.c)), (1, .ro false 2 a_2.length (a_2.map api_Loc.c)), (5, vi (a_1.length : Int)), (6, .sl 0 0 ((a_1.length : Int).toNat) 0 ((a_1.length : Int).toNat)), (7, .sl 0 1 ((a_1.length : Int).toNat) 0 ((a_1.length : Int).toNat)), (8, .mp 2), (9, vi s_17.2.2.2), (10, .ref 3 0), (11, .ref 4 0), (12, .v (.bool r_26.2)), (41, .ro false 8 a_1.length (a_1.map api_Ins.c)), (42, vi (a_1.length : Int)), (43, vi s_17.2.2.2)], [.arr false 3 1 ((a_1.length : Int).toNat) (s_17.1.map (cI .i64)), .arr false 3 1 ((a_1.length : Int).toNat) (s_17.2.1.map (cI .i64)), .mp .i64 (mE (vI .i64) s_17.2.2.1), .box (api_Ins.c v_25), .box (tree_uses.c r_26.1)], []⟩ ((fun _ => .normal : Bool → Ex) o_28) ((fun o_28 => ⟨[(0, .ro false 8 a_1.length (a_1.map api_Ins.c)), (1, .ro false 2 a_2.length (a_2.map api_Loc.c)), (5, vi (a_1.length : Int)), (6, .sl 0 0 ((a_1.length : Int).toNat) 0 ((a_1.length : Int).toNat)), (7, .sl 0 1 ((a_1.length : Int).toNat) 0 ((a_1.length : Int).toNat)), (8, .mp 2), (9, vi s_17.2.2.2), (10, .ref 3 0), (11, .ref 4 0), (41, .ro false 8 a_1.length (a_1.map api_Ins.c)), (42, vi (a_1.length : Int)), (43, vi s_17.2.2.2), (96, .v (.bool o_28))], [.arr false 3 1 ((a_1.length : Int).toNat) (s_17.1.map (cI .i64)), .arr false 3 1 ((a_1.length : Int).toNat) (s_17.2.1.map (cI .i64)), .mp .i64 (mE (vI .i64) s_17.2.2.1), .box (api_Ins.c v_25), .box (tree_uses.c r_26.1)], []⟩ : Bool → ASt) o_28) := by
     clear H
     have H := e_29
     clear e_29
     rcases ie H with ⟨h_31, H⟩ | ⟨h_31, H⟩
     ·obtain ⟨r_32, e_33, H⟩ := ltE H
      rcases ie H with ⟨h_34, H⟩ | ⟨h_34, H⟩
      ·obtain ⟨r_35, e_36, H⟩ := ltE H
       rcases ie H with ⟨h_37, H⟩ | ⟨h_37, H⟩
       ·obtain ⟨r_38, e_39, H⟩ := ltE H
        rcases ie H with ⟨h_40, H⟩ | ⟨h_40, H⟩
        ·rcases ie H with ⟨h_41, H⟩ | ⟨h_41, H⟩
         ·obtain ⟨r_42, e_43, H⟩ := bdE H
          obtain rfl := sj H
          exact fn [bn h_31, ca [] (tree_temp.ev e_33), pF, bn h_34, ca [] (tree_temp.ev e_36), pF, bn h_37, ca [] (tree_temp.ev e_39), pF, bn h_40, bn h_41, pF, pF, au, ca [] (tree_places.ev e_43), pF]
         ·rcases ic H with ⟨h_44, H⟩ | ⟨h_44, H⟩
          ·obtain ⟨r_45, e_46, H⟩ := bdE H
           obtain rfl := sj H
           exact fn [bn h_31, ca [] (tree_temp.ev e_33), pF, bn h_34, ca [] (tree_temp.ev e_36), pF, bn h_37, ca [] (tree_temp.ev e_39), pF, bn h_40, bn h_41, pT, pF, bn h_44, ca [] (tree_places.ev e_46), pF]
          ·obtain rfl := sj H
           exact fn [bn h_31, ca [] (tree_temp.ev e_33), pF, bn h_34, ca [] (tree_temp.ev e_36), pF, bn h_37, ca [] (tree_temp.ev e_39), pF, bn h_40, bn h_41, pT, pF, bn h_44, pT]
        ·obtain rfl := sj H
         exact fn [bn h_31, ca [] (tree_temp.ev e_33), pF, bn h_34, ca [] (tree_temp.ev e_36), pF, bn h_37, ca [] (tree_temp.ev e_39), pF, bn h_40, pT, au, pT]
       ·obtain rfl := sj H
        exact fn [bn h_31, ca [] (tree_temp.ev e_33), pF, bn h_34, ca [] (tree_temp.ev e_36), pF, bn h_37, pT, au, pT, au, pT]
      ·obtain rfl := sj H
       exact fn [bn h_31, ca [] (tree_temp.ev e_33), pF, bn h_34, pT, au, pT, au, pT, au, pT]
     ·obtain rfl := sj H
      exact fn [bn h_31, pT, au, pT, au, pT, au, pT, au, pT]
    rcases ie H with ⟨h_47, H⟩ | ⟨h_47, H⟩
    ·obtain rfl := sj H
     exact fn [br h_23, ix api_Ins.c g_24, ca [] (tree_shape.ev e_27), sg_ 11 j_30, br h_47]
    ·obtain ⟨o_48, e_49, H⟩ := bdE H
     have j_50 : Rq tree_Right.F 0 [1, 1, 1, 1, 1, 1, 0, 1, 0, 0, 1, 1, 0, 0, 1, 1, 1, 0, 0] ⟨[(0, .ro false 8 a_1.length (a_1.map api_Ins.c)), (1, .ro false 2 a_2.length (a_2.map api_Loc.c)), (5, vi (a_1.length : Int)), (6, .sl 0 0 ((a_1.length : Int).toNat) 0 ((a_1.length : Int).toNat)), (7, .sl 0 1 ((a_1.length : Int).toNat) 0 ((a_1.length : Int).toNat)), (8, .mp 2), (9, vi s_17.2.2.2), (10, .ref 3 0), (11, .ref 4 0), (41, .ro false 8 a_1.length (a_1.map api_Ins.c)), (42, vi (a_1.length : Int)), (43, vi s_17.2.2.2)], [.arr false 3 1 ((a_1.length : Int).toNat) (s_17.1.map (cI .i64)), .arr false 3 1 ((a_1.length : Int).toNat) (s_17.2.1.map (cI .i64)), .mp .i64 (mE (vI .i64) s_17.2.2.1), .box (api_Ins.c v_25), .box (tree_uses.c r_26.1)], []⟩ ((fun _ => .normal : Bool → Ex) o_48) ((fun o_48 => ⟨[(0, .ro false 8 a_1.length (a_1.map api_Ins.c)), (1, .ro false 2 a_2.length (a_2.map api_Loc.c)), (5, vi (a_1.length : Int)), (6, .sl 0 0 ((a_1.length : Int).toNat) 0 ((a_1.length : Int).toNat)), (7, .sl 0 1 ((a_1.length : Int).toNat) 0 ((a_1.length : Int).toNat)), (8, .mp 2), (9, vi s_17.2.2.2), (10, .ref 3 0), (11, .ref 4 0), (41, .ro false 8 a_1.length (a_1.map api_Ins.c)), (42, vi (a_1.length : Int)), (43, vi s_17.2.2.2), (121, .v (.bool o_48))], [.arr false 3 1 ((a_1.length : Int).toNat) (s_17.1.map (cI .i64)), .arr false 3 1 ((a_1.length : Int).toNat) (s_17.2.1.map (cI .i64)), .mp .i64 (mE (vI .i64) s_17.2.2.1), .box (api_Ins.c v_25), .box (tree_uses.c r_26.1)], []⟩ : Bool → ASt) o_48) := by
      clear H
      have H := e_49
      clear e_49
      rcases ie H with ⟨h_51, H⟩ | ⟨h_51, H⟩
      ·let v_52 : Int := wr .i64 (s_17.2.2.2 + 1)
       replace H := ltD H
       rcases ic H with ⟨h_53, H⟩ | ⟨h_53, H⟩
       ·obtain rfl := sj H
        exact fn [br h_51, br h_53, pT, pT, au, pT]
       ·rcases ic H with ⟨h_54, H⟩ | ⟨h_54, H⟩
        ·obtain rfl := sj H
         exact fn [br h_51, br h_53, pF, pT, br h_54, pT]
        ·obtain rfl := sj H
         exact fn [br h_51, br h_53, pF, pT, br h_54, bn h_51, pF, pF]
      ·obtain rfl := sj H
       exact fn [br h_51, pF, au, bn h_51, pT, pF]
     rcases ie H with ⟨h_55, H⟩ | ⟨h_55, H⟩
     ·obtain rfl := sj H
      exact fn [br h_23, ix api_Ins.c g_24, ca [] (tree_shape.ev e_27), sg_ 11 j_30, br h_47, sg_ 13 j_50, br h_55]
     ·obtain ⟨o_56, e_57, H⟩ := bdE H
      have j_58 : Rq tree_Right.F 0 [1, 1, 1, 1, 1, 1, 0, 1, 0, 0, 1, 1, 0, 0, 1, 1, 1, 1, 0, 1] ⟨[(0, .ro false 8 a_1.length (a_1.map api_Ins.c)), (1, .ro false 2 a_2.length (a_2.map api_Loc.c)), (5, vi (a_1.length : Int)), (6, .sl 0 0 ((a_1.length : Int).toNat) 0 ((a_1.length : Int).toNat)), (7, .sl 0 1 ((a_1.length : Int).toNat) 0 ((a_1.length : Int).toNat)), (8, .mp 2), (9, vi s_17.2.2.2), (10, .ref 3 0), (11, .ref 4 0), (41, .ro false 8 a_1.length (a_1.map api_Ins.c)), (42, vi (a_1.length : Int)), (43, vi s_17.2.2.2), (123, .v (.bool r_26.1.to_))], [.arr false 3 1 ((a_1.length : Int).toNat) (s_17.1.map (cI .i64)), .arr false 3 1 ((a_1.length : Int).toNat) (s_17.2.1.map (cI .i64)), .mp .i64 (mE (vI .i64) s_17.2.2.1), .box (api_Ins.c v_25), .box (tree_uses.c r_26.1)], []⟩ ((fun _ => .normal : ((List Int) × (List Int)) → Ex) o_56) ((fun o_56 => ⟨[(0, .ro false 8 a_1.length (a_1.map api_Ins.c)), (1, .ro false 2 a_2.length (a_2.map api_Loc.c)), (5, vi (a_1.length : Int)), (6, .sl 0 0 ((a_1.length : Int).toNat) 0 ((a_1.length : Int).toNat)), (7, .sl 0 1 ((a_1.length : Int).toNat) 0 ((a_1.length : Int).toNat)), (8, .mp 2), (9, vi s_17.2.2.2), (10, .ref 3 0), (11, .ref 4 0), (41, .ro false 8 a_1.length (a_1.map api_Ins.c)), (42, vi (a_1.length : Int)), (43, vi s_17.2.2.2)], [.arr false 3 1 ((a_1.length : Int).toNat) (o_56.1.map (cI .i64)), .arr false 3 1 ((a_1.length : Int).toNat) (o_56.2.map (cI .i64)), .mp .i64 (mE (vI .i64) s_17.2.2.1), .box (api_Ins.c v_25), .box (tree_uses.c r_26.1)], []⟩ : ((List Int) × (List Int)) → ASt) o_56) := by
       clear H
       have H := e_57
       clear e_57
       rcases ie H with ⟨h_59, H⟩ | ⟨h_59, H⟩
       ·obtain ⟨g_60, H⟩ := gdE H
        obtain ⟨g_61, H⟩ := gdE H
        let v_62 : Int := gi s_17.1 v_25.To
        replace H := ltD H
        let v_63 : List Int := s_17.1.set v_25.To.toNat (wr .i64 (v_62 + 1))
        replace H := ltD H
        obtain ⟨g_64, H⟩ := gdE H
        let v_65 : List Int := s_17.2.1.set v_25.To.toNat s_17.2.2.2
        replace H := ltD H
        obtain rfl := sj H
        exact fn [br h_59, pf g_60, el (cI .i64) g_61, pf g_60, up (cI .i64) 0 [vi (wr .i64 (v_62 + 1))] (wr .i64 (v_62 + 1)) g_61 (by kernel_rfl), pf g_60, up (cI .i64) 0 [vi s_17.2.2.2] s_17.2.2.2 g_64 (by kernel_rfl)]
       ·obtain rfl := sj H
        exact fn [br h_59]
      obtain ⟨o_66, e_67, H⟩ := bdE H
      have j_68 : Rq tree_Right.F 0 [1, 1, 1, 1, 1, 1, 0, 1, 0, 0, 1, 1, 0, 0, 1, 1, 1, 1, 1, 0, 1] ⟨[(0, .ro false 8 a_1.length (a_1.map api_Ins.c)), (1, .ro false 2 a_2.length (a_2.map api_Loc.c)), (5, vi (a_1.length : Int)), (6, .sl 0 0 ((a_1.length : Int).toNat) 0 ((a_1.length : Int).toNat)), (7, .sl 0 1 ((a_1.length : Int).toNat) 0 ((a_1.length : Int).toNat)), (8, .mp 2), (9, vi s_17.2.2.2), (10, .ref 3 0), (11, .ref 4 0), (41, .ro false 8 a_1.length (a_1.map api_Ins.c)), (42, vi (a_1.length : Int)), (43, vi s_17.2.2.2), (138, .v (.bool (!(decide (v_25.Op = 18)))))], [.arr false 3 1 ((a_1.length : Int).toNat) (o_56.1.map (cI .i64)), .arr false 3 1 ((a_1.length : Int).toNat) (o_56.2.map (cI .i64)), .mp .i64 (mE (vI .i64) s_17.2.2.1), .box (api_Ins.c v_25), .box (tree_uses.c r_26.1)], []⟩ ((fun _ => .normal : ((List Int) × (List Int)) → Ex) o_66) ((fun o_66 => ⟨[(0, .ro false 8 a_1.length (a_1.map api_Ins.c)), (1, .ro false 2 a_2.length (a_2.map api_Loc.c)), (5, vi (a_1.length : Int)), (6, .sl 0 0 ((a_1.length : Int).toNat) 0 ((a_1.length : Int).toNat)), (7, .sl 0 1 ((a_1.length : Int).toNat) 0 ((a_1.length : Int).toNat)), (8, .mp 2), (9, vi s_17.2.2.2), (10, .ref 3 0), (11, .ref 4 0), (41, .ro false 8 a_1.length (a_1.map api_Ins.c)), (42, vi (a_1.length : Int)), (43, vi s_17.2.2.2)], [.arr false 3 1 ((a_1.length : Int).toNat) (o_66.1.map (cI .i64)), .arr false 3 1 ((a_1.length : Int).toNat) (o_66.2.map (cI .i64)), .mp .i64 (mE (vI .i64) s_17.2.2.1), .box (api_Ins.c v_25), .box (tree_uses.c r_26.1)], []⟩ : ((List Int) × (List Int)) → ASt) o_66) := by
       clear H
       have H := e_67
       clear e_67
       rcases ic H with ⟨h_69, H⟩ | ⟨h_69, H⟩
       ·obtain rfl := sj H
        exact fn [bn h_69]
       ·let v_70 : Int := wr .i64 (s_17.2.2.2 + 1)
        replace H := ltD H
        obtain ⟨g_71, H⟩ := gdE H
        obtain ⟨g_72, H⟩ := gdE H
        let v_73 : Int := gi o_56.1 v_70
        replace H := ltD H
        let v_74 : List Int := o_56.1.set v_70.toNat (wr .i64 (v_73 + 1))
        replace H := ltD H
        let v_75 : Int := wr .i64 (s_17.2.2.2 + 1)
        replace H := ltD H
        obtain ⟨g_76, H⟩ := gdE H
        obtain ⟨g_77, H⟩ := gdE H
        let v_78 : List Int := o_56.2.set v_75.toNat s_17.2.2.2
        replace H := ltD H
        obtain rfl := sj H
        exact fn [bn h_69, pf g_71, el (cI .i64) g_72, pf g_71, up (cI .i64) 0 [vi (wr .i64 (v_73 + 1))] (wr .i64 (v_73 + 1)) g_72 (by kernel_rfl), pf g_76, up (cI .i64) 0 [vi s_17.2.2.2] s_17.2.2.2 g_77 (by kernel_rfl)]
      rcases ie H with ⟨h_79, H⟩ | ⟨h_79, H⟩
      ·rcases e_81 : aget s_17.2.2.1 v_25.D with _ | v_80
       ·rw [e_81] at H
        let v_83 : List (Int × Int) := aset s_17.2.2.1 v_25.D s_17.2.2.2
        replace H := ltD H
        let v_84 : Int := wr .i64 (s_17.2.2.2 + 1)
        replace H := ltD H
        obtain rfl := sj H
        exact fn [br h_23, ix api_Ins.c g_24, ca [] (tree_shape.ev e_27), sg_ 11 j_30, br h_47, sg_ 13 j_50, br h_55, sc_ j_58, sc_ j_68, br h_79, mgN (vI .i64) e_81, au, ms (vI .i64) s_17.2.2.1 v_25.D s_17.2.2.2]
       ·rw [e_81] at H
        obtain rfl := sj H
        exact fn [br h_23, ix api_Ins.c g_24, ca [] (tree_shape.ev e_27), sg_ 11 j_30, br h_47, sg_ 13 j_50, br h_55, sc_ j_58, sc_ j_68, br h_79, mgS (vI .i64) e_81, au]
      ·let v_85 : Int := wr .i64 (s_17.2.2.2 + 1)
       replace H := ltD H
       obtain rfl := sj H
       exact fn [br h_23, ix api_Ins.c g_24, ca [] (tree_shape.ev e_27), sg_ 11 j_30, br h_47, sg_ 13 j_50, br h_55, sc_ j_58, sc_ j_68, br h_79]
   ·obtain rfl := sj H
    exact fn [br h_23] (by kernel_rfl)) e_19
  rcases o_18 with s_21 | s_22
  ·obtain rfl := sj H
   exact tree_Right.F.run tb mixed [sg_ 2 j_5, br h_11, mk (cI .i64) (0 : Int) ((cI .i64) 0) 8 (a_1.length : Int) (a_1.length : Int) g_12 rfl, mk (cI .i64) (0 : Int) ((cI .i64) 0) 8 (a_1.length : Int) (a_1.length : Int) g_12 rfl, su j_20] rfl (by kernel_rfl)
  ·obtain ⟨o_89, e_90, H⟩ := bdE H
   have j_91 := Runs.loop (P := Try.prog) (N := tree_Right.F.N) (m0 := 0) (c := sub_ tree_Right.F.c [1, 1, 1, 1, 1, 1, 1, 0, 1, 0, 0]) (f := (tree_Right.l2 a_1 s_22)) (St := fun s_88 => ⟨[(6, .sl 0 0 ((a_1.length : Int).toNat) 0 ((a_1.length : Int).toNat)), (7, .sl 0 1 s_88.1 0 s_88.1), (8, .mp 2), (166, .ro false 8 a_1.length (a_1.map api_Ins.c)), (167, vi (a_1.length : Int)), (168, vi s_88.2)], [.arr false 3 1 ((a_1.length : Int).toNat) (s_22.1.map (cI .i64)), .arr false 3 1 s_88.1 (s_22.2.1.map (cI .i64)), .mp .i64 (mE (vI .i64) s_22.2.2)], []⟩) (xo := (fun o => match o with | Sum.inl _ => .ret | Sum.inr (_) => (.exit 2) : (Unit ⊕ Unit) → Ex)) (So := (fun o => match o with | Sum.inl s_92 => ⟨[(4, .v (.bool false))], [], []⟩ | Sum.inr (s_93) => ⟨[], [], []⟩ : (Unit ⊕ Unit) → ASt)) (by intro o; rcases o with _ | _ <;> simp) (fun s_88 z H => by
    unfold tree_Right.l2 at H
    rcases ic H with ⟨h_94, H⟩ | ⟨h_94, H⟩
    ·obtain ⟨g_95, H⟩ := gdE H
     let v_96 : api_Ins := gi a_1 s_88.2
     replace H := ltD H
     obtain ⟨o_97, e_98, H⟩ := bdE H
     have j_99 : Rq tree_Right.F 0 [1, 1, 1, 1, 1, 1, 1, 0, 1, 0, 0, 1, 1, 0, 0, 1, 0, 0] ⟨[(6, .sl 0 0 ((a_1.length : Int).toNat) 0 ((a_1.length : Int).toNat)), (7, .sl 0 1 s_88.1 0 s_88.1), (8, .mp 2), (15, vi s_88.2), (16, .ref 3 0), (166, .ro false 8 a_1.length (a_1.map api_Ins.c)), (167, vi (a_1.length : Int)), (168, vi s_88.2)], [.arr false 3 1 ((a_1.length : Int).toNat) (s_22.1.map (cI .i64)), .arr false 3 1 s_88.1 (s_22.2.1.map (cI .i64)), .mp .i64 (mE (vI .i64) s_22.2.2), .box (api_Ins.c v_96)], []⟩ ((fun _ => .normal : Bool → Ex) o_97) ((fun o_97 => ⟨[(6, .sl 0 0 ((a_1.length : Int).toNat) 0 ((a_1.length : Int).toNat)), (7, .sl 0 1 s_88.1 0 s_88.1), (8, .mp 2), (15, vi s_88.2), (16, .ref 3 0), (166, .ro false 8 a_1.length (a_1.map api_Ins.c)), (167, vi (a_1.length : Int)), (168, vi s_88.2), (181, .v (.bool o_97))], [.arr false 3 1 ((a_1.length : Int).toNat) (s_22.1.map (cI .i64)), .arr false 3 1 s_88.1 (s_22.2.1.map (cI .i64)), .mp .i64 (mE (vI .i64) s_22.2.2), .box (api_Ins.c v_96)], []⟩ : Bool → ASt) o_97) := by
      clear H
      have H := e_98
      clear e_98
      rcases ic H with ⟨h_100, H⟩ | ⟨h_100, H⟩
      ·obtain ⟨g_101, H⟩ := gdE H
       obtain ⟨g_102, H⟩ := gdE H
       let v_103 : Int := gi s_22.1 s_88.2
       replace H := ltD H
       obtain rfl := sj H
       exact fn [br h_100, pf g_101, el (cI .i64) g_102, pT]
      ·obtain rfl := sj H
       exact fn [br h_100, pF]
     rcases ie H with ⟨h_104, H⟩ | ⟨h_104, H⟩
     ·obtain rfl := sj H
      exact fn [br h_94, ix api_Ins.c g_95, sg_ 30 j_99, br h_104]
     ·obtain ⟨r_105, e_106, H⟩ := ltE H
      obtain ⟨o_107, e_108, H⟩ := bdE H
      have j_109 : Rq tree_Right.F 0 [1, 1, 1, 1, 1, 1, 1, 0, 1, 0, 0, 1, 1, 0, 0, 1, 1, 1, 0] ⟨[(6, .sl 0 0 ((a_1.length : Int).toNat) 0 ((a_1.length : Int).toNat)), (7, .sl 0 1 s_88.1 0 s_88.1), (8, .mp 2), (15, vi s_88.2), (16, .ref 3 0), (17, .ref 4 0), (166, .ro false 8 a_1.length (a_1.map api_Ins.c)), (167, vi (a_1.length : Int)), (168, vi s_88.2)], [.arr false 3 1 ((a_1.length : Int).toNat) (s_22.1.map (cI .i64)), .arr false 3 1 s_88.1 (s_22.2.1.map (cI .i64)), .mp .i64 (mE (vI .i64) s_22.2.2), .box (api_Ins.c v_96), .box (tree_uses.c r_105.1)], []⟩ ((fun _ => .normal : Bool → Ex) o_107) ((fun o_107 => ⟨[(6, .sl 0 0 ((a_1.length : Int).toNat) 0 ((a_1.length : Int).toNat)), (7, .sl 0 1 s_88.1 0 s_88.1), (8, .mp 2), (166, .ro false 8 a_1.length (a_1.map api_Ins.c)), (167, vi (a_1.length : Int)), (168, vi s_88.2), (211, .v (.bool o_107))], [.arr false 3 1 ((a_1.length : Int).toNat) (s_22.1.map (cI .i64)), .arr false 3 1 s_88.1 (s_22.2.1.map (cI .i64)), .mp .i64 (mE (vI .i64) s_22.2.2)], []⟩ : Bool → ASt) o_107) := by
       clear H
       have H := e_108
       clear e_108
       rcases ie H with ⟨h_110, H⟩ | ⟨h_110, H⟩
       ·obtain ⟨r_111, e_112, H⟩ := bdE H
        rcases ie H with ⟨h_113, H⟩ | ⟨h_113, H⟩
        ·rcases ie H with ⟨h_114, H⟩ | ⟨h_114, H⟩
         ·obtain ⟨r_115, e_116, H⟩ := bdE H
          obtain rfl := sj H
          exact fn [br h_110, ca [2, 1] (tree_above.ev e_112), pT, bn h_113, br h_114, ca [2, 1] (tree_above.ev e_116), pT, pF]
         ·obtain rfl := sj H
          exact fn [br h_110, ca [2, 1] (tree_above.ev e_112), pT, bn h_113, br h_114, pF, pF]
        ·obtain rfl := sj H
         exact fn [br h_110, ca [2, 1] (tree_above.ev e_112), pT, bn h_113, pT]
       ·rcases ie H with ⟨h_117, H⟩ | ⟨h_117, H⟩
        ·obtain ⟨r_118, e_119, H⟩ := bdE H
         obtain rfl := sj H
         exact fn [br h_110, pF, au, br h_117, ca [2, 1] (tree_above.ev e_119), pT, pF]
        ·obtain rfl := sj H
         exact fn [br h_110, pF, au, br h_117, pF, pF]
      rcases ie H with ⟨h_120, H⟩ | ⟨h_120, H⟩
      ·obtain rfl := sj H
       exact fn [br h_94, ix api_Ins.c g_95, sg_ 30 j_99, br h_104, ca [] (tree_shape.ev e_106), sg_ 33 j_109, br h_120]
      ·let v_121 : Int := wr .i64 (s_88.2 + 1)
       replace H := ltD H
       obtain rfl := sj H
       exact fn [br h_94, ix api_Ins.c g_95, sg_ 30 j_99, br h_104, ca [] (tree_shape.ev e_106), sg_ 33 j_109, br h_120]
    ·obtain rfl := sj H
     exact fn [br h_94] (by kernel_rfl)) e_90
   rcases o_89 with s_92 | s_93
   ·obtain rfl := sj H
    exact tree_Right.F.run tb mixed [sg_ 2 j_5, br h_11, mk (cI .i64) (0 : Int) ((cI .i64) 0) 8 (a_1.length : Int) (a_1.length : Int) g_12 rfl, mk (cI .i64) (0 : Int) ((cI .i64) 0) 8 (a_1.length : Int) (a_1.length : Int) g_12 rfl, su j_20, su j_91] rfl (by kernel_rfl)
   ·obtain rfl := sj H
    exact tree_Right.F.run tb mixed [sg_ 2 j_5, br h_11, mk (cI .i64) (0 : Int) ((cI .i64) 0) 8 (a_1.length : Int) (a_1.length : Int) g_12 rfl, mk (cI .i64) (0 : Int) ((cI .i64) 0) 8 (a_1.length : Int) (a_1.length : Int) g_12 rfl, su j_20, su j_91] rfl (by kernel_rfl)
def tree_Right.k2 (a_1 : List api_Ins) (s_22 : (List Int) × (List Int) × (List (Int × Int))) (s_88 : Nat × Int) : Option ((Nat × Int) ⊕ (Unit ⊕ Unit)) :=
 if s_88.2 < (a_1.length : Int) then (if 0 ≤ s_88.2 ∧ s_88.2 < (a_1.length : Int) then (letK (gi a_1 s_88.2) fun v_96 => (if s_88.2 > 0 then (if 0 ≤ s_88.2 ∧ s_88.2 < (((a_1.length : Int).toNat : Nat) : Int) then (if 0 ≤ s_88.2 ∧ s_88.2 < (s_22.1.length : Int) then (letK (gi s_22.1 s_88.2) fun v_103 => some ((!(decide (v_103 = 1))) : Bool)) else none) else none) else (some (false : Bool)) : Option Bool).bind fun o_97 => if o_97 = true then (some (Sum.inr (Sum.inl ()))) else (letK (tree_shape.m v_96.Op) fun r_105 => (if r_105.1.a = true then ((tree_above.k v_96.A s_88.2 s_22.2.2 s_22.2.1 s_88.1).bind fun r_111 => if r_111 = true then (if r_105.1.b = true then ((tree_above.k v_96.B s_88.2 s_22.2.2 s_22.2.1 s_88.1).bind fun r_115 => some ((!r_115) : Bool)) else (some (false : Bool))) else (some (true : Bool))) else (if r_105.1.b = true then ((tree_above.k v_96.B s_88.2 s_22.2.2 s_22.2.1 s_88.1).bind fun r_118 => some ((!r_118) : Bool)) else (some (false : Bool))) : Option Bool).bind fun o_107 => if o_107 = true then (some (Sum.inr (Sum.inl ()))) else (letK (wr .i64 (s_88.2 + 1)) fun v_121 => some (Sum.inl (s_88.1, v_121))))) else none) else (some (Sum.inr (Sum.inr (()))))
theorem tree_Right.k2_le (a_1 : List api_Ins) (s_22 : (List Int) × (List Int) × (List (Int × Int))) (s_88 : Nat × Int) : OLe (tree_Right.k2 a_1 s_22 s_88) (tree_Right.l2 a_1 s_22 s_88) := by
 unfold tree_Right.k2 tree_Right.l2
 repeat' with_reducible first | refine OLe.lt (fun _ => ?_) | refine OLe.lp (fun _ => ?_) | refine OLe.bind ?_ (fun _ => ?_) | refine OLe.ite ?_ ?_ | exact OLe.rfl' | split | exact tree_places.k_le .. | exact tree_above.k_le ..
def tree_Right.k1 (a_1 : List api_Ins) (a_2 : List api_Loc) (s_17 : (List Int) × (List Int) × (List (Int × Int)) × Int) : Option (((List Int) × (List Int) × (List (Int × Int)) × Int) ⊕ (Unit ⊕ ((List Int) × (List Int) × (List (Int × Int))))) :=
 if s_17.2.2.2 < (a_1.length : Int) then (if 0 ≤ s_17.2.2.2 ∧ s_17.2.2.2 < (a_1.length : Int) then (letK (gi a_1 s_17.2.2.2) fun v_25 => letK (tree_shape.m v_25.Op) fun r_26 => (if r_26.2 = true then (letK (tree_temp.m r_26.1.d v_25.D) fun r_32 => if r_32 = true then (letK (tree_temp.m r_26.1.a v_25.A) fun r_35 => if r_35 = true then (letK (tree_temp.m r_26.1.b v_25.B) fun r_38 => if r_38 = true then (if r_26.1.k = true then ((tree_places.k r_26.1 v_25 a_2).bind fun r_42 => some ((!r_42) : Bool)) else (if v_25.K = 0 then ((tree_places.k r_26.1 v_25 a_2).bind fun r_45 => some ((!r_45) : Bool)) else (some (true : Bool)))) else (some (true : Bool))) else (some (true : Bool))) else (some (true : Bool))) else (some (true : Bool)) : Option Bool).bind fun o_28 => if o_28 = true then (some (Sum.inr (Sum.inl ()))) else ((if r_26.1.to_ = true then (letK (wr .i64 (s_17.2.2.2 + 1)) fun v_52 => if v_25.To ≤ v_52 then (some (true : Bool)) else (if v_25.To ≥ (a_1.length : Int) then (some (true : Bool)) else (some (false : Bool)))) else (some ((!(decide (v_25.To = 0))) : Bool)) : Option Bool).bind fun o_48 => if o_48 = true then (some (Sum.inr (Sum.inl ()))) else ((if r_26.1.to_ = true then (if 0 ≤ v_25.To ∧ v_25.To < (((a_1.length : Int).toNat : Nat) : Int) then (if 0 ≤ v_25.To ∧ v_25.To < (s_17.1.length : Int) then (letK (gi s_17.1 v_25.To) fun v_62 => letK (s_17.1.set v_25.To.toNat (wr .i64 (v_62 + 1))) fun v_63 => if 0 ≤ v_25.To ∧ v_25.To < (s_17.2.1.length : Int) then (letK (s_17.2.1.set v_25.To.toNat s_17.2.2.2) fun v_65 => some ((v_63, v_65) : (List Int) × (List Int))) else none) else none) else none) else (some ((s_17.1, s_17.2.1) : (List Int) × (List Int))) : Option ((List Int) × (List Int))).bind fun o_56 => (if v_25.Op = 18 then (some ((o_56.1, o_56.2) : (List Int) × (List Int))) else (letK (wr .i64 (s_17.2.2.2 + 1)) fun v_70 => if 0 ≤ v_70 ∧ v_70 < (((a_1.length : Int).toNat : Nat) : Int) then (if 0 ≤ v_70 ∧ v_70 < (o_56.1.length : Int) then (letK (gi o_56.1 v_70) fun v_73 => letK (o_56.1.set v_70.toNat (wr .i64 (v_73 + 1))) fun v_74 => letK (wr .i64 (s_17.2.2.2 + 1)) fun v_75 => if 0 ≤ v_75 ∧ v_75 < (((a_1.length : Int).toNat : Nat) : Int) then (if 0 ≤ v_75 ∧ v_75 < (o_56.2.length : Int) then (letK (o_56.2.set v_75.toNat s_17.2.2.2) fun v_78 => some ((v_74, v_78) : (List Int) × (List Int))) else none) else none) else none) else none) : Option ((List Int) × (List Int))).bind fun o_66 => if r_26.1.d = true then (match aget s_17.2.2.1 v_25.D with | none => (letK (aset s_17.2.2.1 v_25.D s_17.2.2.2) fun v_83 => letK (wr .i64 (s_17.2.2.2 + 1)) fun v_84 => some (Sum.inl (o_66.1, o_66.2, v_83, v_84))) | some v_80 => (some (Sum.inr (Sum.inl ())))) else (letK (wr .i64 (s_17.2.2.2 + 1)) fun v_85 => some (Sum.inl (o_66.1, o_66.2, s_17.2.2.1, v_85)))))) else none) else (some (Sum.inr (Sum.inr ((s_17.1, s_17.2.1, s_17.2.2.1)))))
theorem tree_Right.k1_le (a_1 : List api_Ins) (a_2 : List api_Loc) (s_17 : (List Int) × (List Int) × (List (Int × Int)) × Int) : OLe (tree_Right.k1 a_1 a_2 s_17) (tree_Right.l1 a_1 a_2 s_17) := by
 unfold tree_Right.k1 tree_Right.l1
 repeat' with_reducible first | refine OLe.lt (fun _ => ?_) | refine OLe.lp (fun _ => ?_) | refine OLe.bind ?_ (fun _ => ?_) | refine OLe.ite ?_ ?_ | exact OLe.rfl' | split | exact tree_Right.k2_le .. | exact tree_places.k_le .. | exact tree_above.k_le ..
 all_goals try simp_all only [Option.some.injEq, reduceCtorEq]
 all_goals try subst_vars
 repeat' with_reducible first | refine OLe.lt (fun _ => ?_) | refine OLe.lp (fun _ => ?_) | refine OLe.bind ?_ (fun _ => ?_) | refine OLe.ite ?_ ?_ | exact OLe.rfl' | split | exact tree_Right.k2_le .. | exact tree_places.k_le .. | exact tree_above.k_le ..
 all_goals (exfalso; simp_all)
def tree_Right.k (a_1 : List api_Ins) (a_2 : List api_Loc) : Option (Bool) :=
 (if (a_1.length : Int) < 1 then (some (true : Bool)) else (if (a_1.length : Int) > 400 then (some (true : Bool)) else (letK (wr .i64 ((a_1.length : Int) - 1)) fun v_8 => if 0 ≤ v_8 ∧ v_8 < (a_1.length : Int) then (letK (gi a_1 v_8) fun v_10 => some ((!(decide (v_10.Op = 18))) : Bool)) else none)) : Option Bool).bind fun o_3 => if o_3 = true then (some false) else (if 0 ≤ (a_1.length : Int) ∧ (a_1.length : Int) ≤ (a_1.length : Int) ∧ (a_1.length : Int) * (8 : Nat) ≤ 140737488355328 then (letK (List.replicate (a_1.length : Int).toNat (0 : Int)) fun v_13 => letK (List.replicate (a_1.length : Int).toNat (0 : Int)) fun v_14 => (lpK (tree_Right.k1 a_1 a_2) ((v_13, v_14, ([] : List (Int × Int)), 0) : (List Int) × (List Int) × (List (Int × Int)) × Int)).bind fun o_18 => match o_18 with | Sum.inl s_21 => (some false) | Sum.inr (s_22) => ((lpK (tree_Right.k2 a_1 s_22) (((a_1.length : Int).toNat, 0) : Nat × Int)).bind fun o_89 => match o_89 with | Sum.inl s_92 => (some false) | Sum.inr (s_93) => (some true))) else none)
theorem tree_Right.k_le (a_1 : List api_Ins) (a_2 : List api_Loc) : OLe (tree_Right.k a_1 a_2) (tree_Right.m a_1 a_2) := by
 unfold tree_Right.k tree_Right.m
 repeat' with_reducible first | refine OLe.lt (fun _ => ?_) | refine OLe.lp (fun _ => ?_) | refine OLe.bind ?_ (fun _ => ?_) | refine OLe.ite ?_ ?_ | exact OLe.rfl' | split | exact tree_Right.k2_le .. | exact tree_Right.k1_le .. | exact tree_places.k_le .. | exact tree_above.k_le ..
 all_goals (exfalso; simp_all)
noncomputable def fold_reckon.F : FI Try.prog 31 := fi Try.f31 21 Try.call31 Try.func31
def fold_reckon.m (a_1 : Int) (a_2 : Int) (a_3 : Int) : Int :=
 if a_1 = 2 then ((wr .i64 (a_2 + a_3))) else (if a_1 = 3 then ((wr .i64 (a_2 - a_3))) else ((wr .i64 (a_2 * a_3))))
noncomputable def fold_reckon.o (a_1 : Int) (a_2 : Int) (a_3 : Int) (r : Int) : Out := .ret (vi r) [] []
theorem fold_reckon.ev {a_1 : Int} {a_2 : Int} {a_3 : Int} {r : Int} (H : fold_reckon.m a_1 a_2 a_3 = r) : Ev Try.prog 31 [vi a_1, vi a_2, vi a_3] [] [] (fold_reckon.o a_1 a_2 a_3 r) := by
 unfold fold_reckon.m at H
 rcases ic H with ⟨h_4, H⟩ | ⟨h_4, H⟩
 ·subst H
  exact fold_reckon.F.run tb mixed [br h_4] rfl (by kernel_rfl)
 ·rcases ic H with ⟨h_5, H⟩ | ⟨h_5, H⟩
  ·subst H
   exact fold_reckon.F.run tb mixed [br h_4, br h_5] rfl (by kernel_rfl)
  ·subst H
   exact fold_reckon.F.run tb mixed [br h_4, br h_5] rfl (by kernel_rfl)
noncomputable def maps_Clone.F : FI Try.prog 32 := fi Try.f32 9 Try.call32 Try.func32
def maps_Clone.m (a_1 : List (Int × Int)) : Unit :=
 ()
noncomputable def maps_Clone.o (a_1 : List (Int × Int)) (r : Unit) : Out := .ret (.mp 1) [.mp .i64 (mE (vI .i64) a_1), .mp .i64 (mE (vI .i64) a_1)] []
theorem maps_Clone.ev {a_1 : List (Int × Int)} {r : Unit} (H : maps_Clone.m a_1 = r) : Ev Try.prog 32 [.mp 0] [.mp .i64 (mE (vI .i64) a_1)] [] (maps_Clone.o a_1 r) := by
 unfold maps_Clone.m at H
 subst H
 exact maps_Clone.F.run tb mixed [au, exm (ext_mapsclone Try.func39 (by kernel_rfl) (by kernel_rfl) (by kernel_rfl) (by kernel_rfl))] rfl (by kernel_rfl)
noncomputable def fold_grow.F : FI Try.prog 17 := fi Try.f17 154 Try.call17 Try.func17
def fold_grow.b (rec_ : (List api_Ins) → Int → (List (Int × Int)) → (List fold_node) → Option ((List fold_node) × (List (Int × Int)))) (a_1 : List api_Ins) (a_2 : Int) (a_3 : List (Int × Int)) (a_4 : List fold_node) : Option ((List fold_node) × (List (Int × Int))) :=
 if 0 ≤ a_2 ∧ a_2 < (a_1.length : Int) then (letC (gi a_1 a_2) fun v_6 => letC ((aget a_3 v_6.A).getD 0) fun v_7 => letC ((aget a_3 v_6.B).getD 0) fun v_8 => (if ((aget a_3 v_6.A).isSome) = true then (some ((aget a_3 v_6.B).isSome : Bool)) else (some (false : Bool)) : Option Bool).bind fun o_9 => (if v_6.Op = 18 then (letC (a_4 ++ [fold_node.mk v_6 (none : Option Nat) (none : Option Nat)]) fun v_17 => some (Sum.inl (a_3, v_17) : ((List (Int × Int)) × (List fold_node)) ⊕ api_Ins)) else ((if v_6.Op = 16 then (some (true : Bool)) else (some ((decide (v_6.Op = 17)) : Bool)) : Option Bool).bind fun o_18 => if o_18 = true then ((if v_6.A = v_6.B then (some ((decide (v_6.Op = 16)) : Bool)) else (some (false : Bool)) : Option Bool).bind fun o_23 => (if o_23 = true then (some (true : Bool)) else ((if o_9 = true then (if v_6.Op = 16 then (some ((decide (v_7 ≥ v_8)) : Bool)) else (some (false : Bool))) else (some (false : Bool)) : Option Bool).bind fun o_31 => if o_31 = true then (some (true : Bool)) else (if o_9 = true then (if v_6.Op = 17 then (some ((!(decide (v_7 = v_8))) : Bool)) else (some (false : Bool))) else (some (false : Bool)))) : Option Bool).bind fun o_27 => if o_27 = true then ((rec_ a_1 v_6.To a_3 a_4).bind fun r_40 => some (Sum.inl (r_40.2, r_40.1) : ((List (Int × Int)) × (List fold_node)) ⊕ api_Ins)) else (if v_6.A = v_6.B then ((rec_ a_1 (wr .i64 (a_2 + 1)) a_3 a_4).bind fun r_43 => some (Sum.inl (r_43.2, r_43.1) : ((List (Int × Int)) × (List fold_node)) ⊕ api_Ins)) else (if o_9 = true then ((rec_ a_1 (wr .i64 (a_2 + 1)) a_3 a_4).bind fun r_46 => some (Sum.inl (r_46.2, r_46.1) : ((List (Int × Int)) × (List fold_node)) ⊕ api_Ins)) else (some (Sum.inr (v_6) : ((List (Int × Int)) × (List fold_node)) ⊕ api_Ins))))) else ((if v_6.Op = 2 then (some (true : Bool)) else (if v_6.Op = 3 then (some (true : Bool)) else (some ((decide (v_6.Op = 4)) : Bool))) : Option Bool).bind fun o_48 => if o_48 = true then (if o_9 = true then (letC (fold_reckon.m v_6.Op v_7 v_8) fun r_55 => some (Sum.inr ((api_Ins.mk 1 v_6.D 0 0 0 0 r_55 0)) : ((List (Int × Int)) × (List fold_node)) ⊕ api_Ins)) else (some (Sum.inr (v_6) : ((List (Int × Int)) × (List fold_node)) ⊕ api_Ins))) else (if v_6.Op = 5 then (if o_9 = true then (if v_8 = 0 then (some (Sum.inr (v_6) : ((List (Int × Int)) × (List fold_node)) ⊕ api_Ins)) else (if v_8 ≠ 0 then (some (Sum.inr ((api_Ins.mk 1 v_6.D 0 0 0 0 (wr .i64 (Int.tdiv v_7 v_8)) 0)) : ((List (Int × Int)) × (List fold_node)) ⊕ api_Ins)) else none)) else (some (Sum.inr (v_6) : ((List (Int × Int)) × (List fold_node)) ⊕ api_Ins))) else (some (Sum.inr (v_6) : ((List (Int × Int)) × (List fold_node)) ⊕ api_Ins))))) : Option (((List (Int × Int)) × (List fold_node)) ⊕ api_Ins)).bind fun o_13 => match o_13 with | Sum.inl s_61 => (some (s_61.2, s_61.1)) | Sum.inr (s_62) => ((if s_62.Op = 1 then (letC (aset a_3 s_62.D s_62.K) fun v_67 => some (v_67 : List (Int × Int))) else (some (a_3 : List (Int × Int))) : Option (List (Int × Int))).bind fun o_63 => letC (a_4 ++ [fold_node.mk s_62 (none : Option Nat) (none : Option Nat)]) fun v_68 => if s_62.To = 0 then ((rec_ a_1 (wr .i64 (a_2 + 1)) o_63 v_68).bind fun r_70 => (r_70.1[a_4.length]?).bind fun y_72 => letC (r_70.1.set a_4.length (fold_node.mk y_72.x (some v_68.length) y_72.side)) fun v_74 => some (v_74, r_70.2)) else (letC (maps_Clone.m o_63) fun r_75 => (rec_ a_1 s_62.To o_63 v_68).bind fun r_77 => (r_77.1[a_4.length]?).bind fun y_79 => letC (r_77.1.set a_4.length (fold_node.mk y_79.x y_79.next (some v_68.length))) fun v_81 => (rec_ a_1 (wr .i64 (a_2 + 1)) o_63 v_81).bind fun r_82 => (r_82.1[a_4.length]?).bind fun y_84 => letC (r_82.1.set a_4.length (fold_node.mk y_84.x (some v_81.length) y_84.side)) fun v_86 => some (v_86, r_82.2)))) else none
noncomputable def fold_grow.o (a_1 : List api_Ins) (a_2 : Int) (a_3 : List (Int × Int)) (a_4 : List fold_node) (r : (List fold_node) × (List (Int × Int))) : Out := .ret (.nd (some a_4.length) 0) [.mp .i64 (mE (vI .i64) r.2)] (r.1.map fold_node.c)
theorem fold_grow.bev {rec_ : (List api_Ins) → Int → (List (Int × Int)) → (List fold_node) → Option ((List fold_node) × (List (Int × Int)))} (ih : ∀ {a_1 : List api_Ins} {a_2 : Int} {a_3 : List (Int × Int)} {a_4 : List fold_node} {r : (List fold_node) × (List (Int × Int))}, rec_ a_1 a_2 a_3 a_4 = some r → Ev Try.prog 17 [.ro false 8 a_1.length (a_1.map api_Ins.c), vi a_2, .mp 0] [.mp .i64 (mE (vI .i64) a_3)] (a_4.map fold_node.c) (fold_grow.o a_1 a_2 a_3 a_4 r)) {a_1 : List api_Ins} {a_2 : Int} {a_3 : List (Int × Int)} {a_4 : List fold_node} {r : (List fold_node) × (List (Int × Int))} (H : fold_grow.b rec_ a_1 a_2 a_3 a_4 = some r) : Ev Try.prog 17 [.ro false 8 a_1.length (a_1.map api_Ins.c), vi a_2, .mp 0] [.mp .i64 (mE (vI .i64) a_3)] (a_4.map fold_node.c) (fold_grow.o a_1 a_2 a_3 a_4 r) := by
 unfold fold_grow.b at H
 obtain ⟨g_5, H⟩ := gdE H
 let v_6 : api_Ins := gi a_1 a_2
 replace H := ltD H
 let v_7 : Int := (aget a_3 v_6.A).getD 0
 replace H := ltD H
 let v_8 : Int := (aget a_3 v_6.B).getD 0
 replace H := ltD H
 obtain ⟨o_9, e_10, H⟩ := bdE H
 have j_11 : Rq fold_grow.F 1 [1, 1, 1, 1, 0] ⟨[(0, .ro false 8 a_1.length (a_1.map api_Ins.c)), (1, vi a_2), (2, .mp 0), (7, .ref 1 0), (8, vi v_7), (9, .v (.bool ((aget a_3 v_6.A).isSome))), (10, vi v_8), (11, .v (.bool ((aget a_3 v_6.B).isSome)))], [.mp .i64 (mE (vI .i64) a_3), .box (api_Ins.c v_6)], (a_4.map fold_node.c)⟩ ((fun _ => .normal : Bool → Ex) o_9) ((fun o_9 => ⟨[(0, .ro false 8 a_1.length (a_1.map api_Ins.c)), (1, vi a_2), (2, .mp 0), (7, .ref 1 0), (8, vi v_7), (10, vi v_8), (12, .v (.bool o_9))], [.mp .i64 (mE (vI .i64) a_3), .box (api_Ins.c v_6)], (a_4.map fold_node.c)⟩ : Bool → ASt) o_9) := by
  clear H
  have H := e_10
  clear e_10
  rcases ie H with ⟨h_12, H⟩ | ⟨h_12, H⟩
  ·obtain rfl := sj H
   exact fn [br h_12, pT]
  ·obtain rfl := sj H
   exact fn [br h_12, pF]
 obtain ⟨o_13, e_14, H⟩ := bdE H
 have j_15 : Rq fold_grow.F 1 [1, 1, 1, 1, 1, 0, 1] ⟨[(0, .ro false 8 a_1.length (a_1.map api_Ins.c)), (1, vi a_2), (2, .mp 0), (7, .ref 1 0), (8, vi v_7), (10, vi v_8), (12, .v (.bool o_9)), (37, vi v_6.Op)], [.mp .i64 (mE (vI .i64) a_3), .box (api_Ins.c v_6)], (a_4.map fold_node.c)⟩ ((fun o => match o with | Sum.inl _ => .ret | Sum.inr (_) => .normal : (((List (Int × Int)) × (List fold_node)) ⊕ api_Ins) → Ex) o_13) ((fun o => match o with | Sum.inl s_61 => ⟨[(6, .nd (some a_4.length) 0)], [.mp .i64 (mE (vI .i64) s_61.1)], (s_61.2.map fold_node.c)⟩ | Sum.inr (s_62) => ⟨[(0, .ro false 8 a_1.length (a_1.map api_Ins.c)), (1, vi a_2), (2, .mp 0), (7, .ref 1 0)], [.mp .i64 (mE (vI .i64) a_3), .box (api_Ins.c s_62)], (a_4.map fold_node.c)⟩ : (((List (Int × Int)) × (List fold_node)) ⊕ api_Ins) → ASt) o_13) := by
  clear H
  have H := e_14
  clear e_14
  rcases ic H with ⟨h_16, H⟩ | ⟨h_16, H⟩
  ·let v_17 : List fold_node := a_4 ++ [fold_node.mk v_6 (none : Option Nat) (none : Option Nat)]
   replace H := ltD H
   obtain rfl := sj H
   exact fn [br h_16, on_ 42 (ndn fold_node.c a_4 (fold_node.mk v_6 (none : Option Nat) (none : Option Nat)))]
  ·obtain ⟨o_18, e_19, H⟩ := bdE H
   have j_20 : Rq fold_grow.F 1 [1, 1, 1, 1, 1, 0, 1, 0, 1, 1, 0, 1] ⟨[(0, .ro false 8 a_1.length (a_1.map api_Ins.c)), (1, vi a_2), (2, .mp 0), (7, .ref 1 0), (8, vi v_7), (10, vi v_8), (12, .v (.bool o_9)), (37, vi v_6.Op), (43, .v (.bool (decide (v_6.Op = 16))))], [.mp .i64 (mE (vI .i64) a_3), .box (api_Ins.c v_6)], (a_4.map fold_node.c)⟩ ((fun _ => .normal : Bool → Ex) o_18) ((fun o_18 => ⟨[(0, .ro false 8 a_1.length (a_1.map api_Ins.c)), (1, vi a_2), (2, .mp 0), (7, .ref 1 0), (8, vi v_7), (10, vi v_8), (12, .v (.bool o_9)), (37, vi v_6.Op), (43, .v (.bool o_18))], [.mp .i64 (mE (vI .i64) a_3), .box (api_Ins.c v_6)], (a_4.map fold_node.c)⟩ : Bool → ASt) o_18) := by
    clear H
    have H := e_19
    clear e_19
    rcases ic H with ⟨h_21, H⟩ | ⟨h_21, H⟩
    ·obtain rfl := sj H
     exact fn [br h_21]
    ·obtain rfl := sj H
     exact fn [br h_21]
   rcases ie H with ⟨h_22, H⟩ | ⟨h_22, H⟩
   ·obtain ⟨o_23, e_24, H⟩ := bdE H
    have j_25 : Rq fold_grow.F 1 [1, 1, 1, 1, 1, 0, 1, 0, 1, 1, 1, 0, 0, 0, 0] ⟨[(0, .ro false 8 a_1.length (a_1.map api_Ins.c)), (1, vi a_2), (2, .mp 0), (7, .ref 1 0), (8, vi v_7), (10, vi v_8), (12, .v (.bool o_9))], [.mp .i64 (mE (vI .i64) a_3), .box (api_Ins.c v_6)], (a_4.map fold_node.c)⟩ ((fun _ => .normal : Bool → Ex) o_23) ((fun o_23 => ⟨[(0, .ro false 8 a_1.length (a_1.map api_Ins.c)), (1, vi a_2), (2, .mp 0), (7, .ref 1 0), (8, vi v_7), (10, vi v_8), (12, .v (.bool o_9)), (46, .v (.bool o_23))], [.mp .i64 (mE (vI .i64) a_3), .box (api_Ins.c v_6)], (a_4.map fold_node.c)⟩ : Bool → ASt) o_23) := by
     clear H
     have H := e_24
     clear e_24
     rcases ic H with ⟨h_26, H⟩ | ⟨h_26, H⟩
     ·obtain rfl := sj H
      exact fn [br h_26, pT]
     ·obtain rfl := sj H
      exact fn [br h_26, pF]
    obtain ⟨o_27, e_28, H⟩ := bdE H
    have j_29 : Rq fold_grow.F 1 [1, 1, 1, 1, 1, 0, 1, 0, 1, 1, 1, 0, 0, 0, 1] ⟨[(0, .ro false 8 a_1.length (a_1.map api_Ins.c)), (1, vi a_2), (2, .mp 0), (7, .ref 1 0), (8, vi v_7), (10, vi v_8), (12, .v (.bool o_9)), (46, .v (.bool o_23))], [.mp .i64 (mE (vI .i64) a_3), .box (api_Ins.c v_6)], (a_4.map fold_node.c)⟩ ((fun _ => .normal : Bool → Ex) o_27) ((fun o_27 => ⟨[(0, .ro false 8 a_1.length (a_1.map api_Ins.c)), (1, vi a_2), (2, .mp 0), (7, .ref 1 0), (12, .v (.bool o_9)), (46, .v (.bool o_27))], [.mp .i64 (mE (vI .i64) a_3), .box (api_Ins.c v_6)], (a_4.map fold_node.c)⟩ : Bool → ASt) o_27) := by
     clear H
     have H := e_28
     clear e_28
     rcases ie H with ⟨h_30, H⟩ | ⟨h_30, H⟩
     ·obtain rfl := sj H
      exact fn [br h_30]
     ·obtain ⟨o_31, e_32, H⟩ := bdE H
      have j_33 : Rq fold_grow.F 1 [1, 1, 1, 1, 1, 0, 1, 0, 1, 1, 1, 0, 0, 0, 1, 1, 0] ⟨[(0, .ro false 8 a_1.length (a_1.map api_Ins.c)), (1, vi a_2), (2, .mp 0), (7, .ref 1 0), (8, vi v_7), (10, vi v_8), (12, .v (.bool o_9))], [.mp .i64 (mE (vI .i64) a_3), .box (api_Ins.c v_6)], (a_4.map fold_node.c)⟩ ((fun _ => .normal : Bool → Ex) o_31) ((fun o_31 => ⟨[(0, .ro false 8 a_1.length (a_1.map api_Ins.c)), (1, vi a_2), (2, .mp 0), (7, .ref 1 0), (8, vi v_7), (10, vi v_8), (12, .v (.bool o_9)), (46, .v (.bool o_31))], [.mp .i64 (mE (vI .i64) a_3), .box (api_Ins.c v_6)], (a_4.map fold_node.c)⟩ : Bool → ASt) o_31) := by
       clear H
       have H := e_32
       clear e_32
       rcases ie H with ⟨h_34, H⟩ | ⟨h_34, H⟩
       ·rcases ic H with ⟨h_35, H⟩ | ⟨h_35, H⟩
        ·obtain rfl := sj H
         exact fn [br h_34, pT, br h_35, pT]
        ·obtain rfl := sj H
         exact fn [br h_34, pT, br h_35, pF]
       ·obtain rfl := sj H
        exact fn [br h_34, pF, au, pF]
      rcases ie H with ⟨h_36, H⟩ | ⟨h_36, H⟩
      ·obtain rfl := sj H
       exact fn [br h_30, sg_ 11 j_33, br h_36]
      ·rcases ie H with ⟨h_37, H⟩ | ⟨h_37, H⟩
       ·rcases ic H with ⟨h_38, H⟩ | ⟨h_38, H⟩
        ·obtain rfl := sj H
         exact fn [br h_30, sg_ 11 j_33, br h_36, br h_37, pT, br h_38, pT]
        ·obtain rfl := sj H
         exact fn [br h_30, sg_ 11 j_33, br h_36, br h_37, pT, br h_38, pF]
       ·obtain rfl := sj H
        exact fn [br h_30, sg_ 11 j_33, br h_36, br h_37, pF, au, pF]
    rcases ie H with ⟨h_39, H⟩ | ⟨h_39, H⟩
    ·obtain ⟨r_40, e_41, H⟩ := bdE H
     obtain rfl := sj H
     exact fn [br h_16, sc_ j_20, br h_22, sg_ 10 j_25, sc_ j_29, br h_39, can [0] (ih e_41)]
    ·rcases ic H with ⟨h_42, H⟩ | ⟨h_42, H⟩
     ·obtain ⟨r_43, e_44, H⟩ := bdE H
      obtain rfl := sj H
      exact fn [br h_16, sc_ j_20, br h_22, sg_ 10 j_25, sc_ j_29, br h_39, br h_42, au, can [0] (ih e_44)]
     ·rcases ie H with ⟨h_45, H⟩ | ⟨h_45, H⟩
      ·obtain ⟨r_46, e_47, H⟩ := bdE H
       obtain rfl := sj H
       exact fn [br h_16, sc_ j_20, br h_22, sg_ 10 j_25, sc_ j_29, br h_39, br h_42, br h_45, can [0] (ih e_47)]
      ·obtain rfl := sj H
       exact fn [br h_16, sc_ j_20, br h_22, sg_ 10 j_25, sc_ j_29, br h_39, br h_42, br h_45]
   ·obtain ⟨o_48, e_49, H⟩ := bdE H
    have j_50 : Rq fold_grow.F 1 [1, 1, 1, 1, 1, 0, 1, 0, 1, 1, 1, 1, 0, 1] ⟨[(0, .ro false 8 a_1.length (a_1.map api_Ins.c)), (1, vi a_2), (2, .mp 0), (7, .ref 1 0), (8, vi v_7), (10, vi v_8), (12, .v (.bool o_9)), (37, vi v_6.Op), (96, .v (.bool (decide (v_6.Op = 2))))], [.mp .i64 (mE (vI .i64) a_3), .box (api_Ins.c v_6)], (a_4.map fold_node.c)⟩ ((fun _ => .normal : Bool → Ex) o_48) ((fun o_48 => ⟨[(0, .ro false 8 a_1.length (a_1.map api_Ins.c)), (1, vi a_2), (2, .mp 0), (7, .ref 1 0), (8, vi v_7), (10, vi v_8), (12, .v (.bool o_9)), (37, vi v_6.Op), (96, .v (.bool o_48))], [.mp .i64 (mE (vI .i64) a_3), .box (api_Ins.c v_6)], (a_4.map fold_node.c)⟩ : Bool → ASt) o_48) := by
     clear H
     have H := e_49
     clear e_49
     rcases ic H with ⟨h_51, H⟩ | ⟨h_51, H⟩
     ·obtain rfl := sj H
      exact fn [br h_51]
     ·rcases ic H with ⟨h_52, H⟩ | ⟨h_52, H⟩
      ·obtain rfl := sj H
       exact fn [br h_51, br h_52]
      ·obtain rfl := sj H
       exact fn [br h_51, br h_52]
    rcases ie H with ⟨h_53, H⟩ | ⟨h_53, H⟩
    ·rcases ie H with ⟨h_54, H⟩ | ⟨h_54, H⟩
     ·obtain ⟨r_55, e_56, H⟩ := ltE H
      obtain rfl := sj H
      exact fn [br h_16, sc_ j_20, br h_22, sc_ j_50, br h_53, br h_54, ca [] (fold_reckon.ev e_56)]
     ·obtain rfl := sj H
      exact fn [br h_16, sc_ j_20, br h_22, sc_ j_50, br h_53, br h_54]
    ·rcases ic H with ⟨h_57, H⟩ | ⟨h_57, H⟩
     ·rcases ie H with ⟨h_58, H⟩ | ⟨h_58, H⟩
      ·rcases ic H with ⟨h_59, H⟩ | ⟨h_59, H⟩
       ·obtain rfl := sj H
        exact fn [br h_16, sc_ j_20, br h_22, sc_ j_50, br h_53, br h_57, br h_58, pT, bn h_59]
       ·obtain ⟨g_60, H⟩ := gdE H
        obtain rfl := sj H
        exact fn [br h_16, sc_ j_20, br h_22, sc_ j_50, br h_53, br h_57, br h_58, pT, bn h_59, pf g_60]
      ·obtain rfl := sj H
       exact fn [br h_16, sc_ j_20, br h_22, sc_ j_50, br h_53, br h_57, br h_58, pF, au]
     ·obtain rfl := sj H
      exact fn [br h_16, sc_ j_20, br h_22, sc_ j_50, br h_53, br h_57]
 rcases o_13 with s_61 | s_62
 ·obtain rfl := sj H
  exact fold_grow.F.run tb mixed [on_ 6 nln, ix api_Ins.c g_5, mgD (vI .i64) a_3 v_6.A 0, mgD (vI .i64) a_3 v_6.B 0, sg_ 4 j_11, sb_ j_15] rfl (by kernel_rfl)
 ·obtain ⟨o_63, e_64, H⟩ := bdE H
  have j_65 : Rq fold_grow.F 1 [1, 1, 1, 1, 1, 1, 0, 1] ⟨[(0, .ro false 8 a_1.length (a_1.map api_Ins.c)), (1, vi a_2), (2, .mp 0), (7, .ref 1 0), (124, .v (.bool (decide (s_62.Op = 1))))], [.mp .i64 (mE (vI .i64) a_3), .box (api_Ins.c s_62)], (a_4.map fold_node.c)⟩ ((fun _ => .normal : (List (Int × Int)) → Ex) o_63) ((fun o_63 => ⟨[(0, .ro false 8 a_1.length (a_1.map api_Ins.c)), (1, vi a_2), (2, .mp 0), (7, .ref 1 0)], [.mp .i64 (mE (vI .i64) o_63), .box (api_Ins.c s_62)], (a_4.map fold_node.c)⟩ : (List (Int × Int)) → ASt) o_63) := by
   clear H
   have H := e_64
   clear e_64
   rcases ic H with ⟨h_66, H⟩ | ⟨h_66, H⟩
   ·let v_67 : List (Int × Int) := aset a_3 s_62.D s_62.K
    replace H := ltD H
    obtain rfl := sj H
    exact fn [br h_66, ms (vI .i64) a_3 s_62.D s_62.K]
   ·obtain rfl := sj H
    exact fn [br h_66]
  let v_68 : List fold_node := a_4 ++ [fold_node.mk s_62 (none : Option Nat) (none : Option Nat)]
  replace H := ltD H
  rcases ic H with ⟨h_69, H⟩ | ⟨h_69, H⟩
  ·obtain ⟨r_70, e_71, H⟩ := bdE H
   obtain ⟨y_72, e_73, H⟩ := bdE H
   let v_74 : List fold_node := r_70.1.set a_4.length (fold_node.mk y_72.x (some v_68.length) y_72.side)
   replace H := ltD H
   obtain rfl := sj H
   exact fold_grow.F.run tb mixed [on_ 6 nln, ix api_Ins.c g_5, mgD (vI .i64) a_3 v_6.A 0, mgD (vI .i64) a_3 v_6.B 0, sg_ 4 j_11, sb_ j_15, sc_ j_65, on_ 132 (ndn fold_node.c a_4 (fold_node.mk s_62 (none : Option Nat) (none : Option Nat))), bn h_69, can [0] (ih e_71), ndu fold_node.c 8 [.nd (some v_68.length) 0] (fold_node.mk y_72.x (some v_68.length) y_72.side) e_73 (by kernel_rfl)] rfl (by kernel_rfl)
  ·obtain ⟨r_75, e_76, H⟩ := ltE H
   obtain ⟨r_77, e_78, H⟩ := bdE H
   obtain ⟨y_79, e_80, H⟩ := bdE H
   let v_81 : List fold_node := r_77.1.set a_4.length (fold_node.mk y_79.x y_79.next (some v_68.length))
   replace H := ltD H
   obtain ⟨r_82, e_83, H⟩ := bdE H
   obtain ⟨y_84, e_85, H⟩ := bdE H
   let v_86 : List fold_node := r_82.1.set a_4.length (fold_node.mk y_84.x (some v_81.length) y_84.side)
   replace H := ltD H
   obtain rfl := sj H
   exact fold_grow.F.run tb mixed [on_ 6 nln, ix api_Ins.c g_5, mgD (vI .i64) a_3 v_6.A 0, mgD (vI .i64) a_3 v_6.B 0, sg_ 4 j_11, sb_ j_15, sc_ j_65, on_ 132 (ndn fold_node.c a_4 (fold_node.mk s_62 (none : Option Nat) (none : Option Nat))), bn h_69, kp [0] [.mp .i64 (mE (vI .i64) o_63)] (ca [0] (maps_Clone.ev e_76)), can [2] (ih e_78), ndu fold_node.c 9 [.nd (some v_68.length) 0] (fold_node.mk y_79.x y_79.next (some v_68.length)) e_80 (by kernel_rfl), can [0] (ih e_83), ndu fold_node.c 8 [.nd (some v_81.length) 0] (fold_node.mk y_84.x (some v_81.length) y_84.side) e_85 (by kernel_rfl)] rfl (by kernel_rfl)
def fold_grow.r : Nat → (List api_Ins) → Int → (List (Int × Int)) → (List fold_node) → Option ((List fold_node) × (List (Int × Int)))
 | 0 => fun _ _ _ _ => none
 | n + 1 => fold_grow.b (fold_grow.r n)
theorem fold_grow.rev : ∀ (n : Nat) {a_1 : List api_Ins} {a_2 : Int} {a_3 : List (Int × Int)} {a_4 : List fold_node} {r : (List fold_node) × (List (Int × Int))}, fold_grow.r n a_1 a_2 a_3 a_4 = some r → Ev Try.prog 17 [.ro false 8 a_1.length (a_1.map api_Ins.c), vi a_2, .mp 0] [.mp .i64 (mE (vI .i64) a_3)] (a_4.map fold_node.c) (fold_grow.o a_1 a_2 a_3 a_4 r)
 | 0, _, _, _, _,  _, H => by cases H
 | n + 1, _, _, _, _,  _, H => fold_grow.bev (fold_grow.rev n) H
def fold_grow.m (a_1 : List api_Ins) (a_2 : Int) (a_3 : List (Int × Int)) (a_4 : List fold_node) : Option ((List fold_node) × (List (Int × Int))) := fold_grow.r 1000 a_1 a_2 a_3 a_4
theorem fold_grow.ev {a_1 : List api_Ins} {a_2 : Int} {a_3 : List (Int × Int)} {a_4 : List fold_node} {r : (List fold_node) × (List (Int × Int))} (H : fold_grow.m a_1 a_2 a_3 a_4 = some r) : Ev Try.prog 17 [.ro false 8 a_1.length (a_1.map api_Ins.c), vi a_2, .mp 0] [.mp .i64 (mE (vI .i64) a_3)] (a_4.map fold_node.c) (fold_grow.o a_1 a_2 a_3 a_4 r) := fold_grow.rev 1000 H
noncomputable def fold_temps.F : FI Try.prog 33 := fi Try.f33 29 Try.call33 Try.func33
def fold_temps.m (a_1 : api_Ins) : ((List Int) × Nat) ⊕ Unit :=
 letC (if a_1.Op = 2 then ((true : Bool)) else (if a_1.Op = 3 then ((true : Bool)) else (if a_1.Op = 4 then ((true : Bool)) else (if a_1.Op = 5 then ((true : Bool)) else (if a_1.Op = 12 then ((true : Bool)) else (if a_1.Op = 14 then ((true : Bool)) else (if a_1.Op = 16 then ((true : Bool)) else (((decide (a_1.Op = 17)) : Bool)))))))) : Bool) fun o_2 => if o_2 = true then (Sum.inl (([a_1.A, a_1.B] : List Int), 2)) else (letC (if a_1.Op = 7 then ((true : Bool)) else (if a_1.Op = 9 then ((true : Bool)) else (if a_1.Op = 10 then ((true : Bool)) else (if a_1.Op = 11 then ((true : Bool)) else (if a_1.Op = 13 then ((true : Bool)) else (((decide (a_1.Op = 15)) : Bool)))))) : Bool) fun o_13 => if o_13 = true then (Sum.inl (([a_1.A] : List Int), 1)) else (Sum.inr (())))
noncomputable def fold_temps.o (a_1 : api_Ins) (r : ((List Int) × Nat) ⊕ Unit) : Out := match r with | Sum.inl r => .ret (.sl 0 1 r.2 0 r.2) [.dead, .arr false 3 1 r.2 (r.1.map (cI .i64))] [] | Sum.inr (r) => .ret (.v (.slice none 0 0)) [] []
theorem fold_temps.ev {a_1 : api_Ins} {r : ((List Int) × Nat) ⊕ Unit} (H : fold_temps.m a_1 = r) : Ev Try.prog 33 [.agg (api_Ins.c a_1)] [] [] (fold_temps.o a_1 r) := by
 unfold fold_temps.m at H
 obtain ⟨o_2, e_3, H⟩ := ltE H
 have j_4 : Rq fold_temps.F 0 [1, 0, 1, 0, 0, 1] ⟨[(1, .ref 0 0), (4, vi a_1.Op), (5, .v (.bool (decide (a_1.Op = 2))))], [.box (api_Ins.c a_1)], []⟩ ((fun _ => .normal : Bool → Ex) o_2) ((fun o_2 => ⟨[(1, .ref 0 0), (4, vi a_1.Op), (5, .v (.bool o_2))], [.box (api_Ins.c a_1)], []⟩ : Bool → ASt) o_2) := by
  clear H
  have H := e_3
  clear e_3
  rcases ic H with ⟨h_5, H⟩ | ⟨h_5, H⟩
  ·subst H
   exact fn [br h_5]
  ·rcases ic H with ⟨h_6, H⟩ | ⟨h_6, H⟩
   ·subst H
    exact fn [br h_5, br h_6]
   ·rcases ic H with ⟨h_7, H⟩ | ⟨h_7, H⟩
    ·subst H
     exact fn [br h_5, br h_6, br h_7]
    ·rcases ic H with ⟨h_8, H⟩ | ⟨h_8, H⟩
     ·subst H
      exact fn [br h_5, br h_6, br h_7, br h_8]
     ·rcases ic H with ⟨h_9, H⟩ | ⟨h_9, H⟩
      ·subst H
       exact fn [br h_5, br h_6, br h_7, br h_8, br h_9]
      ·rcases ic H with ⟨h_10, H⟩ | ⟨h_10, H⟩
       ·subst H
        exact fn [br h_5, br h_6, br h_7, br h_8, br h_9, br h_10]
       ·rcases ic H with ⟨h_11, H⟩ | ⟨h_11, H⟩
        ·subst H
         exact fn [br h_5, br h_6, br h_7, br h_8, br h_9, br h_10, br h_11]
        ·subst H
         exact fn [br h_5, br h_6, br h_7, br h_8, br h_9, br h_10, br h_11]
 rcases ie H with ⟨h_12, H⟩ | ⟨h_12, H⟩
 ·subst H
  exact fold_temps.F.run tb mixed [sc_ j_4, br h_12] rfl (by kernel_rfl)
 ·obtain ⟨o_13, e_14, H⟩ := ltE H
  have j_15 : Rq fold_temps.F 0 [1, 0, 1, 0, 1, 1, 0, 1] ⟨[(1, .ref 0 0), (4, vi a_1.Op), (19, .v (.bool (decide (a_1.Op = 7))))], [.box (api_Ins.c a_1)], []⟩ ((fun _ => .normal : Bool → Ex) o_13) ((fun o_13 => ⟨[(1, .ref 0 0), (19, .v (.bool o_13))], [.box (api_Ins.c a_1)], []⟩ : Bool → ASt) o_13) := by
   clear H
   have H := e_14
   clear e_14
   rcases ic H with ⟨h_16, H⟩ | ⟨h_16, H⟩
   ·subst H
    exact fn [br h_16]
   ·rcases ic H with ⟨h_17, H⟩ | ⟨h_17, H⟩
    ·subst H
     exact fn [br h_16, br h_17]
    ·rcases ic H with ⟨h_18, H⟩ | ⟨h_18, H⟩
     ·subst H
      exact fn [br h_16, br h_17, br h_18]
     ·rcases ic H with ⟨h_19, H⟩ | ⟨h_19, H⟩
      ·subst H
       exact fn [br h_16, br h_17, br h_18, br h_19]
      ·rcases ic H with ⟨h_20, H⟩ | ⟨h_20, H⟩
       ·subst H
        exact fn [br h_16, br h_17, br h_18, br h_19, br h_20]
       ·subst H
        exact fn [br h_16, br h_17, br h_18, br h_19, br h_20]
  rcases ie H with ⟨h_21, H⟩ | ⟨h_21, H⟩
  ·subst H
   exact fold_temps.F.run tb mixed [sc_ j_4, br h_12, sc_ j_15, br h_21] rfl (by kernel_rfl)
  ·subst H
   exact fold_temps.F.run tb mixed [sc_ j_4, br h_12, sc_ j_15, br h_21] rfl (by kernel_rfl)
noncomputable def fold_node_count.F : FI Try.prog 18 := fi Try.f18 53 Try.call18 Try.func18
def fold_node_count.l2 (r_18 : (List Int) × Nat) (s_22 : (List (Int × Int)) × Int) : Option (((List (Int × Int)) × Int) ⊕ (List (Int × Int))) :=
 if s_22.2 < (r_18.2 : Int) then (if 0 ≤ s_22.2 ∧ s_22.2 < (r_18.2 : Int) then (if 0 ≤ s_22.2 ∧ s_22.2 < (r_18.1.length : Int) then (letC (gi r_18.1 s_22.2) fun v_29 => letC ((aget s_22.1 v_29).getD 0) fun v_30 => letC (aset s_22.1 v_29 (wr .i64 (v_30 + 1))) fun v_31 => letC (wr .i64 (s_22.2 + 1)) fun v_32 => some (Sum.inl (v_31, v_32))) else none) else none) else (some (Sum.inr s_22.1))
def fold_node_count.l3 (s_40 : Unit) : Option (Unit ⊕ Unit) :=
 some (Sum.inr ())
def fold_node_count.l1 (a_4 : List fold_node) (rec_ : (Option Nat) → (List (Int × Int)) → (List (Int × Int)) → (List fold_node) → Option ((List (Int × Int)) × (List (Int × Int)))) (s_7 : (List (Int × Int)) × (List (Int × Int)) × (Option Nat)) : Option (((List (Int × Int)) × (List (Int × Int)) × (Option Nat)) ⊕ ((List (Int × Int)) × (List (Int × Int)))) :=
 if s_7.2.2.isNone = true then (some (Sum.inr (s_7.1, s_7.2.1))) else (s_7.2.2.bind fun i_12 => (a_4[i_12]?).bind fun y_14 => letC (fold_temps.m y_14.x) fun r_16 => match r_16 with | Sum.inl r_18 => ((B.loop (fold_node_count.l2 r_18) ((s_7.1, 0) : (List (Int × Int)) × Int)).bind fun o_23 => if y_14.x.Op = 1 then (letC (aset s_7.2.1 y_14.x.D y_14.x.K) fun v_34 => (rec_ y_14.side o_23 v_34 a_4).bind fun r_35 => some (Sum.inl (r_35.1, r_35.2, y_14.next))) else ((rec_ y_14.side o_23 s_7.2.1 a_4).bind fun r_37 => some (Sum.inl (r_37.1, r_37.2, y_14.next)))) | Sum.inr (r_19) => ((B.loop fold_node_count.l3 (() : Unit)).bind fun o_41 => if y_14.x.Op = 1 then (letC (aset s_7.2.1 y_14.x.D y_14.x.K) fun v_45 => (rec_ y_14.side s_7.1 v_45 a_4).bind fun r_46 => some (Sum.inl (r_46.1, r_46.2, y_14.next))) else ((rec_ y_14.side s_7.1 s_7.2.1 a_4).bind fun r_48 => some (Sum.inl (r_48.1, r_48.2, y_14.next)))))
def fold_node_count.b (rec_ : (Option Nat) → (List (Int × Int)) → (List (Int × Int)) → (List fold_node) → Option ((List (Int × Int)) × (List (Int × Int)))) (a_1 : Option Nat) (a_2 : List (Int × Int)) (a_3 : List (Int × Int)) (a_4 : List fold_node) : Option ((List (Int × Int)) × (List (Int × Int))) :=
 (B.loop (fold_node_count.l1 a_4 rec_) ((a_2, a_3, a_1) : (List (Int × Int)) × (List (Int × Int)) × (Option Nat))).bind fun o_8 => some (o_8.1, o_8.2)
noncomputable def fold_node_count.o (a_1 : Option Nat) (a_2 : List (Int × Int)) (a_3 : List (Int × Int)) (a_4 : List fold_node) (r : (List (Int × Int)) × (List (Int × Int))) : Out := .ret (.tup []) [.mp .i64 (mE (vI .i64) r.1), .mp .i64 (mE (vI .i64) r.2)] (a_4.map fold_node.c)
theorem fold_node_count.bev {rec_ : (Option Nat) → (List (Int × Int)) → (List (Int × Int)) → (List fold_node) → Option ((List (Int × Int)) × (List (Int × Int)))} (ih : ∀ {a_1 : Option Nat} {a_2 : List (Int × Int)} {a_3 : List (Int × Int)} {a_4 : List fold_node} {r : (List (Int × Int)) × (List (Int × Int))}, rec_ a_1 a_2 a_3 a_4 = some r → Ev Try.prog 18 [.nd a_1 0, .mp 0, .mp 1] [.mp .i64 (mE (vI .i64) a_2), .mp .i64 (mE (vI .i64) a_3)] (a_4.map fold_node.c) (fold_node_count.o a_1 a_2 a_3 a_4 r)) {a_1 : Option Nat} {a_2 : List (Int × Int)} {a_3 : List (Int × Int)} {a_4 : List fold_node} {r : (List (Int × Int)) × (List (Int × Int))} (H : fold_node_count.b rec_ a_1 a_2 a_3 a_4 = some r) : Ev Try.prog 18 [.nd a_1 0, .mp 0, .mp 1] [.mp .i64 (mE (vI .i64) a_2), .mp .i64 (mE (vI .i64) a_3)] (a_4.map fold_node.c) (fold_node_count.o a_1 a_2 a_3 a_4 r) := by
 unfold fold_node_count.b at H
 obtain ⟨o_8, e_9, H⟩ := bdE H
 have j_10 := Runs.loop (P := Try.prog) (N := fold_node_count.F.N) (m0 := 2) (c := sub_ fold_node_count.F.c [0, 0]) (f := (fold_node_count.l1 a_4 rec_)) (St := fun s_7 => ⟨[(0, .nd s_7.2.2 0), (1, .mp 0), (2, .mp 1)], [.mp .i64 (mE (vI .i64) s_7.1), .mp .i64 (mE (vI .i64) s_7.2.1)], (a_4.map fold_node.c)⟩) (xo := (fun _ => (.exit 0) : ((List (Int × Int)) × (List (Int × Int))) → Ex)) (So := (fun o_8 => ⟨[], [.mp .i64 (mE (vI .i64) o_8.1), .mp .i64 (mE (vI .i64) o_8.2)], (a_4.map fold_node.c)⟩ : ((List (Int × Int)) × (List (Int × Int))) → ASt)) (by intro o; simp) (fun s_7 z H => by
  unfold fold_node_count.l1 at H
  rcases ie H with ⟨h_11, H⟩ | ⟨h_11, H⟩
  ·obtain rfl := sj H
   exact fn [bn h_11]
  ·obtain ⟨i_12, e_13, H⟩ := bdE H
   obtain ⟨y_14, e_15, H⟩ := bdE H
   obtain ⟨r_16, e_17, H⟩ := ltE H
   rcases r_16 with r_18 | r_19
   ·obtain ⟨o_23, e_24, H⟩ := bdE H
    have j_25 := Runs.loop (P := Try.prog) (N := fold_node_count.F.N) (m0 := 2) (c := sub_ fold_node_count.F.c [0, 0, 1, 0, 0, 0, 1, 0, 0]) (f := (fold_node_count.l2 r_18)) (St := fun s_22 => ⟨[(0, .nd s_7.2.2 0), (1, .mp 0), (2, .mp 1), (18, .sl 0 3 r_18.2 0 r_18.2), (19, vi (r_18.2 : Int)), (20, vi s_22.2)], [.mp .i64 (mE (vI .i64) s_22.1), .mp .i64 (mE (vI .i64) s_7.2.1), .dead, .arr false 3 1 r_18.2 (r_18.1.map (cI .i64))], (a_4.map fold_node.c)⟩) (xo := (fun _ => (.exit 2) : (List (Int × Int)) → Ex)) (So := (fun o_23 => ⟨[(0, .nd s_7.2.2 0), (1, .mp 0), (2, .mp 1)], [.mp .i64 (mE (vI .i64) o_23), .mp .i64 (mE (vI .i64) s_7.2.1)], (a_4.map fold_node.c)⟩ : (List (Int × Int)) → ASt)) (by intro o; simp) (fun s_22 z H => by
     unfold fold_node_count.l2 at H
     rcases ic H with ⟨h_26, H⟩ | ⟨h_26, H⟩
     ·obtain ⟨g_27, H⟩ := gdE H
      obtain ⟨g_28, H⟩ := gdE H
      let v_29 : Int := gi r_18.1 s_22.2
      replace H := ltD H
      let v_30 : Int := (aget s_22.1 v_29).getD 0
      replace H := ltD H
      let v_31 : List (Int × Int) := aset s_22.1 v_29 (wr .i64 (v_30 + 1))
      replace H := ltD H
      let v_32 : Int := wr .i64 (s_22.2 + 1)
      replace H := ltD H
      obtain rfl := sj H
      exact fn [br h_26, pf g_27, el (cI .i64) g_28, mgD (vI .i64) s_22.1 v_29 0, ms (vI .i64) s_22.1 v_29 (wr .i64 (v_30 + 1))]
     ·obtain rfl := sj H
      exact fn [br h_26] (by kernel_rfl)) e_24
    rcases ic H with ⟨h_33, H⟩ | ⟨h_33, H⟩
    ·let v_34 : List (Int × Int) := aset s_7.2.1 y_14.x.D y_14.x.K
     replace H := ltD H
     obtain ⟨r_35, e_36, H⟩ := bdE H
     obtain rfl := sj H
     exact fn [bn h_11, on_ 15 (nzk e_13), ndl fold_node.c e_15, ca [] (fold_temps.ev e_17), su j_25, on_ 30 (nzk e_13), ndl fold_node.c e_15, br h_33, on_ 37 (nzk e_13), ndl fold_node.c e_15, on_ 42 (nzk e_13), ndl fold_node.c e_15, ms (vI .i64) s_7.2.1 y_14.x.D y_14.x.K, on_ 47 (nzk e_13), ndl fold_node.c e_15, can [0, 1] (ih e_36), on_ 11 (nzk e_13), ndl fold_node.c e_15]
    ·obtain ⟨r_37, e_38, H⟩ := bdE H
     obtain rfl := sj H
     exact fn [bn h_11, on_ 15 (nzk e_13), ndl fold_node.c e_15, ca [] (fold_temps.ev e_17), su j_25, on_ 30 (nzk e_13), ndl fold_node.c e_15, br h_33, on_ 47 (nzk e_13), ndl fold_node.c e_15, can [0, 1] (ih e_38), on_ 11 (nzk e_13), ndl fold_node.c e_15]
   ·obtain ⟨o_41, e_42, H⟩ := bdE H
    have j_43 := Runs.loop (P := Try.prog) (N := fold_node_count.F.N) (m0 := 2) (c := sub_ fold_node_count.F.c [0, 0, 1, 0, 0, 0, 1, 0, 0]) (f := fold_node_count.l3) (St := fun s_40 => ⟨[(0, .nd s_7.2.2 0), (1, .mp 0), (2, .mp 1), (18, .v (.slice none 0 0)), (19, vi 0), (20, vi 0)], [.mp .i64 (mE (vI .i64) s_7.1), .mp .i64 (mE (vI .i64) s_7.2.1)], (a_4.map fold_node.c)⟩) (xo := (fun _ => (.exit 2) : Unit → Ex)) (So := (fun o_41 => ⟨[(0, .nd s_7.2.2 0), (1, .mp 0), (2, .mp 1)], [.mp .i64 (mE (vI .i64) s_7.1), .mp .i64 (mE (vI .i64) s_7.2.1)], (a_4.map fold_node.c)⟩ : Unit → ASt)) (by intro o; simp) (fun s_40 z H => by
     unfold fold_node_count.l3 at H
     obtain rfl := sj H
     exact fn [au] (by kernel_rfl)) e_42
    rcases ic H with ⟨h_44, H⟩ | ⟨h_44, H⟩
    ·let v_45 : List (Int × Int) := aset s_7.2.1 y_14.x.D y_14.x.K
     replace H := ltD H
     obtain ⟨r_46, e_47, H⟩ := bdE H
     obtain rfl := sj H
     exact fn [bn h_11, on_ 15 (nzk e_13), ndl fold_node.c e_15, ca [] (fold_temps.ev e_17), su j_43, on_ 30 (nzk e_13), ndl fold_node.c e_15, br h_44, on_ 37 (nzk e_13), ndl fold_node.c e_15, on_ 42 (nzk e_13), ndl fold_node.c e_15, ms (vI .i64) s_7.2.1 y_14.x.D y_14.x.K, on_ 47 (nzk e_13), ndl fold_node.c e_15, can [0, 1] (ih e_47), on_ 11 (nzk e_13), ndl fold_node.c e_15]
    ·obtain ⟨r_48, e_49, H⟩ := bdE H
     obtain rfl := sj H
     exact fn [bn h_11, on_ 15 (nzk e_13), ndl fold_node.c e_15, ca [] (fold_temps.ev e_17), su j_43, on_ 30 (nzk e_13), ndl fold_node.c e_15, br h_44, on_ 47 (nzk e_13), ndl fold_node.c e_15, can [0, 1] (ih e_49), on_ 11 (nzk e_13), ndl fold_node.c e_15] (by kernel_rfl)) e_9
 obtain rfl := sj H
 exact fold_node_count.F.run tb mixed [su j_10] rfl (by kernel_rfl)
def fold_node_count.r : Nat → (Option Nat) → (List (Int × Int)) → (List (Int × Int)) → (List fold_node) → Option ((List (Int × Int)) × (List (Int × Int)))
 | 0 => fun _ _ _ _ => none
 | n + 1 => fold_node_count.b (fold_node_count.r n)
theorem fold_node_count.rev : ∀ (n : Nat) {a_1 : Option Nat} {a_2 : List (Int × Int)} {a_3 : List (Int × Int)} {a_4 : List fold_node} {r : (List (Int × Int)) × (List (Int × Int))}, fold_node_count.r n a_1 a_2 a_3 a_4 = some r → Ev Try.prog 18 [.nd a_1 0, .mp 0, .mp 1] [.mp .i64 (mE (vI .i64) a_2), .mp .i64 (mE (vI .i64) a_3)] (a_4.map fold_node.c) (fold_node_count.o a_1 a_2 a_3 a_4 r)
 | 0, _, _, _, _,  _, H => by cases H
 | n + 1, _, _, _, _,  _, H => fold_node_count.bev (fold_node_count.rev n) H
def fold_node_count.m (a_1 : Option Nat) (a_2 : List (Int × Int)) (a_3 : List (Int × Int)) (a_4 : List fold_node) : Option ((List (Int × Int)) × (List (Int × Int))) := fold_node_count.r 1000 a_1 a_2 a_3 a_4
theorem fold_node_count.ev {a_1 : Option Nat} {a_2 : List (Int × Int)} {a_3 : List (Int × Int)} {a_4 : List fold_node} {r : (List (Int × Int)) × (List (Int × Int))} (H : fold_node_count.m a_1 a_2 a_3 a_4 = some r) : Ev Try.prog 18 [.nd a_1 0, .mp 0, .mp 1] [.mp .i64 (mE (vI .i64) a_2), .mp .i64 (mE (vI .i64) a_3)] (a_4.map fold_node.c) (fold_node_count.o a_1 a_2 a_3 a_4 r) := fold_node_count.rev 1000 H
def fold_node_count.k2 (r_18 : (List Int) × Nat) (s_22 : (List (Int × Int)) × Int) : Option (((List (Int × Int)) × Int) ⊕ (List (Int × Int))) :=
 if s_22.2 < (r_18.2 : Int) then (if 0 ≤ s_22.2 ∧ s_22.2 < (r_18.2 : Int) then (if 0 ≤ s_22.2 ∧ s_22.2 < (r_18.1.length : Int) then (letK (gi r_18.1 s_22.2) fun v_29 => letK ((aget s_22.1 v_29).getD 0) fun v_30 => letK (aset s_22.1 v_29 (wr .i64 (v_30 + 1))) fun v_31 => letK (wr .i64 (s_22.2 + 1)) fun v_32 => some (Sum.inl (v_31, v_32))) else none) else none) else (some (Sum.inr s_22.1))
theorem fold_node_count.k2_le (r_18 : (List Int) × Nat) (s_22 : (List (Int × Int)) × Int) : OLe (fold_node_count.k2 r_18 s_22) (fold_node_count.l2 r_18 s_22) := by
 unfold fold_node_count.k2 fold_node_count.l2
 repeat' with_reducible first | refine OLe.lt (fun _ => ?_) | refine OLe.lp (fun _ => ?_) | refine OLe.bind ?_ (fun _ => ?_) | refine OLe.ite ?_ ?_ | exact OLe.rfl' | split
def fold_node_count.k3 (s_40 : Unit) : Option (Unit ⊕ Unit) :=
 some (Sum.inr ())
theorem fold_node_count.k3_le (s_40 : Unit) : OLe (fold_node_count.k3 s_40) (fold_node_count.l3 s_40) := by
 unfold fold_node_count.k3 fold_node_count.l3
 repeat' with_reducible first | refine OLe.lt (fun _ => ?_) | refine OLe.lp (fun _ => ?_) | refine OLe.bind ?_ (fun _ => ?_) | refine OLe.ite ?_ ?_ | exact OLe.rfl' | split | exact fold_node_count.k2_le ..
def fold_node_count.k1 (a_4 : List fold_node) (rec_ : (Option Nat) → (List (Int × Int)) → (List (Int × Int)) → (List fold_node) → Option ((List (Int × Int)) × (List (Int × Int)))) (s_7 : (List (Int × Int)) × (List (Int × Int)) × (Option Nat)) : Option (((List (Int × Int)) × (List (Int × Int)) × (Option Nat)) ⊕ ((List (Int × Int)) × (List (Int × Int)))) :=
 if s_7.2.2.isNone = true then (some (Sum.inr (s_7.1, s_7.2.1))) else (s_7.2.2.bind fun i_12 => (a_4[i_12]?).bind fun y_14 => letK (fold_temps.m y_14.x) fun r_16 => match r_16 with | Sum.inl r_18 => ((lpK (fold_node_count.k2 r_18) ((s_7.1, 0) : (List (Int × Int)) × Int)).bind fun o_23 => if y_14.x.Op = 1 then (letK (aset s_7.2.1 y_14.x.D y_14.x.K) fun v_34 => (rec_ y_14.side o_23 v_34 a_4).bind fun r_35 => some (Sum.inl (r_35.1, r_35.2, y_14.next))) else ((rec_ y_14.side o_23 s_7.2.1 a_4).bind fun r_37 => some (Sum.inl (r_37.1, r_37.2, y_14.next)))) | Sum.inr (r_19) => ((lpK fold_node_count.k3 (() : Unit)).bind fun o_41 => if y_14.x.Op = 1 then (letK (aset s_7.2.1 y_14.x.D y_14.x.K) fun v_45 => (rec_ y_14.side s_7.1 v_45 a_4).bind fun r_46 => some (Sum.inl (r_46.1, r_46.2, y_14.next))) else ((rec_ y_14.side s_7.1 s_7.2.1 a_4).bind fun r_48 => some (Sum.inl (r_48.1, r_48.2, y_14.next)))))
theorem fold_node_count.k1_le (a_4 : List fold_node) (rec_ rec2 : (Option Nat) → (List (Int × Int)) → (List (Int × Int)) → (List fold_node) → Option ((List (Int × Int)) × (List (Int × Int)))) (hr : ∀ x0 x1 x2 x3, OLe (rec_ x0 x1 x2 x3) (rec2 x0 x1 x2 x3)) (s_7 : (List (Int × Int)) × (List (Int × Int)) × (Option Nat)) : OLe (fold_node_count.k1 a_4 rec_ s_7) (fold_node_count.l1 a_4 rec2 s_7) := by
 unfold fold_node_count.k1 fold_node_count.l1
 repeat' with_reducible first | exact hr .. | refine OLe.lt (fun _ => ?_) | refine OLe.lp (fun _ => ?_) | refine OLe.bind ?_ (fun _ => ?_) | refine OLe.ite ?_ ?_ | exact OLe.rfl' | split | exact fold_node_count.k2_le .. | exact fold_node_count.k3_le ..
 all_goals (exfalso; simp_all)
def fold_node_count.kb (rec_ : (Option Nat) → (List (Int × Int)) → (List (Int × Int)) → (List fold_node) → Option ((List (Int × Int)) × (List (Int × Int)))) (a_1 : Option Nat) (a_2 : List (Int × Int)) (a_3 : List (Int × Int)) (a_4 : List fold_node) : Option ((List (Int × Int)) × (List (Int × Int))) :=
 (lpK (fold_node_count.k1 a_4 rec_) ((a_2, a_3, a_1) : (List (Int × Int)) × (List (Int × Int)) × (Option Nat))).bind fun o_8 => some (o_8.1, o_8.2)
theorem fold_node_count.kb_le (rec_ rec2 : (Option Nat) → (List (Int × Int)) → (List (Int × Int)) → (List fold_node) → Option ((List (Int × Int)) × (List (Int × Int)))) (hr : ∀ x0 x1 x2 x3, OLe (rec_ x0 x1 x2 x3) (rec2 x0 x1 x2 x3)) (a_1 : Option Nat) (a_2 : List (Int × Int)) (a_3 : List (Int × Int)) (a_4 : List fold_node) : OLe (fold_node_count.kb rec_ a_1 a_2 a_3 a_4) (fold_node_count.b rec2 a_1 a_2 a_3 a_4) := by
 unfold fold_node_count.kb fold_node_count.b
 repeat' with_reducible first | exact hr .. | refine OLe.lt (fun _ => ?_) | refine OLe.lp (fun _ => ?_) | refine OLe.bind ?_ (fun _ => ?_) | refine OLe.ite ?_ ?_ | exact OLe.rfl' | split | exact fold_node_count.k2_le .. | exact fold_node_count.k3_le .. | exact fold_node_count.k1_le (hr := hr) ..
def fold_node_count.kr (n : Nat) : (Option Nat) → (List (Int × Int)) → (List (Int × Int)) → (List fold_node) → Option ((List (Int × Int)) × (List (Int × Int))) := Nat.rec (motive := fun _ => (Option Nat) → (List (Int × Int)) → (List (Int × Int)) → (List fold_node) → Option ((List (Int × Int)) × (List (Int × Int)))) (fun _ _ _ _ => none) (fun _ ih => fold_node_count.kb ih) n
theorem fold_node_count.kr_le : ∀ (n : Nat) x0 x1 x2 x3, OLe (fold_node_count.kr n x0 x1 x2 x3) (fold_node_count.r n x0 x1 x2 x3)
 | 0, x0, x1, x2, x3 => OLe.of fun _ h => by cases h
 | n + 1, x0, x1, x2, x3 => fold_node_count.kb_le (rec_ := fold_node_count.kr n) (rec2 := fold_node_count.r n) (hr := fold_node_count.kr_le n) ..
def fold_node_count.k (a_1 : Option Nat) (a_2 : List (Int × Int)) (a_3 : List (Int × Int)) (a_4 : List fold_node) : Option ((List (Int × Int)) × (List (Int × Int))) := fold_node_count.kr 1000 a_1 a_2 a_3 a_4
theorem fold_node_count.k_le (a_1 : Option Nat) (a_2 : List (Int × Int)) (a_3 : List (Int × Int)) (a_4 : List fold_node) : OLe (fold_node_count.k a_1 a_2 a_3 a_4) (fold_node_count.m a_1 a_2 a_3 a_4) := fold_node_count.kr_le 1000 a_1 a_2 a_3 a_4
noncomputable def fold_node_trim.F : FI Try.prog 19 := fi Try.f19 89 Try.call19 Try.func19
def fold_node_trim.b (rec_ : (Option Nat) → (List (Int × Int)) → (List (Int × Int)) → (List fold_node) → Option ((List fold_node) × (Option Nat) × Int)) (a_1 : Option Nat) (a_2 : List (Int × Int)) (a_3 : List (Int × Int)) (a_4 : List fold_node) : Option ((List fold_node) × (Option Nat) × Int) :=
 if a_1.isNone = true then (some (a_4, (none : Option Nat), 0)) else (a_1.bind fun i_6 => (a_4[i_6]?).bind fun y_8 => ((if y_8.x.Op = 1 then (some (true : Bool)) else (if y_8.x.Op = 2 then (some (true : Bool)) else (if y_8.x.Op = 3 then (some (true : Bool)) else (some ((decide (y_8.x.Op = 4)) : Bool)))) : Option Bool).bind fun o_13 => if o_13 = true then (letC ((aget a_2 y_8.x.D).getD 0) fun v_20 => some ((decide (v_20 = 0)) : Bool)) else (if y_8.x.Op = 5 then (letC ((aget a_2 y_8.x.D).getD 0) fun v_22 => if v_22 = 0 then (letC ((aget a_3 y_8.x.B).getD 0) fun v_24 => some ((!(decide (v_24 = 0))) : Bool)) else (some (false : Bool))) else (some (false : Bool))) : Option Bool).bind fun o_10 => (rec_ y_8.next a_2 a_3 a_4).bind fun r_25 => if o_10 = true then (letC (wr .i64 (r_25.2.2 + 1)) fun v_28 => some (r_25.1, r_25.2.1, v_28)) else ((r_25.1[i_6]?).bind fun y_29 => (rec_ y_29.side a_2 a_3 r_25.1).bind fun r_31 => (r_31.1[i_6]?).bind fun y_33 => letC (r_31.1.set i_6 (fold_node.mk y_33.x r_25.2.1 y_33.side)) fun v_35 => (v_35[i_6]?).bind fun y_36 => letC (v_35.set i_6 (fold_node.mk y_36.x y_36.next r_31.2.1)) fun v_38 => letC (wr .i64 (r_25.2.2 + r_31.2.2)) fun v_39 => some (v_38, a_1, v_39)))
noncomputable def fold_node_trim.o (a_1 : Option Nat) (a_2 : List (Int × Int)) (a_3 : List (Int × Int)) (a_4 : List fold_node) (r : (List fold_node) × (Option Nat) × Int) : Out := .ret (.tup [.nd r.2.1 0, vi r.2.2]) [.mp .i64 (mE (vI .i64) a_2), .mp .i64 (mE (vI .i64) a_3)] (r.1.map fold_node.c)
theorem fold_node_trim.bev {rec_ : (Option Nat) → (List (Int × Int)) → (List (Int × Int)) → (List fold_node) → Option ((List fold_node) × (Option Nat) × Int)} (ih : ∀ {a_1 : Option Nat} {a_2 : List (Int × Int)} {a_3 : List (Int × Int)} {a_4 : List fold_node} {r : (List fold_node) × (Option Nat) × Int}, rec_ a_1 a_2 a_3 a_4 = some r → Ev Try.prog 19 [.nd a_1 0, .mp 0, .mp 1] [.mp .i64 (mE (vI .i64) a_2), .mp .i64 (mE (vI .i64) a_3)] (a_4.map fold_node.c) (fold_node_trim.o a_1 a_2 a_3 a_4 r)) {a_1 : Option Nat} {a_2 : List (Int × Int)} {a_3 : List (Int × Int)} {a_4 : List fold_node} {r : (List fold_node) × (Option Nat) × Int} (H : fold_node_trim.b rec_ a_1 a_2 a_3 a_4 = some r) : Ev Try.prog 19 [.nd a_1 0, .mp 0, .mp 1] [.mp .i64 (mE (vI .i64) a_2), .mp .i64 (mE (vI .i64) a_3)] (a_4.map fold_node.c) (fold_node_trim.o a_1 a_2 a_3 a_4 r) := by
 unfold fold_node_trim.b at H
 rcases ie H with ⟨h_5, H⟩ | ⟨h_5, H⟩
 ·obtain rfl := sj H
  exact fold_node_trim.F.run tb mixed [on_ 6 nln, br h_5, on_ 6 nln] rfl (by kernel_rfl)
 ·obtain ⟨i_6, e_7, H⟩ := bdE H
  obtain ⟨y_8, e_9, H⟩ := bdE H
  obtain ⟨o_10, e_11, H⟩ := bdE H
  have j_12 : Rq fold_node_trim.F 2 [1, 1, 1, 0, 1] ⟨[(0, .nd a_1 0), (1, .mp 0), (2, .mp 1), (8, .v (.bool false)), (19, vi y_8.x.Op)], [.mp .i64 (mE (vI .i64) a_2), .mp .i64 (mE (vI .i64) a_3)], (a_4.map fold_node.c)⟩ ((fun _ => .normal : Bool → Ex) o_10) ((fun o_10 => ⟨[(0, .nd a_1 0), (1, .mp 0), (2, .mp 1), (8, .v (.bool o_10))], [.mp .i64 (mE (vI .i64) a_2), .mp .i64 (mE (vI .i64) a_3)], (a_4.map fold_node.c)⟩ : Bool → ASt) o_10) := by
   clear H
   have H := e_11
   clear e_11
   obtain ⟨o_13, e_14, H⟩ := bdE H
   have j_15 : Rq fold_node_trim.F 2 [1, 1, 1, 0, 1, 0, 0, 1] ⟨[(0, .nd a_1 0), (1, .mp 0), (2, .mp 1), (8, .v (.bool false)), (19, vi y_8.x.Op), (20, .v (.bool (decide (y_8.x.Op = 1))))], [.mp .i64 (mE (vI .i64) a_2), .mp .i64 (mE (vI .i64) a_3)], (a_4.map fold_node.c)⟩ ((fun _ => .normal : Bool → Ex) o_13) ((fun o_13 => ⟨[(0, .nd a_1 0), (1, .mp 0), (2, .mp 1), (8, .v (.bool false)), (19, vi y_8.x.Op), (20, .v (.bool o_13))], [.mp .i64 (mE (vI .i64) a_2), .mp .i64 (mE (vI .i64) a_3)], (a_4.map fold_node.c)⟩ : Bool → ASt) o_13) := by
    clear H
    have H := e_14
    clear e_14
    rcases ic H with ⟨h_16, H⟩ | ⟨h_16, H⟩
    ·obtain rfl := sj H
     exact fn [br h_16]
    ·rcases ic H with ⟨h_17, H⟩ | ⟨h_17, H⟩
     ·obtain rfl := sj H
      exact fn [br h_16, br h_17]
     ·rcases ic H with ⟨h_18, H⟩ | ⟨h_18, H⟩
      ·obtain rfl := sj H
       exact fn [br h_16, br h_17, br h_18]
      ·obtain rfl := sj H
       exact fn [br h_16, br h_17, br h_18]
   rcases ie H with ⟨h_19, H⟩ | ⟨h_19, H⟩
   ·let v_20 : Int := (aget a_2 y_8.x.D).getD 0
    replace H := ltD H
    obtain rfl := sj H
    exact fn [sc_ j_15, br h_19, on_ 27 (nzk e_7), ndl fold_node.c e_9, mgD (vI .i64) a_2 y_8.x.D 0]
   ·rcases ic H with ⟨h_21, H⟩ | ⟨h_21, H⟩
    ·let v_22 : Int := (aget a_2 y_8.x.D).getD 0
     replace H := ltD H
     rcases ic H with ⟨h_23, H⟩ | ⟨h_23, H⟩
     ·let v_24 : Int := (aget a_3 y_8.x.B).getD 0
      replace H := ltD H
      obtain rfl := sj H
      exact fn [sc_ j_15, br h_19, br h_21, on_ 37 (nzk e_7), ndl fold_node.c e_9, mgD (vI .i64) a_2 y_8.x.D 0, br h_23, on_ 46 (nzk e_7), ndl fold_node.c e_9, mgD (vI .i64) a_3 y_8.x.B 0, pT]
     ·obtain rfl := sj H
      exact fn [sc_ j_15, br h_19, br h_21, on_ 37 (nzk e_7), ndl fold_node.c e_9, mgD (vI .i64) a_2 y_8.x.D 0, br h_23, pF]
    ·obtain rfl := sj H
     exact fn [sc_ j_15, br h_19, br h_21]
  obtain ⟨r_25, e_26, H⟩ := bdE H
  rcases ie H with ⟨h_27, H⟩ | ⟨h_27, H⟩
  ·let v_28 : Int := wr .i64 (r_25.2.2 + 1)
   replace H := ltD H
   obtain rfl := sj H
   exact fold_node_trim.F.run tb mixed [on_ 6 nln, br h_5, on_ 16 (nzk e_7), ndl fold_node.c e_9, sb_ j_12, on_ 55 (nzk e_7), ndl fold_node.c e_9, can [0, 1] (ih e_26), br h_27] rfl (by kernel_rfl)
  ·obtain ⟨y_29, e_30, H⟩ := bdE H
   obtain ⟨r_31, e_32, H⟩ := bdE H
   obtain ⟨y_33, e_34, H⟩ := bdE H
   let v_35 : List fold_node := r_31.1.set i_6 (fold_node.mk y_33.x r_25.2.1 y_33.side)
   replace H := ltD H
   obtain ⟨y_36, e_37, H⟩ := bdE H
   let v_38 : List fold_node := v_35.set i_6 (fold_node.mk y_36.x y_36.next r_31.2.1)
   replace H := ltD H
   let v_39 : Int := wr .i64 (r_25.2.2 + r_31.2.2)
   replace H := ltD H
   obtain rfl := sj H
   exact fold_node_trim.F.run tb mixed [on_ 6 nln, br h_5, on_ 16 (nzk e_7), ndl fold_node.c e_9, sb_ j_12, on_ 55 (nzk e_7), ndl fold_node.c e_9, can [0, 1] (ih e_26), br h_27, on_ 69 (nzk e_7), ndl fold_node.c e_30, can [0, 1] (ih e_32), on_ 81 (nzk e_7), ndu fold_node.c 8 [.nd r_25.2.1 0] (fold_node.mk y_33.x r_25.2.1 y_33.side) e_34 (by kernel_rfl), on_ 83 (nzk e_7), ndu fold_node.c 9 [.nd r_31.2.1 0] (fold_node.mk y_36.x y_36.next r_31.2.1) e_37 (by kernel_rfl)] rfl (by kernel_rfl)
def fold_node_trim.r : Nat → (Option Nat) → (List (Int × Int)) → (List (Int × Int)) → (List fold_node) → Option ((List fold_node) × (Option Nat) × Int)
 | 0 => fun _ _ _ _ => none
 | n + 1 => fold_node_trim.b (fold_node_trim.r n)
theorem fold_node_trim.rev : ∀ (n : Nat) {a_1 : Option Nat} {a_2 : List (Int × Int)} {a_3 : List (Int × Int)} {a_4 : List fold_node} {r : (List fold_node) × (Option Nat) × Int}, fold_node_trim.r n a_1 a_2 a_3 a_4 = some r → Ev Try.prog 19 [.nd a_1 0, .mp 0, .mp 1] [.mp .i64 (mE (vI .i64) a_2), .mp .i64 (mE (vI .i64) a_3)] (a_4.map fold_node.c) (fold_node_trim.o a_1 a_2 a_3 a_4 r)
 | 0, _, _, _, _,  _, H => by cases H
 | n + 1, _, _, _, _,  _, H => fold_node_trim.bev (fold_node_trim.rev n) H
def fold_node_trim.m (a_1 : Option Nat) (a_2 : List (Int × Int)) (a_3 : List (Int × Int)) (a_4 : List fold_node) : Option ((List fold_node) × (Option Nat) × Int) := fold_node_trim.r 1000 a_1 a_2 a_3 a_4
theorem fold_node_trim.ev {a_1 : Option Nat} {a_2 : List (Int × Int)} {a_3 : List (Int × Int)} {a_4 : List fold_node} {r : (List fold_node) × (Option Nat) × Int} (H : fold_node_trim.m a_1 a_2 a_3 a_4 = some r) : Ev Try.prog 19 [.nd a_1 0, .mp 0, .mp 1] [.mp .i64 (mE (vI .i64) a_2), .mp .i64 (mE (vI .i64) a_3)] (a_4.map fold_node.c) (fold_node_trim.o a_1 a_2 a_3 a_4 r) := fold_node_trim.rev 1000 H
noncomputable def fold_node_lay_2.F : FI Try.prog 20 := fi Try.f20 44 Try.call20 Try.func20
def fold_node_lay_2.b (rec_ : (Option Nat) → (List api_Ins) → Nat → (List fold_node) → Option (List api_Ins)) (a_1 : Option Nat) (a_2 : List api_Ins) (a_3 : Nat) (a_4 : List fold_node) : Option (List api_Ins) :=
 a_1.bind fun i_5 => (a_4[i_5]?).bind fun y_7 => if a_2.length = a_3 then (if (a_3 + ([y_7.x] : List api_Ins).length) * 64 ≤ 140737488355328 then (letC (a_2 ++ ([y_7.x] : List api_Ins)) fun v_11 => (if y_7.next.isNone = true then (some (v_11 : List api_Ins)) else ((rec_ y_7.next v_11 v_11.length a_4).bind fun r_16 => some (r_16 : List api_Ins)) : Option (List api_Ins)).bind fun o_12 => if y_7.side.isNone = true then (some o_12) else (if 0 ≤ (a_3 : Int) ∧ (a_3 : Int) < (o_12.length : Int) then (letC (gi o_12 (a_3 : Int)) fun v_20 => letC (o_12.set (a_3 : Int).toNat (api_Ins.mk v_20.Op v_20.D v_20.A v_20.B v_20.Loc v_20.Len v_20.K (o_12.length : Int))) fun v_21 => (rec_ y_7.side v_21 o_12.length a_4).bind fun r_22 => some r_22) else none)) else none) else none
noncomputable def fold_node_lay_2.o (a_1 : Option Nat) (a_2 : List api_Ins) (a_3 : Nat) (a_4 : List fold_node) (r : List api_Ins) : Out := .ret (sL 0 r) [.arr true 39 8 r.length (r.map api_Ins.c)] (a_4.map fold_node.c)
theorem fold_node_lay_2.bev {rec_ : (Option Nat) → (List api_Ins) → Nat → (List fold_node) → Option (List api_Ins)} (ih : ∀ {a_1 : Option Nat} {a_2 : List api_Ins} {a_3 : Nat} {a_4 : List fold_node} {r : List api_Ins}, rec_ a_1 a_2 a_3 a_4 = some r → Ev Try.prog 20 [.nd a_1 0, .sl 0 0 a_3 0 a_3] [.arr true 39 8 a_3 (a_2.map api_Ins.c)] (a_4.map fold_node.c) (fold_node_lay_2.o a_1 a_2 a_3 a_4 r)) {a_1 : Option Nat} {a_2 : List api_Ins} {a_3 : Nat} {a_4 : List fold_node} {r : List api_Ins} (H : fold_node_lay_2.b rec_ a_1 a_2 a_3 a_4 = some r) : Ev Try.prog 20 [.nd a_1 0, .sl 0 0 a_3 0 a_3] [.arr true 39 8 a_3 (a_2.map api_Ins.c)] (a_4.map fold_node.c) (fold_node_lay_2.o a_1 a_2 a_3 a_4 r) := by
 unfold fold_node_lay_2.b at H
 obtain ⟨i_5, e_6, H⟩ := bdE H
 obtain ⟨y_7, e_8, H⟩ := bdE H
 obtain ⟨g_9, H⟩ := gdE H
 obtain ⟨g_10, H⟩ := gdE H
 let v_11 : List api_Ins := a_2 ++ ([y_7.x] : List api_Ins)
 replace H := ltD H
 obtain ⟨o_12, e_13, H⟩ := bdE H
 have j_14 : Rq fold_node_lay_2.F 1 [1, 1, 1, 0, 1] ⟨[(0, .nd a_1 0), (1, sL 0 v_11), (5, vi (a_3 : Int)), (19, .v (.bool (!y_7.next.isNone)))], [.arr true 39 8 v_11.length (v_11.map api_Ins.c)], (a_4.map fold_node.c)⟩ ((fun _ => .normal : (List api_Ins) → Ex) o_12) ((fun o_12 => ⟨[(0, .nd a_1 0), (1, sL 0 o_12), (5, vi (a_3 : Int))], [.arr true 39 8 o_12.length (o_12.map api_Ins.c)], (a_4.map fold_node.c)⟩ : (List api_Ins) → ASt) o_12) := by
  clear H
  have H := e_13
  clear e_13
  rcases ie H with ⟨h_15, H⟩ | ⟨h_15, H⟩
  ·obtain rfl := sj H
   exact fn [bn h_15]
  ·obtain ⟨r_16, e_17, H⟩ := bdE H
   obtain rfl := sj H
   exact fn [bn h_15, on_ 21 (nzk e_6), ndl fold_node.c e_8, can [0] (ih e_17)]
 rcases ie H with ⟨h_18, H⟩ | ⟨h_18, H⟩
 ·obtain rfl := sj H
  exact fold_node_lay_2.F.run tb mixed [on_ 10 (nzk e_6), ndl fold_node.c e_8, apn api_Ins.c 64 false a_2 ([y_7.x] : List api_Ins) a_3 g_9 g_10 (fun h => by cases h), on_ 16 (nzk e_6), ndl fold_node.c e_8, sc_ j_14, on_ 27 (nzk e_6), ndl fold_node.c e_8, bn h_18] rfl (by kernel_rfl)
 ·obtain ⟨g_19, H⟩ := gdE H
  let v_20 : api_Ins := gi o_12 (a_3 : Int)
  replace H := ltD H
  let v_21 : List api_Ins := o_12.set (a_3 : Int).toNat (api_Ins.mk v_20.Op v_20.D v_20.A v_20.B v_20.Loc v_20.Len v_20.K (o_12.length : Int))
  replace H := ltD H
  obtain ⟨r_22, e_23, H⟩ := bdE H
  obtain rfl := sj H
  exact fold_node_lay_2.F.run tb mixed [on_ 10 (nzk e_6), ndl fold_node.c e_8, apn api_Ins.c 64 false a_2 ([y_7.x] : List api_Ins) a_3 g_9 g_10 (fun h => by cases h), on_ 16 (nzk e_6), ndl fold_node.c e_8, sc_ j_14, on_ 27 (nzk e_6), ndl fold_node.c e_8, bn h_18, pf g_19, up api_Ins.c 7 [vi (o_12.length : Int)] (api_Ins.mk v_20.Op v_20.D v_20.A v_20.B v_20.Loc v_20.Len v_20.K (o_12.length : Int)) g_19 (by kernel_rfl), on_ 38 (nzk e_6), ndl fold_node.c e_8, can [0] (ih e_23)] rfl (by kernel_rfl)
def fold_node_lay_2.r : Nat → (Option Nat) → (List api_Ins) → Nat → (List fold_node) → Option (List api_Ins)
 | 0 => fun _ _ _ _ => none
 | n + 1 => fold_node_lay_2.b (fold_node_lay_2.r n)
theorem fold_node_lay_2.rev : ∀ (n : Nat) {a_1 : Option Nat} {a_2 : List api_Ins} {a_3 : Nat} {a_4 : List fold_node} {r : List api_Ins}, fold_node_lay_2.r n a_1 a_2 a_3 a_4 = some r → Ev Try.prog 20 [.nd a_1 0, .sl 0 0 a_3 0 a_3] [.arr true 39 8 a_3 (a_2.map api_Ins.c)] (a_4.map fold_node.c) (fold_node_lay_2.o a_1 a_2 a_3 a_4 r)
 | 0, _, _, _, _,  _, H => by cases H
 | n + 1, _, _, _, _,  _, H => fold_node_lay_2.bev (fold_node_lay_2.rev n) H
def fold_node_lay_2.m (a_1 : Option Nat) (a_2 : List api_Ins) (a_3 : Nat) (a_4 : List fold_node) : Option (List api_Ins) := fold_node_lay_2.r 1000 a_1 a_2 a_3 a_4
theorem fold_node_lay_2.ev {a_1 : Option Nat} {a_2 : List api_Ins} {a_3 : Nat} {a_4 : List fold_node} {r : List api_Ins} (H : fold_node_lay_2.m a_1 a_2 a_3 a_4 = some r) : Ev Try.prog 20 [.nd a_1 0, .sl 0 0 a_3 0 a_3] [.arr true 39 8 a_3 (a_2.map api_Ins.c)] (a_4.map fold_node.c) (fold_node_lay_2.o a_1 a_2 a_3 a_4 r) := fold_node_lay_2.rev 1000 H
noncomputable def fold_Fold.F : FI Try.prog 9 := fi Try.f9 34 Try.call9 Try.func9
def fold_Fold.l1 (s_10 : (List fold_node) × (Option Nat) × Int) : Option (((List fold_node) × (Option Nat) × Int) ⊕ ((List fold_node) × (Option Nat))) :=
 if s_10.2.2 > 0 then ((fold_node_count.m s_10.2.1 ([] : List (Int × Int)) ([] : List (Int × Int)) s_10.1).bind fun r_15 => (fold_node_trim.m s_10.2.1 r_15.1 r_15.2 s_10.1).bind fun r_17 => some (Sum.inl (r_17.1, r_17.2.1, r_17.2.2))) else (some (Sum.inr (s_10.1, s_10.2.1)))
def fold_Fold.m (a_1 : List api_Ins) (a_2 : List api_Loc) : Option ((List api_Ins) ⊕ Unit) :=
 (tree_Right.m a_1 a_2).bind fun r_3 => if r_3 = true then ((fold_grow.m a_1 0 ([] : List (Int × Int)) ([] : List fold_node)).bind fun r_6 => (B.loop fold_Fold.l1 ((r_6.1, (some ([] : List fold_node).length), 1) : (List fold_node) × (Option Nat) × Int)).bind fun o_11 => (fold_node_lay_2.m o_11.2 ([] : List api_Ins) (([] : List api_Ins).length) o_11.1).bind fun r_19 => some (Sum.inl r_19)) else (some (Sum.inr (())))
noncomputable def fold_Fold.o (a_1 : List api_Ins) (a_2 : List api_Loc) (r : (List api_Ins) ⊕ Unit) : Out := match r with | Sum.inl r => .ret (.tup [sL 0 r, vi 0]) [.arr true 39 8 r.length (r.map api_Ins.c)] [] | Sum.inr (r) => .ret (.tup [.v (.slice none 0 0), vi 3]) [] []
theorem fold_Fold.ev {a_1 : List api_Ins} {a_2 : List api_Loc} {r : (List api_Ins) ⊕ Unit} (H : fold_Fold.m a_1 a_2 = some r) : Ev Try.prog 9 [.ro false 8 a_1.length (a_1.map api_Ins.c), .ro false 2 a_2.length (a_2.map api_Loc.c)] [] [] (fold_Fold.o a_1 a_2 r) := by
 unfold fold_Fold.m at H
 obtain ⟨r_3, e_4, H⟩ := bdE H
 rcases ie H with ⟨h_5, H⟩ | ⟨h_5, H⟩
 ·obtain ⟨r_6, e_7, H⟩ := bdE H
  obtain ⟨o_11, e_12, H⟩ := bdE H
  have j_13 := Runs.loop (P := Try.prog) (N := fold_Fold.F.N) (m0 := 0) (c := sub_ fold_Fold.F.c [1, 1, 1, 0, 1, 0, 0]) (f := fold_Fold.l1) (St := fun s_10 => ⟨[(6, .nd s_10.2.1 0), (7, vi s_10.2.2)], [], (s_10.1.map fold_node.c)⟩) (xo := (fun _ => (.exit 0) : ((List fold_node) × (Option Nat)) → Ex)) (So := (fun o_11 => ⟨[(6, .nd o_11.2 0)], [], (o_11.1.map fold_node.c)⟩ : ((List fold_node) × (Option Nat)) → ASt)) (by intro o; simp) (fun s_10 z H => by
   unfold fold_Fold.l1 at H
   rcases ic H with ⟨h_14, H⟩ | ⟨h_14, H⟩
   ·obtain ⟨r_15, e_16, H⟩ := bdE H
    obtain ⟨r_17, e_18, H⟩ := bdE H
    obtain rfl := sj H
    exact fn [br h_14, can [0, 1] (fold_node_count.ev e_16), can [0, 1] (fold_node_trim.ev e_18)]
   ·obtain rfl := sj H
    exact fn [br h_14] (by kernel_rfl)) e_12
  obtain ⟨r_19, e_20, H⟩ := bdE H
  obtain rfl := sj H
  exact Ev.drA (A' := (o_11.1.map fold_node.c)) (fold_Fold.F.run tb mixed [ca [] (tree_Right.ev e_4), bn h_5, can [0] (fold_grow.ev e_7), su j_13, can [] (Ev.nlo (i := 1) (fold_node_lay_2.ev e_20) (by kernel_rfl))] rfl (by kernel_rfl)) (by kernel_rfl) (by kernel_rfl)
 ·obtain rfl := sj H
  exact Ev.drA (A' := []) (fold_Fold.F.run tb mixed [ca [] (tree_Right.ev e_4), bn h_5] rfl (by kernel_rfl)) (by kernel_rfl) (by kernel_rfl)
def fold_Fold.k1 (s_10 : (List fold_node) × (Option Nat) × Int) : Option (((List fold_node) × (Option Nat) × Int) ⊕ ((List fold_node) × (Option Nat))) :=
 if s_10.2.2 > 0 then ((fold_node_count.k s_10.2.1 ([] : List (Int × Int)) ([] : List (Int × Int)) s_10.1).bind fun r_15 => (fold_node_trim.m s_10.2.1 r_15.1 r_15.2 s_10.1).bind fun r_17 => some (Sum.inl (r_17.1, r_17.2.1, r_17.2.2))) else (some (Sum.inr (s_10.1, s_10.2.1)))
theorem fold_Fold.k1_le (s_10 : (List fold_node) × (Option Nat) × Int) : OLe (fold_Fold.k1 s_10) (fold_Fold.l1 s_10) := by
 unfold fold_Fold.k1 fold_Fold.l1
 repeat' with_reducible first | refine OLe.lt (fun _ => ?_) | refine OLe.lp (fun _ => ?_) | refine OLe.bind ?_ (fun _ => ?_) | refine OLe.ite ?_ ?_ | exact OLe.rfl' | split | exact tree_Right.k_le .. | exact fold_node_count.k_le ..
def fold_Fold.k (a_1 : List api_Ins) (a_2 : List api_Loc) : Option ((List api_Ins) ⊕ Unit) :=
 (tree_Right.k a_1 a_2).bind fun r_3 => if r_3 = true then ((fold_grow.m a_1 0 ([] : List (Int × Int)) ([] : List fold_node)).bind fun r_6 => (lpK fold_Fold.k1 ((r_6.1, (some ([] : List fold_node).length), 1) : (List fold_node) × (Option Nat) × Int)).bind fun o_11 => (fold_node_lay_2.m o_11.2 ([] : List api_Ins) (([] : List api_Ins).length) o_11.1).bind fun r_19 => some (Sum.inl r_19)) else (some (Sum.inr (())))
theorem fold_Fold.k_le (a_1 : List api_Ins) (a_2 : List api_Loc) : OLe (fold_Fold.k a_1 a_2) (fold_Fold.m a_1 a_2) := by
 unfold fold_Fold.k fold_Fold.m
 repeat' with_reducible first | refine OLe.lt (fun _ => ?_) | refine OLe.lp (fun _ => ?_) | refine OLe.bind ?_ (fun _ => ?_) | refine OLe.ite ?_ ?_ | exact OLe.rfl' | split | exact fold_Fold.k1_le .. | exact tree_Right.k_le .. | exact fold_node_count.k_le ..
noncomputable def tree_runner_do_1_2.F : FI Try.prog 36 := fi Try.f36 20 Try.call36 Try.func36
def tree_runner_do_1_2.m (a_1 : Int) (a_2 : Int) (a_3 : Int) (a_4 : Arr Int 400) (a_5 : List Int) (a_6 : List api_Act) : Option (List api_Act) :=
 if (a_6.length + ([(api_Act.mk a_1 a_2 0 a_3)] : List api_Act).length) * 32 ≤ 140737488355328 then (letC (a_6 ++ ([(api_Act.mk a_1 a_2 0 a_3)] : List api_Act)) fun v_8 => some v_8) else none
noncomputable def tree_runner_do_1_2.o (a_1 : Int) (a_2 : Int) (a_3 : Int) (a_4 : Arr Int 400) (a_5 : List Int) (a_6 : List api_Act) (r : List api_Act) : Out := .ret (.tup []) [.box [.ref 1 0], .seg [.a 1 400 (a_4.l.map (cI .i64)), .c (.ro false 1 a_5.length (a_5.map (cI .i64))), .c (sL 2 r)], .arr true 44 4 r.length (r.map api_Act.c)] []
theorem tree_runner_do_1_2.ev {a_1 : Int} {a_2 : Int} {a_3 : Int} {a_4 : Arr Int 400} {a_5 : List Int} {a_6 : List api_Act} {r : List api_Act} (H : tree_runner_do_1_2.m a_1 a_2 a_3 a_4 a_5 a_6 = some r) : Ev Try.prog 36 [vi a_1, vi a_2, vi a_3, .ref 0 0] [.box [.ref 1 0], .seg [.a 1 400 (a_4.l.map (cI .i64)), .c (.ro false 1 a_5.length (a_5.map (cI .i64))), .c (sL 2 a_6)], .arr true 44 4 a_6.length (a_6.map api_Act.c)] [] (tree_runner_do_1_2.o a_1 a_2 a_3 a_4 a_5 a_6 r) := by
 unfold tree_runner_do_1_2.m at H
 obtain ⟨g_7, H⟩ := gdE H
 let v_8 : List api_Act := a_6 ++ ([(api_Act.mk a_1 a_2 0 a_3)] : List api_Act)
 replace H := ltD H
 obtain rfl := sj H
 exact tree_runner_do_1_2.F.run tb mixed [ap api_Act.c 32 false a_6 ([(api_Act.mk a_1 a_2 0 a_3)] : List api_Act) g_7 (fun h => by cases h)] rfl (by kernel_rfl)
noncomputable def tree_runner_answer_2.F : FI Try.prog 40 := fi Try.f40 26 Try.call40 Try.func40
def tree_runner_answer_2.m (a_1 : Arr Int 400) (a_2 : List Int) (a_3 : List api_Act) : Option ((List Int) × Int × Bool) :=
 if (a_2.length : Int) = 0 then (some (a_2, 0, false)) else (if 0 ≤ (0 : Int) ∧ (0 : Int) < (a_2.length : Int) then (letC (gi a_2 0) fun v_6 => if 0 ≤ (1 : Int) ∧ (1 : Int) ≤ (a_2.length : Int) ∧ (a_2.length : Int) ≤ (a_2.length : Int) then (letC ((a_2.drop (1 : Int).toNat).take ((a_2.length : Int).toNat - (1 : Int).toNat)) fun v_8 => some (v_8, v_6, true)) else none) else none)
noncomputable def tree_runner_answer_2.o (a_1 : Arr Int 400) (a_2 : List Int) (a_3 : List api_Act) (r : (List Int) × Int × Bool) : Out := .ret (.tup [vi r.2.1, .v (.bool r.2.2)]) [.seg [.a 1 400 (a_1.l.map (cI .i64)), .c (.ro false 1 r.1.length (r.1.map (cI .i64))), .c (sL 1 a_3)], .arr true 44 4 a_3.length (a_3.map api_Act.c)] []
theorem tree_runner_answer_2.ev {a_1 : Arr Int 400} {a_2 : List Int} {a_3 : List api_Act} {r : (List Int) × Int × Bool} (H : tree_runner_answer_2.m a_1 a_2 a_3 = some r) : Ev Try.prog 40 [.ref 0 0] [.seg [.a 1 400 (a_1.l.map (cI .i64)), .c (.ro false 1 a_2.length (a_2.map (cI .i64))), .c (sL 1 a_3)], .arr true 44 4 a_3.length (a_3.map api_Act.c)] [] (tree_runner_answer_2.o a_1 a_2 a_3 r) := by
 unfold tree_runner_answer_2.m at H
 rcases ic H with ⟨h_4, H⟩ | ⟨h_4, H⟩
 ·obtain rfl := sj H
  exact tree_runner_answer_2.F.run tb mixed [br h_4] rfl (by kernel_rfl)
 ·obtain ⟨g_5, H⟩ := gdE H
  let v_6 : Int := gi a_2 0
  replace H := ltD H
  obtain ⟨g_7, H⟩ := gdE H
  let v_8 : List Int := (a_2.drop (1 : Int).toNat).take ((a_2.length : Int).toNat - (1 : Int).toNat)
  replace H := ltD H
  obtain rfl := sj H
  exact tree_runner_answer_2.F.run tb mixed [br h_4, ix (cI .i64) g_5, ct (cI .i64) a_2 (1 : Int) (a_2.length : Int) g_7] rfl (by kernel_rfl)
noncomputable def tree_runner_cases_2.F : FI Try.prog 37 := fi Try.f37 55 Try.call37 Try.func37
def tree_runner_cases_2.m (a_1 : Int) (a_2 : api_Ins) (a_3 : Int) (a_4 : Int) (a_5 : Arr Int 400) (a_6 : List Int) (a_7 : List api_Act) : Option ((List Int) × (List api_Act) × Int × Int) :=
 (tree_runner_answer_2.m a_5 a_6 a_7).bind fun r_8 => if r_8.2.2 = true then (if r_8.2.1 = a_3 then (if (a_7.length + ([(api_Act.mk 5 a_2.Loc r_8.2.1 a_4)] : List api_Act).length) * 32 ≤ 140737488355328 then (letC (a_7 ++ ([(api_Act.mk 5 a_2.Loc r_8.2.1 a_4)] : List api_Act)) fun v_13 => some (r_8.1, v_13, (wr .i64 (a_1 + 1)), 0)) else none) else (if (a_7.length + ([(api_Act.mk 3 a_2.Loc r_8.2.1 0)] : List api_Act).length) * 32 ≤ 140737488355328 then (letC (a_7 ++ ([(api_Act.mk 3 a_2.Loc r_8.2.1 0)] : List api_Act)) fun v_15 => some (r_8.1, v_15, a_2.To, 0)) else none)) else (some (r_8.1, a_7, 0, 4))
noncomputable def tree_runner_cases_2.o (a_1 : Int) (a_2 : api_Ins) (a_3 : Int) (a_4 : Int) (a_5 : Arr Int 400) (a_6 : List Int) (a_7 : List api_Act) (r : (List Int) × (List api_Act) × Int × Int) : Out := .ret (.tup [vi r.2.2.1, vi r.2.2.2]) [.seg [.a 1 400 (a_5.l.map (cI .i64)), .c (.ro false 1 r.1.length (r.1.map (cI .i64))), .c (sL 1 r.2.1)], .arr true 44 4 r.2.1.length (r.2.1.map api_Act.c)] []
theorem tree_runner_cases_2.ev {a_1 : Int} {a_2 : api_Ins} {a_3 : Int} {a_4 : Int} {a_5 : Arr Int 400} {a_6 : List Int} {a_7 : List api_Act} {r : (List Int) × (List api_Act) × Int × Int} (H : tree_runner_cases_2.m a_1 a_2 a_3 a_4 a_5 a_6 a_7 = some r) : Ev Try.prog 37 [.ref 0 0, vi a_1, .agg (api_Ins.c a_2), vi a_3, vi a_4] [.seg [.a 1 400 (a_5.l.map (cI .i64)), .c (.ro false 1 a_6.length (a_6.map (cI .i64))), .c (sL 1 a_7)], .arr true 44 4 a_7.length (a_7.map api_Act.c)] [] (tree_runner_cases_2.o a_1 a_2 a_3 a_4 a_5 a_6 a_7 r) := by
 unfold tree_runner_cases_2.m at H
 obtain ⟨r_8, e_9, H⟩ := bdE H
 rcases ie H with ⟨h_10, H⟩ | ⟨h_10, H⟩
 ·rcases ic H with ⟨h_11, H⟩ | ⟨h_11, H⟩
  ·obtain ⟨g_12, H⟩ := gdE H
   let v_13 : List api_Act := a_7 ++ ([(api_Act.mk 5 a_2.Loc r_8.2.1 a_4)] : List api_Act)
   replace H := ltD H
   obtain rfl := sj H
   exact tree_runner_cases_2.F.run tb mixed [ca [0, 1] (tree_runner_answer_2.ev e_9), bn h_10, bn h_11, ap api_Act.c 32 false a_7 ([(api_Act.mk 5 a_2.Loc r_8.2.1 a_4)] : List api_Act) g_12 (fun h => by cases h)] rfl (by kernel_rfl)
  ·obtain ⟨g_14, H⟩ := gdE H
   let v_15 : List api_Act := a_7 ++ ([(api_Act.mk 3 a_2.Loc r_8.2.1 0)] : List api_Act)
   replace H := ltD H
   obtain rfl := sj H
   exact tree_runner_cases_2.F.run tb mixed [ca [0, 1] (tree_runner_answer_2.ev e_9), bn h_10, bn h_11, ap api_Act.c 32 false a_7 ([(api_Act.mk 3 a_2.Loc r_8.2.1 0)] : List api_Act) g_14 (fun h => by cases h)] rfl (by kernel_rfl)
 ·obtain rfl := sj H
  exact tree_runner_cases_2.F.run tb mixed [ca [0, 1] (tree_runner_answer_2.ev e_9), bn h_10] rfl (by kernel_rfl)
noncomputable def tree_runner_ask.F : FI Try.prog 38 := fi Try.f38 64 Try.call38 Try.func38
def tree_runner_ask.m (a_1 : api_Ins) (a_2 : Int) (a_3 : Int) (a_4 : Arr Int 400) (a_5 : List Int) (a_6 : List api_Act) : Option ((Arr Int 400) × (List Int) × (List api_Act) × Bool) :=
 (tree_runner_answer_2.m a_4 a_5 a_6).bind fun r_7 => if r_7.2.2 = true then ((if a_1.Op = 10 then (if 0 ≤ a_1.A ∧ a_1.A < ((400 : Nat) : Int) then (letC (a_4.g a_1.A) fun v_15 => some ((api_Act.mk ((api_Act.mk a_2 a_3 r_7.2.1 0).Kind) ((api_Act.mk a_2 a_3 r_7.2.1 0).Loc) ((api_Act.mk a_2 a_3 r_7.2.1 0).Old) v_15) : api_Act)) else none) else (some (api_Act.mk a_2 a_3 r_7.2.1 0 : api_Act)) : Option api_Act).bind fun o_10 => (if a_1.Op = 11 then (if 0 ≤ a_1.A ∧ a_1.A < ((400 : Nat) : Int) then (letC (a_4.g a_1.A) fun v_21 => some ((api_Act.mk o_10.Kind o_10.Loc o_10.Old (wr .i64 (r_7.2.1 + v_21))) : api_Act)) else none) else (some (o_10 : api_Act)) : Option api_Act).bind fun o_16 => if 0 ≤ a_1.D ∧ a_1.D < ((400 : Nat) : Int) then (letC (a_4.s a_1.D r_7.2.1) fun v_23 => if (a_6.length + ([o_16] : List api_Act).length) * 32 ≤ 140737488355328 then (letC (a_6 ++ ([o_16] : List api_Act)) fun v_25 => some (v_23, r_7.1, v_25, true)) else none) else none) else (some (a_4, r_7.1, a_6, false))
noncomputable def tree_runner_ask.o (a_1 : api_Ins) (a_2 : Int) (a_3 : Int) (a_4 : Arr Int 400) (a_5 : List Int) (a_6 : List api_Act) (r : (Arr Int 400) × (List Int) × (List api_Act) × Bool) : Out := .ret (.v (.bool r.2.2.2)) [.seg [.a 1 400 (r.1.l.map (cI .i64)), .c (.ro false 1 r.2.1.length (r.2.1.map (cI .i64))), .c (sL 1 r.2.2.1)], .arr true 44 4 r.2.2.1.length (r.2.2.1.map api_Act.c)] []
theorem tree_runner_ask.ev {a_1 : api_Ins} {a_2 : Int} {a_3 : Int} {a_4 : Arr Int 400} {a_5 : List Int} {a_6 : List api_Act} {r : (Arr Int 400) × (List Int) × (List api_Act) × Bool} (H : tree_runner_ask.m a_1 a_2 a_3 a_4 a_5 a_6 = some r) : Ev Try.prog 38 [.ref 0 0, .agg (api_Ins.c a_1), vi a_2, vi a_3] [.seg [.a 1 400 (a_4.l.map (cI .i64)), .c (.ro false 1 a_5.length (a_5.map (cI .i64))), .c (sL 1 a_6)], .arr true 44 4 a_6.length (a_6.map api_Act.c)] [] (tree_runner_ask.o a_1 a_2 a_3 a_4 a_5 a_6 r) := by
 unfold tree_runner_ask.m at H
 obtain ⟨r_7, e_8, H⟩ := bdE H
 rcases ie H with ⟨h_9, H⟩ | ⟨h_9, H⟩
 ·obtain ⟨o_10, e_11, H⟩ := bdE H
  have j_12 : Rq tree_runner_ask.F 2 [1, 1, 1, 1, 0, 1] ⟨[(0, .ref 0 0), (5, .ref 2 0), (9, vi r_7.2.1), (11, .ref 3 0), (25, .v (.bool (decide (a_1.Op = 10))))], [.seg [.a 1 400 (a_4.l.map (cI .i64)), .c (.ro false 1 r_7.1.length (r_7.1.map (cI .i64))), .c (sL 1 a_6)], .arr true 44 4 a_6.length (a_6.map api_Act.c), .box (api_Ins.c a_1), .box (api_Act.c (api_Act.mk a_2 a_3 r_7.2.1 0))], []⟩ ((fun _ => .normal : api_Act → Ex) o_10) ((fun o_10 => ⟨[(0, .ref 0 0), (5, .ref 2 0), (9, vi r_7.2.1), (11, .ref 3 0)], [.seg [.a 1 400 (a_4.l.map (cI .i64)), .c (.ro false 1 r_7.1.length (r_7.1.map (cI .i64))), .c (sL 1 a_6)], .arr true 44 4 a_6.length (a_6.map api_Act.c), .box (api_Ins.c a_1), .box (api_Act.c o_10)], []⟩ : api_Act → ASt) o_10) := by
   clear H
   have H := e_11
   clear e_11
   rcases ic H with ⟨h_13, H⟩ | ⟨h_13, H⟩
   ·obtain ⟨g_14, H⟩ := gdE H
    let v_15 : Int := a_4.g a_1.A
    replace H := ltD H
    obtain rfl := sj H
    exact fn [br h_13, pf g_14, sgl (cI .i64) a_4 0 0 g_14]
   ·obtain rfl := sj H
    exact fn [br h_13]
  obtain ⟨o_16, e_17, H⟩ := bdE H
  have j_18 : Rq tree_runner_ask.F 2 [1, 1, 1, 1, 1, 0, 1] ⟨[(0, .ref 0 0), (5, .ref 2 0), (9, vi r_7.2.1), (11, .ref 3 0), (36, .v (.bool (decide (a_1.Op = 11))))], [.seg [.a 1 400 (a_4.l.map (cI .i64)), .c (.ro false 1 r_7.1.length (r_7.1.map (cI .i64))), .c (sL 1 a_6)], .arr true 44 4 a_6.length (a_6.map api_Act.c), .box (api_Ins.c a_1), .box (api_Act.c o_10)], []⟩ ((fun _ => .normal : api_Act → Ex) o_16) ((fun o_16 => ⟨[(0, .ref 0 0), (5, .ref 2 0), (9, vi r_7.2.1), (11, .ref 3 0)], [.seg [.a 1 400 (a_4.l.map (cI .i64)), .c (.ro false 1 r_7.1.length (r_7.1.map (cI .i64))), .c (sL 1 a_6)], .arr true 44 4 a_6.length (a_6.map api_Act.c), .box (api_Ins.c a_1), .box (api_Act.c o_16)], []⟩ : api_Act → ASt) o_16) := by
   clear H
   have H := e_17
   clear e_17
   rcases ic H with ⟨h_19, H⟩ | ⟨h_19, H⟩
   ·obtain ⟨g_20, H⟩ := gdE H
    let v_21 : Int := a_4.g a_1.A
    replace H := ltD H
    obtain rfl := sj H
    exact fn [br h_19, pf g_20, sgl (cI .i64) a_4 0 0 g_20]
   ·obtain rfl := sj H
    exact fn [br h_19]
  obtain ⟨g_22, H⟩ := gdE H
  let v_23 : Arr Int 400 := a_4.s a_1.D r_7.2.1
  replace H := ltD H
  obtain ⟨g_24, H⟩ := gdE H
  let v_25 : List api_Act := a_6 ++ ([o_16] : List api_Act)
  replace H := ltD H
  obtain rfl := sj H
  exact tree_runner_ask.F.run tb mixed [ca [0, 1] (tree_runner_answer_2.ev e_8), bn h_9, sc_ j_12, sc_ j_18, pf g_22, sgs (cI .i64) a_4 0 0 [vi r_7.2.1] r_7.2.1 g_22 (by kernel_rfl), ap api_Act.c 32 false a_6 ([o_16] : List api_Act) g_24 (fun h => by cases h)] rfl (by kernel_rfl)
 ·obtain rfl := sj H
  exact tree_runner_ask.F.run tb mixed [ca [0, 1] (tree_runner_answer_2.ev e_8), bn h_9] rfl (by kernel_rfl)
noncomputable def tree_runner_do_2.F : FI Try.prog 25 := fi Try.f25 171 Try.call25 Try.func25
def tree_runner_do_2.m (a_1 : Int) (a_2 : api_Ins) (a_3 : Arr Int 400) (a_4 : List Int) (a_5 : List api_Act) : Option ((Arr Int 400) × (List Int) × (List api_Act) × Int × Int) :=
 if 0 ≤ a_2.A ∧ a_2.A < ((400 : Nat) : Int) then (letC (a_3.g a_2.A) fun v_7 => if 0 ≤ a_2.B ∧ a_2.B < ((400 : Nat) : Int) then (letC (a_3.g a_2.B) fun v_9 => (if a_2.Op = 1 then (if 0 ≤ a_2.D ∧ a_2.D < ((400 : Nat) : Int) then (letC (a_3.s a_2.D a_2.K) fun v_15 => some (Sum.inl (v_15, a_5, 0, a_2.Loc) : ((Arr Int 400) × (List api_Act) × Int × Int) ⊕ ((List Int) × (List api_Act) × Int × Int))) else none) else (if a_2.Op = 2 then (if 0 ≤ a_2.D ∧ a_2.D < ((400 : Nat) : Int) then (letC (a_3.s a_2.D (wr .i64 (v_7 + v_9))) fun v_18 => some (Sum.inl (v_18, a_5, 0, a_2.Loc) : ((Arr Int 400) × (List api_Act) × Int × Int) ⊕ ((List Int) × (List api_Act) × Int × Int))) else none) else (if a_2.Op = 3 then (if 0 ≤ a_2.D ∧ a_2.D < ((400 : Nat) : Int) then (letC (a_3.s a_2.D (wr .i64 (v_7 - v_9))) fun v_21 => some (Sum.inl (v_21, a_5, 0, a_2.Loc) : ((Arr Int 400) × (List api_Act) × Int × Int) ⊕ ((List Int) × (List api_Act) × Int × Int))) else none) else (if a_2.Op = 4 then (if 0 ≤ a_2.D ∧ a_2.D < ((400 : Nat) : Int) then (letC (a_3.s a_2.D (wr .i64 (v_7 * v_9))) fun v_24 => some (Sum.inl (v_24, a_5, 0, a_2.Loc) : ((Arr Int 400) × (List api_Act) × Int × Int) ⊕ ((List Int) × (List api_Act) × Int × Int))) else none) else (if a_2.Op = 5 then (if v_9 = 0 then (some (Sum.inr ((a_4, a_5, 0, 2)) : ((Arr Int 400) × (List api_Act) × Int × Int) ⊕ ((List Int) × (List api_Act) × Int × Int))) else (if v_9 ≠ 0 then (if 0 ≤ a_2.D ∧ a_2.D < ((400 : Nat) : Int) then (letC (a_3.s a_2.D (wr .i64 (Int.tdiv v_7 v_9))) fun v_29 => some (Sum.inl (v_29, a_5, 0, a_2.Loc) : ((Arr Int 400) × (List api_Act) × Int × Int) ⊕ ((List Int) × (List api_Act) × Int × Int))) else none) else none)) else (if a_2.Op = 6 then (some (Sum.inl (a_3, a_5, 1, a_2.Loc) : ((Arr Int 400) × (List api_Act) × Int × Int) ⊕ ((List Int) × (List api_Act) × Int × Int))) else (if a_2.Op = 8 then (some (Sum.inl (a_3, a_5, 3, a_2.Loc) : ((Arr Int 400) × (List api_Act) × Int × Int) ⊕ ((List Int) × (List api_Act) × Int × Int))) else ((if a_2.Op = 10 then (some (true : Bool)) else (some ((decide (a_2.Op = 11)) : Bool)) : Option Bool).bind fun o_32 => if o_32 = true then (some (Sum.inl (a_3, a_5, 5, a_2.Loc) : ((Arr Int 400) × (List api_Act) × Int × Int) ⊕ ((List Int) × (List api_Act) × Int × Int))) else (if a_2.Op = 7 then ((tree_runner_do_1_2.m 2 a_2.Loc v_7 a_3 a_4 a_5).bind fun r_38 => some (Sum.inl (a_3, r_38, 0, a_2.Loc) : ((Arr Int 400) × (List api_Act) × Int × Int) ⊕ ((List Int) × (List api_Act) × Int × Int))) else (if a_2.Op = 9 then ((tree_runner_do_1_2.m 4 a_2.Loc v_7 a_3 a_4 a_5).bind fun r_41 => some (Sum.inl (a_3, r_41, 0, a_2.Loc) : ((Arr Int 400) × (List api_Act) × Int × Int) ⊕ ((List Int) × (List api_Act) × Int × Int))) else ((if a_2.Op = 13 then (some (true : Bool)) else (some ((decide (a_2.Op = 14)) : Bool)) : Option Bool).bind fun o_43 => if o_43 = true then ((if v_7 < 0 then (some (true : Bool)) else (some ((decide (v_7 ≥ a_2.Len)) : Bool)) : Option Bool).bind fun o_48 => if o_48 = true then (some (Sum.inr ((a_4, a_5, 0, 3)) : ((Arr Int 400) × (List api_Act) × Int × Int) ⊕ ((List Int) × (List api_Act) × Int × Int))) else (if a_2.Op = 14 then ((tree_runner_do_1_2.m 2 (wr .i64 (a_2.Loc + v_7)) v_9 a_3 a_4 a_5).bind fun r_54 => some (Sum.inl (a_3, r_54, 0, (wr .i64 (a_2.Loc + v_7))) : ((Arr Int 400) × (List api_Act) × Int × Int) ⊕ ((List Int) × (List api_Act) × Int × Int))) else (some (Sum.inl (a_3, a_5, 1, (wr .i64 (a_2.Loc + v_7))) : ((Arr Int 400) × (List api_Act) × Int × Int) ⊕ ((List Int) × (List api_Act) × Int × Int))))) else (if a_2.Op = 15 then ((tree_runner_do_1_2.m 6 0 v_7 a_3 a_4 a_5).bind fun r_57 => some (Sum.inl (a_3, r_57, 0, a_2.Loc) : ((Arr Int 400) × (List api_Act) × Int × Int) ⊕ ((List Int) × (List api_Act) × Int × Int))) else (if a_2.Op = 16 then (if v_7 ≥ v_9 then (some (Sum.inr ((a_4, a_5, a_2.To, 0)) : ((Arr Int 400) × (List api_Act) × Int × Int) ⊕ ((List Int) × (List api_Act) × Int × Int))) else (some (Sum.inl (a_3, a_5, 0, a_2.Loc) : ((Arr Int 400) × (List api_Act) × Int × Int) ⊕ ((List Int) × (List api_Act) × Int × Int)))) else (if a_2.Op = 17 then (if v_7 = v_9 then (some (Sum.inl (a_3, a_5, 0, a_2.Loc) : ((Arr Int 400) × (List api_Act) × Int × Int) ⊕ ((List Int) × (List api_Act) × Int × Int))) else (some (Sum.inr ((a_4, a_5, a_2.To, 0)) : ((Arr Int 400) × (List api_Act) × Int × Int) ⊕ ((List Int) × (List api_Act) × Int × Int)))) else (if a_2.Op = 12 then ((tree_runner_cases_2.m a_1 a_2 v_7 v_9 a_3 a_4 a_5).bind fun r_64 => some (Sum.inr ((r_64.1, r_64.2.1, r_64.2.2.1, r_64.2.2.2)) : ((Arr Int 400) × (List api_Act) × Int × Int) ⊕ ((List Int) × (List api_Act) × Int × Int))) else (if a_2.Op = 18 then (some (Sum.inr ((a_4, a_5, 0, 1)) : ((Arr Int 400) × (List api_Act) × Int × Int) ⊕ ((List Int) × (List api_Act) × Int × Int))) else (some (Sum.inl (a_3, a_5, 0, a_2.Loc) : ((Arr Int 400) × (List api_Act) × Int × Int) ⊕ ((List Int) × (List api_Act) × Int × Int)))))))))))))))))) : Option (((Arr Int 400) × (List api_Act) × Int × Int) ⊕ ((List Int) × (List api_Act) × Int × Int))).bind fun o_10 => match o_10 with | Sum.inl s_67 => (if s_67.2.2.1 = 0 then (some (s_67.1, a_4, s_67.2.1, (wr .i64 (a_1 + 1)), 0)) else ((tree_runner_ask.m a_2 s_67.2.2.1 s_67.2.2.2 s_67.1 a_4 s_67.2.1).bind fun r_70 => if r_70.2.2.2 = true then (some (r_70.1, r_70.2.1, r_70.2.2.1, (wr .i64 (a_1 + 1)), 0)) else (some (r_70.1, r_70.2.1, r_70.2.2.1, 0, 4)))) | Sum.inr (s_68) => (some (a_3, s_68.1, s_68.2.1, s_68.2.2.1, s_68.2.2.2))) else none) else none
noncomputable def tree_runner_do_2.o (a_1 : Int) (a_2 : api_Ins) (a_3 : Arr Int 400) (a_4 : List Int) (a_5 : List api_Act) (r : (Arr Int 400) × (List Int) × (List api_Act) × Int × Int) : Out := .ret (.tup [vi r.2.2.2.1, vi r.2.2.2.2]) [.seg [.a 1 400 (r.1.l.map (cI .i64)), .c (.ro false 1 r.2.1.length (r.2.1.map (cI .i64))), .c (sL 1 r.2.2.1)], .arr true 44 4 r.2.2.1.length (r.2.2.1.map api_Act.c)] []
theorem tree_runner_do_2.ev {a_1 : Int} {a_2 : api_Ins} {a_3 : Arr Int 400} {a_4 : List Int} {a_5 : List api_Act} {r : (Arr Int 400) × (List Int) × (List api_Act) × Int × Int} (H : tree_runner_do_2.m a_1 a_2 a_3 a_4 a_5 = some r) : Ev Try.prog 25 [.ref 0 0, vi a_1, .agg (api_Ins.c a_2)] [.seg [.a 1 400 (a_3.l.map (cI .i64)), .c (.ro false 1 a_4.length (a_4.map (cI .i64))), .c (sL 1 a_5)], .arr true 44 4 a_5.length (a_5.map api_Act.c)] [] (tree_runner_do_2.o a_1 a_2 a_3 a_4 a_5 r) := by
 unfold tree_runner_do_2.m at H
 obtain ⟨g_6, H⟩ := gdE H
 let v_7 : Int := a_3.g a_2.A
 replace H := ltD H
 obtain ⟨g_8, H⟩ := gdE H
 let v_9 : Int := a_3.g a_2.B
 replace H := ltD H
 obtain ⟨o_10, e_11, H⟩ := bdE H
 have j_12 : Rq tree_runner_do_2.F 2 [1, 1, 1, 1, 0, 1] ⟨[(1, vi a_1), (3, .ref 2 0), (5, .ref 3 0), (8, vi v_7), (9, vi v_9), (10, .fn 36 [] [.ref 2 0]), (11, vi 0), (12, vi a_2.Loc), (31, vi a_2.Op)], [.seg [.a 1 400 (a_3.l.map (cI .i64)), .c (.ro false 1 a_4.length (a_4.map (cI .i64))), .c (sL 1 a_5)], .arr true 44 4 a_5.length (a_5.map api_Act.c), .box [.ref 0 0], .box (api_Ins.c a_2)], []⟩ ((fun o => match o with | Sum.inl _ => .normal | Sum.inr (_) => .ret : (((Arr Int 400) × (List api_Act) × Int × Int) ⊕ ((List Int) × (List api_Act) × Int × Int)) → Ex) o_10) ((fun o => match o with | Sum.inl s_67 => ⟨[(1, vi a_1), (3, .ref 2 0), (5, .ref 3 0), (11, vi s_67.2.2.1), (12, vi s_67.2.2.2)], [.seg [.a 1 400 (s_67.1.l.map (cI .i64)), .c (.ro false 1 a_4.length (a_4.map (cI .i64))), .c (sL 1 s_67.2.1)], .arr true 44 4 s_67.2.1.length (s_67.2.1.map api_Act.c), .box [.ref 0 0], .box (api_Ins.c a_2)], []⟩ | Sum.inr (s_68) => ⟨[(6, vi s_68.2.2.1), (7, vi s_68.2.2.2)], [.seg [.a 1 400 (a_3.l.map (cI .i64)), .c (.ro false 1 s_68.1.length (s_68.1.map (cI .i64))), .c (sL 1 s_68.2.1)], .arr true 44 4 s_68.2.1.length (s_68.2.1.map api_Act.c)], []⟩ : (((Arr Int 400) × (List api_Act) × Int × Int) ⊕ ((List Int) × (List api_Act) × Int × Int)) → ASt) o_10) := by
  clear H
  have H := e_11
  clear e_11
  rcases ic H with ⟨h_13, H⟩ | ⟨h_13, H⟩
  ·obtain ⟨g_14, H⟩ := gdE H
   let v_15 : Arr Int 400 := a_3.s a_2.D a_2.K
   replace H := ltD H
   obtain rfl := sj H
   exact fn [br h_13, pf g_14, sgs (cI .i64) a_3 0 0 [vi a_2.K] a_2.K g_14 (by kernel_rfl)]
  ·rcases ic H with ⟨h_16, H⟩ | ⟨h_16, H⟩
   ·obtain ⟨g_17, H⟩ := gdE H
    let v_18 : Arr Int 400 := a_3.s a_2.D (wr .i64 (v_7 + v_9))
    replace H := ltD H
    obtain rfl := sj H
    exact fn [br h_13, br h_16, pf g_17, sgs (cI .i64) a_3 0 0 [vi (wr .i64 (v_7 + v_9))] (wr .i64 (v_7 + v_9)) g_17 (by kernel_rfl)]
   ·rcases ic H with ⟨h_19, H⟩ | ⟨h_19, H⟩
    ·obtain ⟨g_20, H⟩ := gdE H
     let v_21 : Arr Int 400 := a_3.s a_2.D (wr .i64 (v_7 - v_9))
     replace H := ltD H
     obtain rfl := sj H
     exact fn [br h_13, br h_16, br h_19, pf g_20, sgs (cI .i64) a_3 0 0 [vi (wr .i64 (v_7 - v_9))] (wr .i64 (v_7 - v_9)) g_20 (by kernel_rfl)]
    ·rcases ic H with ⟨h_22, H⟩ | ⟨h_22, H⟩
     ·obtain ⟨g_23, H⟩ := gdE H
      let v_24 : Arr Int 400 := a_3.s a_2.D (wr .i64 (v_7 * v_9))
      replace H := ltD H
      obtain rfl := sj H
      exact fn [br h_13, br h_16, br h_19, br h_22, pf g_23, sgs (cI .i64) a_3 0 0 [vi (wr .i64 (v_7 * v_9))] (wr .i64 (v_7 * v_9)) g_23 (by kernel_rfl)]
     ·rcases ic H with ⟨h_25, H⟩ | ⟨h_25, H⟩
      ·rcases ic H with ⟨h_26, H⟩ | ⟨h_26, H⟩
       ·obtain rfl := sj H
        exact fn [br h_13, br h_16, br h_19, br h_22, br h_25, br h_26]
       ·obtain ⟨g_27, H⟩ := gdE H
        obtain ⟨g_28, H⟩ := gdE H
        let v_29 : Arr Int 400 := a_3.s a_2.D (wr .i64 (Int.tdiv v_7 v_9))
        replace H := ltD H
        obtain rfl := sj H
        exact fn [br h_13, br h_16, br h_19, br h_22, br h_25, br h_26, pf g_27, pf g_28, sgs (cI .i64) a_3 0 0 [vi (wr .i64 (Int.tdiv v_7 v_9))] (wr .i64 (Int.tdiv v_7 v_9)) g_28 (by kernel_rfl)]
      ·rcases ic H with ⟨h_30, H⟩ | ⟨h_30, H⟩
       ·obtain rfl := sj H
        exact fn [br h_13, br h_16, br h_19, br h_22, br h_25, br h_30]
       ·rcases ic H with ⟨h_31, H⟩ | ⟨h_31, H⟩
        ·obtain rfl := sj H
         exact fn [br h_13, br h_16, br h_19, br h_22, br h_25, br h_30, br h_31]
        ·obtain ⟨o_32, e_33, H⟩ := bdE H
         have j_34 : Rq tree_runner_do_2.F 2 [1, 1, 1, 1, 0, 1, 0, 1, 1, 1, 1, 1, 1, 1, 1, 1, 1, 1, 1, 1, 1, 0, 1] ⟨[(1, vi a_1), (3, .ref 2 0), (5, .ref 3 0), (8, vi v_7), (9, vi v_9), (10, .fn 36 [] [.ref 2 0]), (11, vi 0), (12, vi a_2.Loc), (31, vi a_2.Op), (92, .v (.bool (decide (a_2.Op = 10))))], [.seg [.a 1 400 (a_3.l.map (cI .i64)), .c (.ro false 1 a_4.length (a_4.map (cI .i64))), .c (sL 1 a_5)], .arr true 44 4 a_5.length (a_5.map api_Act.c), .box [.ref 0 0], .box (api_Ins.c a_2)], []⟩ ((fun _ => .normal : Bool → Ex) o_32) ((fun o_32 => ⟨[(1, vi a_1), (3, .ref 2 0), (5, .ref 3 0), (8, vi v_7), (9, vi v_9), (10, .fn 36 [] [.ref 2 0]), (11, vi 0), (12, vi a_2.Loc), (31, vi a_2.Op), (92, .v (.bool o_32))], [.seg [.a 1 400 (a_3.l.map (cI .i64)), .c (.ro false 1 a_4.length (a_4.map (cI .i64))), .c (sL 1 a_5)], .arr true 44 4 a_5.length (a_5.map api_Act.c), .box [.ref 0 0], .box (api_Ins.c a_2)], []⟩ : Bool → ASt) o_32) := by
          clear H
          have H := e_33
          clear e_33
          rcases ic H with ⟨h_35, H⟩ | ⟨h_35, H⟩
          ·obtain rfl := sj H
           exact fn [br h_35]
          ·obtain rfl := sj H
           exact fn [br h_35]
         rcases ie H with ⟨h_36, H⟩ | ⟨h_36, H⟩
         ·obtain rfl := sj H
          exact fn [br h_13, br h_16, br h_19, br h_22, br h_25, br h_30, br h_31, sc_ j_34, br h_36]
         ·rcases ic H with ⟨h_37, H⟩ | ⟨h_37, H⟩
          ·obtain ⟨r_38, e_39, H⟩ := bdE H
           obtain rfl := sj H
           exact fn [br h_13, br h_16, br h_19, br h_22, br h_25, br h_30, br h_31, sc_ j_34, br h_36, br h_37, ca [2, 0, 1] (tree_runner_do_1_2.ev e_39)]
          ·rcases ic H with ⟨h_40, H⟩ | ⟨h_40, H⟩
           ·obtain ⟨r_41, e_42, H⟩ := bdE H
            obtain rfl := sj H
            exact fn [br h_13, br h_16, br h_19, br h_22, br h_25, br h_30, br h_31, sc_ j_34, br h_36, br h_37, br h_40, ca [2, 0, 1] (tree_runner_do_1_2.ev e_42)]
           ·obtain ⟨o_43, e_44, H⟩ := bdE H
            have j_45 : Rq tree_runner_do_2.F 2 [1, 1, 1, 1, 0, 1, 0, 1, 1, 1, 1, 1, 1, 1, 1, 1, 1, 1, 1, 1, 1, 1, 1, 1, 1, 1, 1, 0, 1] ⟨[(1, vi a_1), (3, .ref 2 0), (5, .ref 3 0), (8, vi v_7), (9, vi v_9), (10, .fn 36 [] [.ref 2 0]), (11, vi 0), (12, vi a_2.Loc), (31, vi a_2.Op), (107, .v (.bool (decide (a_2.Op = 13))))], [.seg [.a 1 400 (a_3.l.map (cI .i64)), .c (.ro false 1 a_4.length (a_4.map (cI .i64))), .c (sL 1 a_5)], .arr true 44 4 a_5.length (a_5.map api_Act.c), .box [.ref 0 0], .box (api_Ins.c a_2)], []⟩ ((fun _ => .normal : Bool → Ex) o_43) ((fun o_43 => ⟨[(1, vi a_1), (3, .ref 2 0), (5, .ref 3 0), (8, vi v_7), (9, vi v_9), (10, .fn 36 [] [.ref 2 0]), (11, vi 0), (12, vi a_2.Loc), (31, vi a_2.Op), (107, .v (.bool o_43))], [.seg [.a 1 400 (a_3.l.map (cI .i64)), .c (.ro false 1 a_4.length (a_4.map (cI .i64))), .c (sL 1 a_5)], .arr true 44 4 a_5.length (a_5.map api_Act.c), .box [.ref 0 0], .box (api_Ins.c a_2)], []⟩ : Bool → ASt) o_43) := by
             clear H
             have H := e_44
             clear e_44
             rcases ic H with ⟨h_46, H⟩ | ⟨h_46, H⟩
             ·obtain rfl := sj H
              exact fn [br h_46]
             ·obtain rfl := sj H
              exact fn [br h_46]
            rcases ie H with ⟨h_47, H⟩ | ⟨h_47, H⟩
            ·obtain ⟨o_48, e_49, H⟩ := bdE H
             have j_50 : Rq tree_runner_do_2.F 2 [1, 1, 1, 1, 0, 1, 0, 1, 1, 1, 1, 1, 1, 1, 1, 1, 1, 1, 1, 1, 1, 1, 1, 1, 1, 1, 1, 1, 0, 0, 0] ⟨[(1, vi a_1), (3, .ref 2 0), (5, .ref 3 0), (8, vi v_7), (9, vi v_9), (10, .fn 36 [] [.ref 2 0]), (11, vi 0), (12, vi a_2.Loc)], [.seg [.a 1 400 (a_3.l.map (cI .i64)), .c (.ro false 1 a_4.length (a_4.map (cI .i64))), .c (sL 1 a_5)], .arr true 44 4 a_5.length (a_5.map api_Act.c), .box [.ref 0 0], .box (api_Ins.c a_2)], []⟩ ((fun _ => .normal : Bool → Ex) o_48) ((fun o_48 => ⟨[(1, vi a_1), (3, .ref 2 0), (5, .ref 3 0), (8, vi v_7), (9, vi v_9), (10, .fn 36 [] [.ref 2 0]), (11, vi 0), (12, vi a_2.Loc), (117, .v (.bool o_48))], [.seg [.a 1 400 (a_3.l.map (cI .i64)), .c (.ro false 1 a_4.length (a_4.map (cI .i64))), .c (sL 1 a_5)], .arr true 44 4 a_5.length (a_5.map api_Act.c), .box [.ref 0 0], .box (api_Ins.c a_2)], []⟩ : Bool → ASt) o_48) := by
              clear H
              have H := e_49
              clear e_49
              rcases ic H with ⟨h_51, H⟩ | ⟨h_51, H⟩
              ·obtain rfl := sj H
               exact fn [br h_51, pT]
              ·obtain rfl := sj H
               exact fn [br h_51, pF]
             rcases ie H with ⟨h_52, H⟩ | ⟨h_52, H⟩
             ·obtain rfl := sj H
              exact fn [br h_13, br h_16, br h_19, br h_22, br h_25, br h_30, br h_31, sc_ j_34, br h_36, br h_37, br h_40, sc_ j_45, br h_47, sg_ 30 j_50, br h_52]
             ·rcases ic H with ⟨h_53, H⟩ | ⟨h_53, H⟩
              ·obtain ⟨r_54, e_55, H⟩ := bdE H
               obtain rfl := sj H
               exact fn [br h_13, br h_16, br h_19, br h_22, br h_25, br h_30, br h_31, sc_ j_34, br h_36, br h_37, br h_40, sc_ j_45, br h_47, sg_ 30 j_50, br h_52, br h_53, ca [2, 0, 1] (tree_runner_do_1_2.ev e_55)]
              ·obtain rfl := sj H
               exact fn [br h_13, br h_16, br h_19, br h_22, br h_25, br h_30, br h_31, sc_ j_34, br h_36, br h_37, br h_40, sc_ j_45, br h_47, sg_ 30 j_50, br h_52, br h_53]
            ·rcases ic H with ⟨h_56, H⟩ | ⟨h_56, H⟩
             ·obtain ⟨r_57, e_58, H⟩ := bdE H
              obtain rfl := sj H
              exact fn [br h_13, br h_16, br h_19, br h_22, br h_25, br h_30, br h_31, sc_ j_34, br h_36, br h_37, br h_40, sc_ j_45, br h_47, br h_56, ca [2, 0, 1] (tree_runner_do_1_2.ev e_58)]
             ·rcases ic H with ⟨h_59, H⟩ | ⟨h_59, H⟩
              ·rcases ic H with ⟨h_60, H⟩ | ⟨h_60, H⟩
               ·obtain rfl := sj H
                exact fn [br h_13, br h_16, br h_19, br h_22, br h_25, br h_30, br h_31, sc_ j_34, br h_36, br h_37, br h_40, sc_ j_45, br h_47, br h_56, br h_59, br h_60]
               ·obtain rfl := sj H
                exact fn [br h_13, br h_16, br h_19, br h_22, br h_25, br h_30, br h_31, sc_ j_34, br h_36, br h_37, br h_40, sc_ j_45, br h_47, br h_56, br h_59, br h_60]
              ·rcases ic H with ⟨h_61, H⟩ | ⟨h_61, H⟩
               ·rcases ic H with ⟨h_62, H⟩ | ⟨h_62, H⟩
                ·obtain rfl := sj H
                 exact fn [br h_13, br h_16, br h_19, br h_22, br h_25, br h_30, br h_31, sc_ j_34, br h_36, br h_37, br h_40, sc_ j_45, br h_47, br h_56, br h_59, br h_61, bn h_62]
                ·obtain rfl := sj H
                 exact fn [br h_13, br h_16, br h_19, br h_22, br h_25, br h_30, br h_31, sc_ j_34, br h_36, br h_37, br h_40, sc_ j_45, br h_47, br h_56, br h_59, br h_61, bn h_62]
               ·rcases ic H with ⟨h_63, H⟩ | ⟨h_63, H⟩
                ·obtain ⟨r_64, e_65, H⟩ := bdE H
                 obtain rfl := sj H
                 exact fn [br h_13, br h_16, br h_19, br h_22, br h_25, br h_30, br h_31, sc_ j_34, br h_36, br h_37, br h_40, sc_ j_45, br h_47, br h_56, br h_59, br h_61, br h_63, ca [0, 1] (tree_runner_cases_2.ev e_65)]
                ·rcases ic H with ⟨h_66, H⟩ | ⟨h_66, H⟩
                 ·obtain rfl := sj H
                  exact fn [br h_13, br h_16, br h_19, br h_22, br h_25, br h_30, br h_31, sc_ j_34, br h_36, br h_37, br h_40, sc_ j_45, br h_47, br h_56, br h_59, br h_61, br h_63, br h_66]
                 ·obtain rfl := sj H
                  exact fn [br h_13, br h_16, br h_19, br h_22, br h_25, br h_30, br h_31, sc_ j_34, br h_36, br h_37, br h_40, sc_ j_45, br h_47, br h_56, br h_59, br h_61, br h_63, br h_66]
 rcases o_10 with s_67 | s_68
 ·rcases ic H with ⟨h_69, H⟩ | ⟨h_69, H⟩
  ·obtain rfl := sj H
   exact tree_runner_do_2.F.run tb mixed [pf g_6, sgl (cI .i64) a_3 0 0 g_6, pf g_8, sgl (cI .i64) a_3 0 0 g_8, sb_ j_12, bn h_69, pF, au] rfl (by kernel_rfl)
  ·obtain ⟨r_70, e_71, H⟩ := bdE H
   rcases ie H with ⟨h_72, H⟩ | ⟨h_72, H⟩
   ·obtain rfl := sj H
    exact tree_runner_do_2.F.run tb mixed [pf g_6, sgl (cI .i64) a_3 0 0 g_6, pf g_8, sgl (cI .i64) a_3 0 0 g_8, sb_ j_12, bn h_69, ca [0, 1] (tree_runner_ask.ev e_71), pT, bn h_72] rfl (by kernel_rfl)
   ·obtain rfl := sj H
    exact tree_runner_do_2.F.run tb mixed [pf g_6, sgl (cI .i64) a_3 0 0 g_6, pf g_8, sgl (cI .i64) a_3 0 0 g_8, sb_ j_12, bn h_69, ca [0, 1] (tree_runner_ask.ev e_71), pT, bn h_72] rfl (by kernel_rfl)
 ·obtain rfl := sj H
  exact tree_runner_do_2.F.run tb mixed [pf g_6, sgl (cI .i64) a_3 0 0 g_6, pf g_8, sgl (cI .i64) a_3 0 0 g_8, sb_ j_12] rfl (by kernel_rfl)
noncomputable def tree_Run.F : FI Try.prog 13 := fi Try.f13 38 Try.call13 Try.func13
def tree_Run.l1 (a_1 : List api_Ins) (s_9 : (Arr Int 400) × (List Int) × (List api_Act) × Int) : Option (((Arr Int 400) × (List Int) × (List api_Act) × Int) ⊕ (Int × (List api_Act))) :=
 if 0 ≤ s_9.2.2.2 ∧ s_9.2.2.2 < (a_1.length : Int) then (letC (gi a_1 s_9.2.2.2) fun v_14 => (tree_runner_do_2.m s_9.2.2.2 v_14 s_9.1 s_9.2.1 s_9.2.2.1).bind fun r_15 => if r_15.2.2.2.2 = 0 then (some (Sum.inl (r_15.1, r_15.2.1, r_15.2.2.1, r_15.2.2.2.1))) else (some (Sum.inr (r_15.2.2.2.2, r_15.2.2.1)))) else none
def tree_Run.m (a_1 : List api_Ins) (a_2 : List api_Loc) (a_3 : List Int) : Option (((List api_Act) × Int) ⊕ Unit) :=
 (tree_Right.m a_1 a_2).bind fun r_4 => if r_4 = true then ((B.loop (tree_Run.l1 a_1) (((Arr.r 400 (0 : Int) : Arr Int 400), a_3, ([] : List api_Act), 0) : (Arr Int 400) × (List Int) × (List api_Act) × Int)).bind fun o_10 => some (Sum.inl (o_10.2, o_10.1))) else (some (Sum.inr (())))
noncomputable def tree_Run.o (a_1 : List api_Ins) (a_2 : List api_Loc) (a_3 : List Int) (r : ((List api_Act) × Int) ⊕ Unit) : Out := match r with | Sum.inl r => .ret (.agg [sL 2 r.1, vi r.2]) [.dead, .dead, .arr true 44 4 r.1.length (r.1.map api_Act.c)] [] | Sum.inr (r) => .ret (.agg [.v (.slice none 0 0), vi 0]) [] []
theorem tree_Run.ev {a_1 : List api_Ins} {a_2 : List api_Loc} {a_3 : List Int} {r : ((List api_Act) × Int) ⊕ Unit} (H : tree_Run.m a_1 a_2 a_3 = some r) : Ev Try.prog 13 [.ro false 8 a_1.length (a_1.map api_Ins.c), .ro false 2 a_2.length (a_2.map api_Loc.c), .ro false 1 a_3.length (a_3.map (cI .i64))] [] [] (tree_Run.o a_1 a_2 a_3 r) := by
 unfold tree_Run.m at H
 obtain ⟨r_4, e_5, H⟩ := bdE H
 rcases ie H with ⟨h_6, H⟩ | ⟨h_6, H⟩
 ·obtain ⟨o_10, e_11, H⟩ := bdE H
  have j_12 := Runs.loop (P := Try.prog) (N := tree_Run.F.N) (m0 := 0) (c := sub_ tree_Run.F.c [1, 1, 1, 1, 0, 0]) (f := (tree_Run.l1 a_1)) (St := fun s_9 => ⟨[(0, .ro false 8 a_1.length (a_1.map api_Ins.c)), (6, .ref 0 0), (7, .ref 1 0), (8, vi s_9.2.2.2)], [.box [.v (.slice none 0 0), vi 0], .seg [.a 1 400 (s_9.1.l.map (cI .i64)), .c (.ro false 1 s_9.2.1.length (s_9.2.1.map (cI .i64))), .c (sL 2 s_9.2.2.1)], .arr true 44 4 s_9.2.2.1.length (s_9.2.2.1.map api_Act.c)], []⟩) (xo := (fun _ => .ret : (Int × (List api_Act)) → Ex)) (So := (fun o_10 => ⟨[(6, .ref 0 0)], [.box [sL 2 o_10.2, vi o_10.1], .dead, .arr true 44 4 o_10.2.length (o_10.2.map api_Act.c)], []⟩ : (Int × (List api_Act)) → ASt)) (by intro o; simp) (fun s_9 z H => by
   unfold tree_Run.l1 at H
   obtain ⟨g_13, H⟩ := gdE H
   let v_14 : api_Ins := gi a_1 s_9.2.2.2
   replace H := ltD H
   obtain ⟨r_15, e_16, H⟩ := bdE H
   rcases ic H with ⟨h_17, H⟩ | ⟨h_17, H⟩
   ·obtain rfl := sj H
    exact fn [ix api_Ins.c g_13, ca [1, 2] (tree_runner_do_2.ev e_16), bn h_17]
   ·obtain rfl := sj H
    exact fn [ix api_Ins.c g_13, ca [1, 2] (tree_runner_do_2.ev e_16), bn h_17] (by kernel_rfl)) e_11
  obtain rfl := sj H
  exact tree_Run.F.run tb mixed [ca [] (tree_Right.ev e_5), bn h_6, on_ 18 (sgn [.a 1 400 ((Arr.r 400 (0 : Int) : Arr Int 400).l.map (cI .i64)), .c (.ro false 1 a_3.length (a_3.map (cI .i64))), .c (.v (.slice none 0 0))]), su j_12, adB 1 2 (some 44) 4] rfl (by kernel_rfl)
 ·obtain rfl := sj H
  exact tree_Run.F.run tb mixed [ca [] (tree_Right.ev e_5), bn h_6] rfl (by kernel_rfl)
def tree_Run.k1 (a_1 : List api_Ins) (s_9 : (Arr Int 400) × (List Int) × (List api_Act) × Int) : Option (((Arr Int 400) × (List Int) × (List api_Act) × Int) ⊕ (Int × (List api_Act))) :=
 if 0 ≤ s_9.2.2.2 ∧ s_9.2.2.2 < (a_1.length : Int) then (letK (gi a_1 s_9.2.2.2) fun v_14 => (tree_runner_do_2.m s_9.2.2.2 v_14 s_9.1 s_9.2.1 s_9.2.2.1).bind fun r_15 => if r_15.2.2.2.2 = 0 then (some (Sum.inl (r_15.1, r_15.2.1, r_15.2.2.1, r_15.2.2.2.1))) else (some (Sum.inr (r_15.2.2.2.2, r_15.2.2.1)))) else none
theorem tree_Run.k1_le (a_1 : List api_Ins) (s_9 : (Arr Int 400) × (List Int) × (List api_Act) × Int) : OLe (tree_Run.k1 a_1 s_9) (tree_Run.l1 a_1 s_9) := by
 unfold tree_Run.k1 tree_Run.l1
 repeat' with_reducible first | refine OLe.lt (fun _ => ?_) | refine OLe.lp (fun _ => ?_) | refine OLe.bind ?_ (fun _ => ?_) | refine OLe.ite ?_ ?_ | exact OLe.rfl' | split | exact tree_Right.k_le ..
def tree_Run.k (a_1 : List api_Ins) (a_2 : List api_Loc) (a_3 : List Int) : Option (((List api_Act) × Int) ⊕ Unit) :=
 (tree_Right.k a_1 a_2).bind fun r_4 => if r_4 = true then ((lpK (tree_Run.k1 a_1) (((Arr.r 400 (0 : Int) : Arr Int 400), a_3, ([] : List api_Act), 0) : (Arr Int 400) × (List Int) × (List api_Act) × Int)).bind fun o_10 => some (Sum.inl (o_10.2, o_10.1))) else (some (Sum.inr (())))
theorem tree_Run.k_le (a_1 : List api_Ins) (a_2 : List api_Loc) (a_3 : List Int) : OLe (tree_Run.k a_1 a_2 a_3) (tree_Run.m a_1 a_2 a_3) := by
 unfold tree_Run.k tree_Run.m
 repeat' with_reducible first | refine OLe.lt (fun _ => ?_) | refine OLe.lp (fun _ => ?_) | refine OLe.bind ?_ (fun _ => ?_) | refine OLe.ite ?_ ?_ | exact OLe.rfl' | split | exact tree_Run.k1_le .. | exact tree_Right.k_le ..
noncomputable def selvageref08_Same.F : FI Try.prog 24 := fi Try.f24 26 Try.call24 Try.func24
def selvageref08_Same.l1 (a_1 : List api_Act) (a_2 : List api_Act) (a_3 : Nat) (s_7 : Int) : Option (Int ⊕ (Unit ⊕ Unit)) :=
 if s_7 < (a_1.length : Int) then (if 0 ≤ s_7 ∧ s_7 < (a_1.length : Int) then (letC (gi a_1 s_7) fun v_15 => if 0 ≤ s_7 ∧ s_7 < (a_3 : Int) then (if 0 ≤ s_7 ∧ s_7 < (a_2.length : Int) then (letC (gi a_2 s_7) fun v_18 => if ((v_15.Kind == v_18.Kind) && ((v_15.Loc == v_18.Loc) && ((v_15.Old == v_18.Old) && ((v_15.New == v_18.New) && true)))) = true then (some (Sum.inl (wr .i64 (s_7 + 1)))) else (some (Sum.inr (Sum.inl ())))) else none) else none) else none) else (some (Sum.inr (Sum.inr (()))))
def selvageref08_Same.m (a_1 : List api_Act) (a_2 : List api_Act) (a_3 : Nat) : Option (Bool) :=
 if (a_1.length : Int) = (a_3 : Int) then ((B.loop (selvageref08_Same.l1 a_1 a_2 a_3) (0 : Int)).bind fun o_8 => match o_8 with | Sum.inl s_11 => (some false) | Sum.inr (s_12) => (some true)) else (some false)
noncomputable def selvageref08_Same.o (a_1 : List api_Act) (a_2 : List api_Act) (a_3 : Nat) (r : Bool) : Out := .ret (.v (.bool r)) [.arr true 44 4 a_1.length (a_1.map api_Act.c), .arr false 44 4 a_3 (a_2.map api_Act.c)] []
theorem selvageref08_Same.ev {a_1 : List api_Act} {a_2 : List api_Act} {a_3 : Nat} {r : Bool} (H : selvageref08_Same.m a_1 a_2 a_3 = some r) : Ev Try.prog 24 [sL 0 a_1, .sl 0 1 a_3 0 a_3] [.arr true 44 4 a_1.length (a_1.map api_Act.c), .arr false 44 4 a_3 (a_2.map api_Act.c)] [] (selvageref08_Same.o a_1 a_2 a_3 r) := by
 unfold selvageref08_Same.m at H
 rcases ic H with ⟨h_4, H⟩ | ⟨h_4, H⟩
 ·obtain ⟨o_8, e_9, H⟩ := bdE H
  have j_10 := Runs.loop (P := Try.prog) (N := selvageref08_Same.F.N) (m0 := 2) (c := sub_ selvageref08_Same.F.c [1, 1, 0, 1, 0, 0]) (f := (selvageref08_Same.l1 a_1 a_2 a_3)) (St := fun s_7 => ⟨[(0, sL 0 a_1), (1, .sl 0 1 a_3 0 a_3), (5, vi s_7)], [.arr true 44 4 a_1.length (a_1.map api_Act.c), .arr false 44 4 a_3 (a_2.map api_Act.c)], []⟩) (xo := (fun o => match o with | Sum.inl _ => .ret | Sum.inr (_) => (.exit 0) : (Unit ⊕ Unit) → Ex)) (So := (fun o => match o with | Sum.inl s_11 => ⟨[(4, .v (.bool false))], [.arr true 44 4 a_1.length (a_1.map api_Act.c), .arr false 44 4 a_3 (a_2.map api_Act.c)], []⟩ | Sum.inr (s_12) => ⟨[], [.arr true 44 4 a_1.length (a_1.map api_Act.c), .arr false 44 4 a_3 (a_2.map api_Act.c)], []⟩ : (Unit ⊕ Unit) → ASt)) (by intro o; rcases o with _ | _ <;> simp) (fun s_7 z H => by
   unfold selvageref08_Same.l1 at H
   rcases ic H with ⟨h_13, H⟩ | ⟨h_13, H⟩
   ·obtain ⟨g_14, H⟩ := gdE H
    let v_15 : api_Act := gi a_1 s_7
    replace H := ltD H
    obtain ⟨g_16, H⟩ := gdE H
    obtain ⟨g_17, H⟩ := gdE H
    let v_18 : api_Act := gi a_2 s_7
    replace H := ltD H
    rcases ie H with ⟨h_19, H⟩ | ⟨h_19, H⟩
    ·obtain rfl := sj H
     exact fn [br h_13, pf g_14, el api_Act.c g_14, pf g_16, el api_Act.c g_17, eqs (P := Try.prog) (xt := 44) ⟨by kernel_rfl, by kernel_rfl⟩, bn h_19]
    ·obtain rfl := sj H
     exact fn [br h_13, pf g_14, el api_Act.c g_14, pf g_16, el api_Act.c g_17, eqs (P := Try.prog) (xt := 44) ⟨by kernel_rfl, by kernel_rfl⟩, bn h_19]
   ·obtain rfl := sj H
    exact fn [br h_13] (by kernel_rfl)) e_9
  rcases o_8 with s_11 | s_12
  ·obtain rfl := sj H
   exact selvageref08_Same.F.run tb mixed [bn h_4, su j_10] rfl (by kernel_rfl)
  ·obtain rfl := sj H
   exact selvageref08_Same.F.run tb mixed [bn h_4, su j_10] rfl (by kernel_rfl)
 ·obtain rfl := sj H
  exact selvageref08_Same.F.run tb mixed [bn h_4] rfl (by kernel_rfl)
def selvageref08_Same.k1 (a_1 : List api_Act) (a_2 : List api_Act) (a_3 : Nat) (s_7 : Int) : Option (Int ⊕ (Unit ⊕ Unit)) :=
 if s_7 < (a_1.length : Int) then (if 0 ≤ s_7 ∧ s_7 < (a_1.length : Int) then (letK (gi a_1 s_7) fun v_15 => if 0 ≤ s_7 ∧ s_7 < (a_3 : Int) then (if 0 ≤ s_7 ∧ s_7 < (a_2.length : Int) then (letK (gi a_2 s_7) fun v_18 => if ((v_15.Kind == v_18.Kind) && ((v_15.Loc == v_18.Loc) && ((v_15.Old == v_18.Old) && ((v_15.New == v_18.New) && true)))) = true then (some (Sum.inl (wr .i64 (s_7 + 1)))) else (some (Sum.inr (Sum.inl ())))) else none) else none) else none) else (some (Sum.inr (Sum.inr (()))))
theorem selvageref08_Same.k1_le (a_1 : List api_Act) (a_2 : List api_Act) (a_3 : Nat) (s_7 : Int) : OLe (selvageref08_Same.k1 a_1 a_2 a_3 s_7) (selvageref08_Same.l1 a_1 a_2 a_3 s_7) := by
 unfold selvageref08_Same.k1 selvageref08_Same.l1
 repeat' with_reducible first | refine OLe.lt (fun _ => ?_) | refine OLe.lp (fun _ => ?_) | refine OLe.bind ?_ (fun _ => ?_) | refine OLe.ite ?_ ?_ | exact OLe.rfl' | split
def selvageref08_Same.k (a_1 : List api_Act) (a_2 : List api_Act) (a_3 : Nat) : Option (Bool) :=
 if (a_1.length : Int) = (a_3 : Int) then ((lpK (selvageref08_Same.k1 a_1 a_2 a_3) (0 : Int)).bind fun o_8 => match o_8 with | Sum.inl s_11 => (some false) | Sum.inr (s_12) => (some true)) else (some false)
theorem selvageref08_Same.k_le (a_1 : List api_Act) (a_2 : List api_Act) (a_3 : Nat) : OLe (selvageref08_Same.k a_1 a_2 a_3) (selvageref08_Same.m a_1 a_2 a_3) := by
 unfold selvageref08_Same.k selvageref08_Same.m
 repeat' with_reducible first | refine OLe.lt (fun _ => ?_) | refine OLe.lp (fun _ => ?_) | refine OLe.bind ?_ (fun _ => ?_) | refine OLe.ite ?_ ?_ | exact OLe.rfl' | split | exact selvageref08_Same.k1_le ..
 all_goals (exfalso; simp_all)
noncomputable def selvageref08_SameTrace.F : FI Try.prog 12 := fi Try.f12 17 Try.call12 Try.func12
def selvageref08_SameTrace.m (a_1 : Int) (a_2 : Int) (a_3 : List api_Act) (a_4 : List api_Act) (a_5 : Nat) : Option (Bool) :=
 if a_1 = a_2 then ((selvageref08_Same.m a_3 a_4 a_5).bind fun r_7 => some r_7) else (some false)
noncomputable def selvageref08_SameTrace.o (a_1 : Int) (a_2 : Int) (a_3 : List api_Act) (a_4 : List api_Act) (a_5 : Nat) (r : Bool) : Out := .ret (.v (.bool r)) [.arr true 44 4 a_3.length (a_3.map api_Act.c), .arr false 44 4 a_5 (a_4.map api_Act.c)] []
theorem selvageref08_SameTrace.ev {a_1 : Int} {a_2 : Int} {a_3 : List api_Act} {a_4 : List api_Act} {a_5 : Nat} {r : Bool} (H : selvageref08_SameTrace.m a_1 a_2 a_3 a_4 a_5 = some r) : Ev Try.prog 12 [.agg [sL 0 a_3, vi a_1], .agg [.sl 0 1 a_5 0 a_5, vi a_2]] [.arr true 44 4 a_3.length (a_3.map api_Act.c), .arr false 44 4 a_5 (a_4.map api_Act.c)] [] (selvageref08_SameTrace.o a_1 a_2 a_3 a_4 a_5 r) := by
 unfold selvageref08_SameTrace.m at H
 rcases ic H with ⟨h_6, H⟩ | ⟨h_6, H⟩
 ·obtain ⟨r_7, e_8, H⟩ := bdE H
  obtain rfl := sj H
  exact selvageref08_SameTrace.F.run tb mixed [br h_6, ca [0, 1] (selvageref08_Same.ev e_8), pT] rfl (by kernel_rfl)
 ·obtain rfl := sj H
  exact selvageref08_SameTrace.F.run tb mixed [br h_6, pF] rfl (by kernel_rfl)
def selvageref08_SameTrace.k (a_1 : Int) (a_2 : Int) (a_3 : List api_Act) (a_4 : List api_Act) (a_5 : Nat) : Option (Bool) :=
 if a_1 = a_2 then ((selvageref08_Same.k a_3 a_4 a_5).bind fun r_7 => some r_7) else (some false)
theorem selvageref08_SameTrace.k_le (a_1 : Int) (a_2 : Int) (a_3 : List api_Act) (a_4 : List api_Act) (a_5 : Nat) : OLe (selvageref08_SameTrace.k a_1 a_2 a_3 a_4 a_5) (selvageref08_SameTrace.m a_1 a_2 a_3 a_4 a_5) := by
 unfold selvageref08_SameTrace.k selvageref08_SameTrace.m
 repeat' with_reducible first | refine OLe.lt (fun _ => ?_) | refine OLe.lp (fun _ => ?_) | refine OLe.bind ?_ (fun _ => ?_) | refine OLe.ite ?_ ?_ | exact OLe.rfl' | split | exact selvageref08_Same.k_le ..
noncomputable def selvageref08_Same_2.F : FI Try.prog 24 := fi Try.f24 26 Try.call24 Try.func24
def selvageref08_Same_2.l1 (a_1 : List api_Act) (a_2 : List api_Act) (a_3 : Nat) (s_7 : Int) : Option (Int ⊕ (Unit ⊕ Unit)) :=
 if s_7 < (a_1.length : Int) then (if 0 ≤ s_7 ∧ s_7 < (a_1.length : Int) then (letC (gi a_1 s_7) fun v_15 => if 0 ≤ s_7 ∧ s_7 < (a_3 : Int) then (if 0 ≤ s_7 ∧ s_7 < (a_2.length : Int) then (letC (gi a_2 s_7) fun v_18 => if ((v_15.Kind == v_18.Kind) && ((v_15.Loc == v_18.Loc) && ((v_15.Old == v_18.Old) && ((v_15.New == v_18.New) && true)))) = true then (some (Sum.inl (wr .i64 (s_7 + 1)))) else (some (Sum.inr (Sum.inl ())))) else none) else none) else none) else (some (Sum.inr (Sum.inr (()))))
def selvageref08_Same_2.m (a_1 : List api_Act) (a_2 : List api_Act) (a_3 : Nat) : Option (Bool) :=
 if (a_1.length : Int) = (a_3 : Int) then ((B.loop (selvageref08_Same_2.l1 a_1 a_2 a_3) (0 : Int)).bind fun o_8 => match o_8 with | Sum.inl s_11 => (some false) | Sum.inr (s_12) => (some true)) else (some false)
noncomputable def selvageref08_Same_2.o (a_1 : List api_Act) (a_2 : List api_Act) (a_3 : Nat) (r : Bool) : Out := .ret (.v (.bool r)) [.arr false 44 4 a_3 (a_2.map api_Act.c)] []
theorem selvageref08_Same_2.ev {a_1 : List api_Act} {a_2 : List api_Act} {a_3 : Nat} {r : Bool} (H : selvageref08_Same_2.m a_1 a_2 a_3 = some r) : Ev Try.prog 24 [.ro false 4 a_1.length (a_1.map api_Act.c), .sl 0 0 a_3 0 a_3] [.arr false 44 4 a_3 (a_2.map api_Act.c)] [] (selvageref08_Same_2.o a_1 a_2 a_3 r) := by
 unfold selvageref08_Same_2.m at H
 rcases ic H with ⟨h_4, H⟩ | ⟨h_4, H⟩
 ·obtain ⟨o_8, e_9, H⟩ := bdE H
  have j_10 := Runs.loop (P := Try.prog) (N := selvageref08_Same_2.F.N) (m0 := 1) (c := sub_ selvageref08_Same_2.F.c [1, 1, 0, 1, 0, 0]) (f := (selvageref08_Same_2.l1 a_1 a_2 a_3)) (St := fun s_7 => ⟨[(0, .ro false 4 a_1.length (a_1.map api_Act.c)), (1, .sl 0 0 a_3 0 a_3), (5, vi s_7)], [.arr false 44 4 a_3 (a_2.map api_Act.c)], []⟩) (xo := (fun o => match o with | Sum.inl _ => .ret | Sum.inr (_) => (.exit 0) : (Unit ⊕ Unit) → Ex)) (So := (fun o => match o with | Sum.inl s_11 => ⟨[(4, .v (.bool false))], [.arr false 44 4 a_3 (a_2.map api_Act.c)], []⟩ | Sum.inr (s_12) => ⟨[], [.arr false 44 4 a_3 (a_2.map api_Act.c)], []⟩ : (Unit ⊕ Unit) → ASt)) (by intro o; rcases o with _ | _ <;> simp) (fun s_7 z H => by
   unfold selvageref08_Same_2.l1 at H
   rcases ic H with ⟨h_13, H⟩ | ⟨h_13, H⟩
   ·obtain ⟨g_14, H⟩ := gdE H
    let v_15 : api_Act := gi a_1 s_7
    replace H := ltD H
    obtain ⟨g_16, H⟩ := gdE H
    obtain ⟨g_17, H⟩ := gdE H
    let v_18 : api_Act := gi a_2 s_7
    replace H := ltD H
    rcases ie H with ⟨h_19, H⟩ | ⟨h_19, H⟩
    ·obtain rfl := sj H
     exact fn [br h_13, ix api_Act.c g_14, pf g_16, el api_Act.c g_17, eqs (P := Try.prog) (xt := 44) ⟨by kernel_rfl, by kernel_rfl⟩, bn h_19]
    ·obtain rfl := sj H
     exact fn [br h_13, ix api_Act.c g_14, pf g_16, el api_Act.c g_17, eqs (P := Try.prog) (xt := 44) ⟨by kernel_rfl, by kernel_rfl⟩, bn h_19]
   ·obtain rfl := sj H
    exact fn [br h_13] (by kernel_rfl)) e_9
  rcases o_8 with s_11 | s_12
  ·obtain rfl := sj H
   exact selvageref08_Same_2.F.run tb mixed [bn h_4, su j_10] rfl (by kernel_rfl)
  ·obtain rfl := sj H
   exact selvageref08_Same_2.F.run tb mixed [bn h_4, su j_10] rfl (by kernel_rfl)
 ·obtain rfl := sj H
  exact selvageref08_Same_2.F.run tb mixed [bn h_4] rfl (by kernel_rfl)
def selvageref08_Same_2.k1 (a_1 : List api_Act) (a_2 : List api_Act) (a_3 : Nat) (s_7 : Int) : Option (Int ⊕ (Unit ⊕ Unit)) :=
 if s_7 < (a_1.length : Int) then (if 0 ≤ s_7 ∧ s_7 < (a_1.length : Int) then (letK (gi a_1 s_7) fun v_15 => if 0 ≤ s_7 ∧ s_7 < (a_3 : Int) then (if 0 ≤ s_7 ∧ s_7 < (a_2.length : Int) then (letK (gi a_2 s_7) fun v_18 => if ((v_15.Kind == v_18.Kind) && ((v_15.Loc == v_18.Loc) && ((v_15.Old == v_18.Old) && ((v_15.New == v_18.New) && true)))) = true then (some (Sum.inl (wr .i64 (s_7 + 1)))) else (some (Sum.inr (Sum.inl ())))) else none) else none) else none) else (some (Sum.inr (Sum.inr (()))))
theorem selvageref08_Same_2.k1_le (a_1 : List api_Act) (a_2 : List api_Act) (a_3 : Nat) (s_7 : Int) : OLe (selvageref08_Same_2.k1 a_1 a_2 a_3 s_7) (selvageref08_Same_2.l1 a_1 a_2 a_3 s_7) := by
 unfold selvageref08_Same_2.k1 selvageref08_Same_2.l1
 repeat' with_reducible first | refine OLe.lt (fun _ => ?_) | refine OLe.lp (fun _ => ?_) | refine OLe.bind ?_ (fun _ => ?_) | refine OLe.ite ?_ ?_ | exact OLe.rfl' | split
def selvageref08_Same_2.k (a_1 : List api_Act) (a_2 : List api_Act) (a_3 : Nat) : Option (Bool) :=
 if (a_1.length : Int) = (a_3 : Int) then ((lpK (selvageref08_Same_2.k1 a_1 a_2 a_3) (0 : Int)).bind fun o_8 => match o_8 with | Sum.inl s_11 => (some false) | Sum.inr (s_12) => (some true)) else (some false)
theorem selvageref08_Same_2.k_le (a_1 : List api_Act) (a_2 : List api_Act) (a_3 : Nat) : OLe (selvageref08_Same_2.k a_1 a_2 a_3) (selvageref08_Same_2.m a_1 a_2 a_3) := by
 unfold selvageref08_Same_2.k selvageref08_Same_2.m
 repeat' with_reducible first | refine OLe.lt (fun _ => ?_) | refine OLe.lp (fun _ => ?_) | refine OLe.bind ?_ (fun _ => ?_) | refine OLe.ite ?_ ?_ | exact OLe.rfl' | split | exact selvageref08_Same_2.k1_le ..
 all_goals (exfalso; simp_all)
noncomputable def selvageref08_SameTrace_2.F : FI Try.prog 12 := fi Try.f12 17 Try.call12 Try.func12
def selvageref08_SameTrace_2.m (a_1 : Int) (a_2 : Int) (a_3 : List api_Act) (a_4 : Nat) : Option (Bool) :=
 if a_1 = a_2 then ((selvageref08_Same_2.m ([] : List api_Act) a_3 a_4).bind fun r_6 => some r_6) else (some false)
noncomputable def selvageref08_SameTrace_2.o (a_1 : Int) (a_2 : Int) (a_3 : List api_Act) (a_4 : Nat) (r : Bool) : Out := .ret (.v (.bool r)) [.arr false 44 4 a_4 (a_3.map api_Act.c)] []
theorem selvageref08_SameTrace_2.ev {a_1 : Int} {a_2 : Int} {a_3 : List api_Act} {a_4 : Nat} {r : Bool} (H : selvageref08_SameTrace_2.m a_1 a_2 a_3 a_4 = some r) : Ev Try.prog 12 [.agg [.v (.slice none 0 0), vi a_1], .agg [.sl 0 0 a_4 0 a_4, vi a_2]] [.arr false 44 4 a_4 (a_3.map api_Act.c)] [] (selvageref08_SameTrace_2.o a_1 a_2 a_3 a_4 r) := by
 unfold selvageref08_SameTrace_2.m at H
 rcases ic H with ⟨h_5, H⟩ | ⟨h_5, H⟩
 ·obtain ⟨r_6, e_7, H⟩ := bdE H
  obtain rfl := sj H
  exact selvageref08_SameTrace_2.F.run tb mixed [br h_5, ca [0] (Ev.nz (c := false) (k := 4) 0 (selvageref08_Same_2.ev e_7) (by kernel_rfl)), pT] rfl (by kernel_rfl)
 ·obtain rfl := sj H
  exact selvageref08_SameTrace_2.F.run tb mixed [br h_5, pF] rfl (by kernel_rfl)
def selvageref08_SameTrace_2.k (a_1 : Int) (a_2 : Int) (a_3 : List api_Act) (a_4 : Nat) : Option (Bool) :=
 if a_1 = a_2 then ((selvageref08_Same_2.k ([] : List api_Act) a_3 a_4).bind fun r_6 => some r_6) else (some false)
theorem selvageref08_SameTrace_2.k_le (a_1 : Int) (a_2 : Int) (a_3 : List api_Act) (a_4 : Nat) : OLe (selvageref08_SameTrace_2.k a_1 a_2 a_3 a_4) (selvageref08_SameTrace_2.m a_1 a_2 a_3 a_4) := by
 unfold selvageref08_SameTrace_2.k selvageref08_SameTrace_2.m
 repeat' with_reducible first | refine OLe.lt (fun _ => ?_) | refine OLe.lp (fun _ => ?_) | refine OLe.bind ?_ (fun _ => ?_) | refine OLe.ite ?_ ?_ | exact OLe.rfl' | split | exact selvageref08_Same_2.k_le ..
noncomputable def selvagelaw12_awake.F : FI Try.prog 7 := fi Try.f7 30 Try.call7 Try.func7
def selvagelaw12_awake.m : Option (Bool) :=
 (fold_Fold.m ([(api_Ins.mk 1 0 0 0 0 0 2 0), (api_Ins.mk 1 1 0 0 0 0 3 0), (api_Ins.mk 2 2 0 1 0 0 0 0), (api_Ins.mk 15 0 2 0 0 0 0 0), (api_Ins.mk 18 0 0 0 0 0 0 0)] : List api_Ins) ([] : List api_Loc)).bind fun r_1 => match r_1 with | Sum.inl r_3 => (if (r_3.length : Int) = 3 then ((tree_Run.m r_3 ([] : List api_Loc) ([] : List Int)).bind fun r_6 => match r_6 with | Sum.inl r_8 => ((selvageref08_SameTrace.m r_8.2 1 r_8.1 ([(api_Act.mk 6 0 0 5)] : List api_Act) 1).bind fun r_10 => some r_10) | Sum.inr (r_9) => ((selvageref08_SameTrace_2.m 0 1 ([(api_Act.mk 6 0 0 5)] : List api_Act) 1).bind fun r_12 => some r_12)) else (some false)) | Sum.inr (r_4) => (some false)
noncomputable def selvagelaw12_awake.o (r : Bool) : Out := .ret (.v (.bool r)) [] []
theorem selvagelaw12_awake.ev {r : Bool} (H : selvagelaw12_awake.m = some r) : Ev Try.prog 7 [] [] [] (selvagelaw12_awake.o r) := by
 unfold selvagelaw12_awake.m at H
 obtain ⟨r_1, e_2, H⟩ := bdE H
 rcases r_1 with r_3 | r_4
 ·rcases ic H with ⟨h_5, H⟩ | ⟨h_5, H⟩
  ·obtain ⟨r_6, e_7, H⟩ := bdE H
   rcases r_6 with r_8 | r_9
   ·obtain ⟨r_10, e_11, H⟩ := bdE H
    obtain rfl := sj H
    exact selvagelaw12_awake.F.run tb mixed [here 2, frz 0 [1] [], ron 1 none api_Ins.c ([(api_Ins.mk 1 0 0 0 0 0 2 0), (api_Ins.mk 1 1 0 0 0 0 3 0), (api_Ins.mk 2 2 0 1 0 0 0 0), (api_Ins.mk 15 0 2 0 0 0 0 0), (api_Ins.mk 18 0 0 0 0 0 0 0)] : List api_Ins), ca [] (Ev.nz (c := false) (k := 2) 1 (fold_Fold.ev e_2) (by kernel_rfl)), here 3, frz 1 [2] [], au, pT, br h_5, ca [] (Ev.nz (c := false) (k := 1) 2 (Ev.nz (c := false) (k := 2) 1 (tree_Run.ev e_7) (by kernel_rfl)) (by kernel_rfl)), ca [4, 5] (selvageref08_SameTrace.ev e_11), pT] rfl (by kernel_rfl)
   ·obtain ⟨r_12, e_13, H⟩ := bdE H
    obtain rfl := sj H
    exact selvagelaw12_awake.F.run tb mixed [here 2, frz 0 [1] [], ron 1 none api_Ins.c ([(api_Ins.mk 1 0 0 0 0 0 2 0), (api_Ins.mk 1 1 0 0 0 0 3 0), (api_Ins.mk 2 2 0 1 0 0 0 0), (api_Ins.mk 15 0 2 0 0 0 0 0), (api_Ins.mk 18 0 0 0 0 0 0 0)] : List api_Ins), ca [] (Ev.nz (c := false) (k := 2) 1 (fold_Fold.ev e_2) (by kernel_rfl)), here 3, frz 1 [2] [], au, pT, br h_5, ca [] (Ev.nz (c := false) (k := 1) 2 (Ev.nz (c := false) (k := 2) 1 (tree_Run.ev e_7) (by kernel_rfl)) (by kernel_rfl)), ca [2] (selvageref08_SameTrace_2.ev e_13), pT] rfl (by kernel_rfl)
  ·obtain rfl := sj H
   exact selvagelaw12_awake.F.run tb mixed [here 2, frz 0 [1] [], ron 1 none api_Ins.c ([(api_Ins.mk 1 0 0 0 0 0 2 0), (api_Ins.mk 1 1 0 0 0 0 3 0), (api_Ins.mk 2 2 0 1 0 0 0 0), (api_Ins.mk 15 0 2 0 0 0 0 0), (api_Ins.mk 18 0 0 0 0 0 0 0)] : List api_Ins), ca [] (Ev.nz (c := false) (k := 2) 1 (fold_Fold.ev e_2) (by kernel_rfl)), here 3, frz 1 [2] [], au, pT, br h_5, pF] rfl (by kernel_rfl)
 ·obtain rfl := sj H
  exact selvagelaw12_awake.F.run tb mixed [here 2, frz 0 [1] [], ron 1 none api_Ins.c ([(api_Ins.mk 1 0 0 0 0 0 2 0), (api_Ins.mk 1 1 0 0 0 0 3 0), (api_Ins.mk 2 2 0 1 0 0 0 0), (api_Ins.mk 15 0 2 0 0 0 0 0), (api_Ins.mk 18 0 0 0 0 0 0 0)] : List api_Ins), ca [] (Ev.nz (c := false) (k := 2) 1 (fold_Fold.ev e_2) (by kernel_rfl)), au, pF, au, pF] rfl (by kernel_rfl)
def selvagelaw12_awake.k : Option (Bool) :=
 (fold_Fold.k ([(api_Ins.mk 1 0 0 0 0 0 2 0), (api_Ins.mk 1 1 0 0 0 0 3 0), (api_Ins.mk 2 2 0 1 0 0 0 0), (api_Ins.mk 15 0 2 0 0 0 0 0), (api_Ins.mk 18 0 0 0 0 0 0 0)] : List api_Ins) ([] : List api_Loc)).bind fun r_1 => match r_1 with | Sum.inl r_3 => (if (r_3.length : Int) = 3 then ((tree_Run.k r_3 ([] : List api_Loc) ([] : List Int)).bind fun r_6 => match r_6 with | Sum.inl r_8 => ((selvageref08_SameTrace.k r_8.2 1 r_8.1 ([(api_Act.mk 6 0 0 5)] : List api_Act) 1).bind fun r_10 => some r_10) | Sum.inr (r_9) => ((selvageref08_SameTrace_2.k 0 1 ([(api_Act.mk 6 0 0 5)] : List api_Act) 1).bind fun r_12 => some r_12)) else (some false)) | Sum.inr (r_4) => (some false)
theorem selvagelaw12_awake.k_le : OLe (selvagelaw12_awake.k ) (selvagelaw12_awake.m ) := by
 unfold selvagelaw12_awake.k selvagelaw12_awake.m
 repeat' with_reducible first | refine OLe.lt (fun _ => ?_) | refine OLe.lp (fun _ => ?_) | refine OLe.bind ?_ (fun _ => ?_) | refine OLe.ite ?_ ?_ | exact OLe.rfl' | split | exact fold_Fold.k_le .. | exact tree_Run.k_le .. | exact selvageref08_SameTrace.k_le .. | exact selvageref08_SameTrace_2.k_le ..
 all_goals (exfalso; simp_all)
theorem selvagelaw12_awake_eq : selvagelaw12_awake.m = some true := selvagelaw12_awake.k_le.to (by kernel_rfl)
noncomputable def selvageref08_Same_3.F : FI Try.prog 24 := fi Try.f24 26 Try.call24 Try.func24
def selvageref08_Same_3.l1 (a_1 : List api_Act) (a_2 : List api_Act) (s_6 : Int) : Option (Int ⊕ (Unit ⊕ Unit)) :=
 if s_6 < (a_1.length : Int) then (if 0 ≤ s_6 ∧ s_6 < (a_1.length : Int) then (letC (gi a_1 s_6) fun v_14 => if 0 ≤ s_6 ∧ s_6 < (a_2.length : Int) then (letC (gi a_2 s_6) fun v_16 => if ((v_14.Kind == v_16.Kind) && ((v_14.Loc == v_16.Loc) && ((v_14.Old == v_16.Old) && ((v_14.New == v_16.New) && true)))) = true then (some (Sum.inl (wr .i64 (s_6 + 1)))) else (some (Sum.inr (Sum.inl ())))) else none) else none) else (some (Sum.inr (Sum.inr (()))))
def selvageref08_Same_3.m (a_1 : List api_Act) (a_2 : List api_Act) : Option (Bool) :=
 if (a_1.length : Int) = (a_2.length : Int) then ((B.loop (selvageref08_Same_3.l1 a_1 a_2) (0 : Int)).bind fun o_7 => match o_7 with | Sum.inl s_10 => (some false) | Sum.inr (s_11) => (some true)) else (some false)
noncomputable def selvageref08_Same_3.o (a_1 : List api_Act) (a_2 : List api_Act) (r : Bool) : Out := .ret (.v (.bool r)) [.arr true 44 4 a_1.length (a_1.map api_Act.c), .arr true 44 4 a_2.length (a_2.map api_Act.c)] []
theorem selvageref08_Same_3.ev {a_1 : List api_Act} {a_2 : List api_Act} {r : Bool} (H : selvageref08_Same_3.m a_1 a_2 = some r) : Ev Try.prog 24 [sL 0 a_1, sL 1 a_2] [.arr true 44 4 a_1.length (a_1.map api_Act.c), .arr true 44 4 a_2.length (a_2.map api_Act.c)] [] (selvageref08_Same_3.o a_1 a_2 r) := by
 unfold selvageref08_Same_3.m at H
 rcases ic H with ⟨h_3, H⟩ | ⟨h_3, H⟩
 ·obtain ⟨o_7, e_8, H⟩ := bdE H
  have j_9 := Runs.loop (P := Try.prog) (N := selvageref08_Same_3.F.N) (m0 := 2) (c := sub_ selvageref08_Same_3.F.c [1, 1, 0, 1, 0, 0]) (f := (selvageref08_Same_3.l1 a_1 a_2)) (St := fun s_6 => ⟨[(0, sL 0 a_1), (1, sL 1 a_2), (5, vi s_6)], [.arr true 44 4 a_1.length (a_1.map api_Act.c), .arr true 44 4 a_2.length (a_2.map api_Act.c)], []⟩) (xo := (fun o => match o with | Sum.inl _ => .ret | Sum.inr (_) => (.exit 0) : (Unit ⊕ Unit) → Ex)) (So := (fun o => match o with | Sum.inl s_10 => ⟨[(4, .v (.bool false))], [.arr true 44 4 a_1.length (a_1.map api_Act.c), .arr true 44 4 a_2.length (a_2.map api_Act.c)], []⟩ | Sum.inr (s_11) => ⟨[], [.arr true 44 4 a_1.length (a_1.map api_Act.c), .arr true 44 4 a_2.length (a_2.map api_Act.c)], []⟩ : (Unit ⊕ Unit) → ASt)) (by intro o; rcases o with _ | _ <;> simp) (fun s_6 z H => by
   unfold selvageref08_Same_3.l1 at H
   rcases ic H with ⟨h_12, H⟩ | ⟨h_12, H⟩
   ·obtain ⟨g_13, H⟩ := gdE H
    let v_14 : api_Act := gi a_1 s_6
    replace H := ltD H
    obtain ⟨g_15, H⟩ := gdE H
    let v_16 : api_Act := gi a_2 s_6
    replace H := ltD H
    rcases ie H with ⟨h_17, H⟩ | ⟨h_17, H⟩
    ·obtain rfl := sj H
     exact fn [br h_12, pf g_13, el api_Act.c g_13, pf g_15, el api_Act.c g_15, eqs (P := Try.prog) (xt := 44) ⟨by kernel_rfl, by kernel_rfl⟩, bn h_17]
    ·obtain rfl := sj H
     exact fn [br h_12, pf g_13, el api_Act.c g_13, pf g_15, el api_Act.c g_15, eqs (P := Try.prog) (xt := 44) ⟨by kernel_rfl, by kernel_rfl⟩, bn h_17]
   ·obtain rfl := sj H
    exact fn [br h_12] (by kernel_rfl)) e_8
  rcases o_7 with s_10 | s_11
  ·obtain rfl := sj H
   exact selvageref08_Same_3.F.run tb mixed [bn h_3, su j_9] rfl (by kernel_rfl)
  ·obtain rfl := sj H
   exact selvageref08_Same_3.F.run tb mixed [bn h_3, su j_9] rfl (by kernel_rfl)
 ·obtain rfl := sj H
  exact selvageref08_Same_3.F.run tb mixed [bn h_3] rfl (by kernel_rfl)
noncomputable def selvageref08_SameTrace_3.F : FI Try.prog 12 := fi Try.f12 17 Try.call12 Try.func12
def selvageref08_SameTrace_3.m (a_1 : Int) (a_2 : Int) (a_3 : List api_Act) (a_4 : List api_Act) : Option (Bool) :=
 if a_1 = a_2 then ((selvageref08_Same_3.m a_3 a_4).bind fun r_6 => some r_6) else (some false)
noncomputable def selvageref08_SameTrace_3.o (a_1 : Int) (a_2 : Int) (a_3 : List api_Act) (a_4 : List api_Act) (r : Bool) : Out := .ret (.v (.bool r)) [.arr true 44 4 a_3.length (a_3.map api_Act.c), .arr true 44 4 a_4.length (a_4.map api_Act.c)] []
theorem selvageref08_SameTrace_3.ev {a_1 : Int} {a_2 : Int} {a_3 : List api_Act} {a_4 : List api_Act} {r : Bool} (H : selvageref08_SameTrace_3.m a_1 a_2 a_3 a_4 = some r) : Ev Try.prog 12 [.agg [sL 0 a_3, vi a_1], .agg [sL 1 a_4, vi a_2]] [.arr true 44 4 a_3.length (a_3.map api_Act.c), .arr true 44 4 a_4.length (a_4.map api_Act.c)] [] (selvageref08_SameTrace_3.o a_1 a_2 a_3 a_4 r) := by
 unfold selvageref08_SameTrace_3.m at H
 rcases ic H with ⟨h_5, H⟩ | ⟨h_5, H⟩
 ·obtain ⟨r_6, e_7, H⟩ := bdE H
  obtain rfl := sj H
  exact selvageref08_SameTrace_3.F.run tb mixed [br h_5, ca [0, 1] (selvageref08_Same_3.ev e_7), pT] rfl (by kernel_rfl)
 ·obtain rfl := sj H
  exact selvageref08_SameTrace_3.F.run tb mixed [br h_5, pF] rfl (by kernel_rfl)
noncomputable def selvageref08_Same_4.F : FI Try.prog 24 := fi Try.f24 26 Try.call24 Try.func24
def selvageref08_Same_4.l1 (a_1 : List api_Act) (a_2 : List api_Act) (s_6 : Int) : Option (Int ⊕ (Unit ⊕ Unit)) :=
 if s_6 < (a_2.length : Int) then (if 0 ≤ s_6 ∧ s_6 < (a_2.length : Int) then (letC (gi a_2 s_6) fun v_14 => if 0 ≤ s_6 ∧ s_6 < (a_1.length : Int) then (letC (gi a_1 s_6) fun v_16 => if ((v_14.Kind == v_16.Kind) && ((v_14.Loc == v_16.Loc) && ((v_14.Old == v_16.Old) && ((v_14.New == v_16.New) && true)))) = true then (some (Sum.inl (wr .i64 (s_6 + 1)))) else (some (Sum.inr (Sum.inl ())))) else none) else none) else (some (Sum.inr (Sum.inr (()))))
def selvageref08_Same_4.m (a_1 : List api_Act) (a_2 : List api_Act) : Option (Bool) :=
 if (a_2.length : Int) = (a_1.length : Int) then ((B.loop (selvageref08_Same_4.l1 a_1 a_2) (0 : Int)).bind fun o_7 => match o_7 with | Sum.inl s_10 => (some false) | Sum.inr (s_11) => (some true)) else (some false)
noncomputable def selvageref08_Same_4.o (a_1 : List api_Act) (a_2 : List api_Act) (r : Bool) : Out := .ret (.v (.bool r)) [.arr true 44 4 a_2.length (a_2.map api_Act.c)] []
theorem selvageref08_Same_4.ev {a_1 : List api_Act} {a_2 : List api_Act} {r : Bool} (H : selvageref08_Same_4.m a_1 a_2 = some r) : Ev Try.prog 24 [sL 0 a_2, .ro false 4 a_1.length (a_1.map api_Act.c)] [.arr true 44 4 a_2.length (a_2.map api_Act.c)] [] (selvageref08_Same_4.o a_1 a_2 r) := by
 unfold selvageref08_Same_4.m at H
 rcases ic H with ⟨h_3, H⟩ | ⟨h_3, H⟩
 ·obtain ⟨o_7, e_8, H⟩ := bdE H
  have j_9 := Runs.loop (P := Try.prog) (N := selvageref08_Same_4.F.N) (m0 := 1) (c := sub_ selvageref08_Same_4.F.c [1, 1, 0, 1, 0, 0]) (f := (selvageref08_Same_4.l1 a_1 a_2)) (St := fun s_6 => ⟨[(0, sL 0 a_2), (1, .ro false 4 a_1.length (a_1.map api_Act.c)), (5, vi s_6)], [.arr true 44 4 a_2.length (a_2.map api_Act.c)], []⟩) (xo := (fun o => match o with | Sum.inl _ => .ret | Sum.inr (_) => (.exit 0) : (Unit ⊕ Unit) → Ex)) (So := (fun o => match o with | Sum.inl s_10 => ⟨[(4, .v (.bool false))], [.arr true 44 4 a_2.length (a_2.map api_Act.c)], []⟩ | Sum.inr (s_11) => ⟨[], [.arr true 44 4 a_2.length (a_2.map api_Act.c)], []⟩ : (Unit ⊕ Unit) → ASt)) (by intro o; rcases o with _ | _ <;> simp) (fun s_6 z H => by
   unfold selvageref08_Same_4.l1 at H
   rcases ic H with ⟨h_12, H⟩ | ⟨h_12, H⟩
   ·obtain ⟨g_13, H⟩ := gdE H
    let v_14 : api_Act := gi a_2 s_6
    replace H := ltD H
    obtain ⟨g_15, H⟩ := gdE H
    let v_16 : api_Act := gi a_1 s_6
    replace H := ltD H
    rcases ie H with ⟨h_17, H⟩ | ⟨h_17, H⟩
    ·obtain rfl := sj H
     exact fn [br h_12, pf g_13, el api_Act.c g_13, ix api_Act.c g_15, eqs (P := Try.prog) (xt := 44) ⟨by kernel_rfl, by kernel_rfl⟩, bn h_17]
    ·obtain rfl := sj H
     exact fn [br h_12, pf g_13, el api_Act.c g_13, ix api_Act.c g_15, eqs (P := Try.prog) (xt := 44) ⟨by kernel_rfl, by kernel_rfl⟩, bn h_17]
   ·obtain rfl := sj H
    exact fn [br h_12] (by kernel_rfl)) e_8
  rcases o_7 with s_10 | s_11
  ·obtain rfl := sj H
   exact selvageref08_Same_4.F.run tb mixed [bn h_3, su j_9] rfl (by kernel_rfl)
  ·obtain rfl := sj H
   exact selvageref08_Same_4.F.run tb mixed [bn h_3, su j_9] rfl (by kernel_rfl)
 ·obtain rfl := sj H
  exact selvageref08_Same_4.F.run tb mixed [bn h_3] rfl (by kernel_rfl)
noncomputable def selvageref08_SameTrace_4.F : FI Try.prog 12 := fi Try.f12 17 Try.call12 Try.func12
def selvageref08_SameTrace_4.m (a_1 : Int) (a_2 : Int) (a_3 : List api_Act) : Option (Bool) :=
 if a_1 = a_2 then ((selvageref08_Same_4.m ([] : List api_Act) a_3).bind fun r_5 => some r_5) else (some false)
noncomputable def selvageref08_SameTrace_4.o (a_1 : Int) (a_2 : Int) (a_3 : List api_Act) (r : Bool) : Out := .ret (.v (.bool r)) [.arr true 44 4 a_3.length (a_3.map api_Act.c)] []
theorem selvageref08_SameTrace_4.ev {a_1 : Int} {a_2 : Int} {a_3 : List api_Act} {r : Bool} (H : selvageref08_SameTrace_4.m a_1 a_2 a_3 = some r) : Ev Try.prog 12 [.agg [sL 0 a_3, vi a_1], .agg [.v (.slice none 0 0), vi a_2]] [.arr true 44 4 a_3.length (a_3.map api_Act.c)] [] (selvageref08_SameTrace_4.o a_1 a_2 a_3 r) := by
 unfold selvageref08_SameTrace_4.m at H
 rcases ic H with ⟨h_4, H⟩ | ⟨h_4, H⟩
 ·obtain ⟨r_5, e_6, H⟩ := bdE H
  obtain rfl := sj H
  exact selvageref08_SameTrace_4.F.run tb mixed [br h_4, ca [0] (Ev.nz (c := false) (k := 4) 1 (selvageref08_Same_4.ev e_6) (by kernel_rfl)), pT] rfl (by kernel_rfl)
 ·obtain rfl := sj H
  exact selvageref08_SameTrace_4.F.run tb mixed [br h_4, pF] rfl (by kernel_rfl)
noncomputable def selvageref08_Same_5.F : FI Try.prog 24 := fi Try.f24 26 Try.call24 Try.func24
def selvageref08_Same_5.l1 (a_1 : List api_Act) (a_2 : List api_Act) (s_6 : Int) : Option (Int ⊕ (Unit ⊕ Unit)) :=
 if s_6 < (a_1.length : Int) then (if 0 ≤ s_6 ∧ s_6 < (a_1.length : Int) then (letC (gi a_1 s_6) fun v_14 => if 0 ≤ s_6 ∧ s_6 < (a_2.length : Int) then (letC (gi a_2 s_6) fun v_16 => if ((v_14.Kind == v_16.Kind) && ((v_14.Loc == v_16.Loc) && ((v_14.Old == v_16.Old) && ((v_14.New == v_16.New) && true)))) = true then (some (Sum.inl (wr .i64 (s_6 + 1)))) else (some (Sum.inr (Sum.inl ())))) else none) else none) else (some (Sum.inr (Sum.inr (()))))
def selvageref08_Same_5.m (a_1 : List api_Act) (a_2 : List api_Act) : Option (Bool) :=
 if (a_1.length : Int) = (a_2.length : Int) then ((B.loop (selvageref08_Same_5.l1 a_1 a_2) (0 : Int)).bind fun o_7 => match o_7 with | Sum.inl s_10 => (some false) | Sum.inr (s_11) => (some true)) else (some false)
noncomputable def selvageref08_Same_5.o (a_1 : List api_Act) (a_2 : List api_Act) (r : Bool) : Out := .ret (.v (.bool r)) [.arr true 44 4 a_2.length (a_2.map api_Act.c)] []
theorem selvageref08_Same_5.ev {a_1 : List api_Act} {a_2 : List api_Act} {r : Bool} (H : selvageref08_Same_5.m a_1 a_2 = some r) : Ev Try.prog 24 [.ro false 4 a_1.length (a_1.map api_Act.c), sL 0 a_2] [.arr true 44 4 a_2.length (a_2.map api_Act.c)] [] (selvageref08_Same_5.o a_1 a_2 r) := by
 unfold selvageref08_Same_5.m at H
 rcases ic H with ⟨h_3, H⟩ | ⟨h_3, H⟩
 ·obtain ⟨o_7, e_8, H⟩ := bdE H
  have j_9 := Runs.loop (P := Try.prog) (N := selvageref08_Same_5.F.N) (m0 := 1) (c := sub_ selvageref08_Same_5.F.c [1, 1, 0, 1, 0, 0]) (f := (selvageref08_Same_5.l1 a_1 a_2)) (St := fun s_6 => ⟨[(0, .ro false 4 a_1.length (a_1.map api_Act.c)), (1, sL 0 a_2), (5, vi s_6)], [.arr true 44 4 a_2.length (a_2.map api_Act.c)], []⟩) (xo := (fun o => match o with | Sum.inl _ => .ret | Sum.inr (_) => (.exit 0) : (Unit ⊕ Unit) → Ex)) (So := (fun o => match o with | Sum.inl s_10 => ⟨[(4, .v (.bool false))], [.arr true 44 4 a_2.length (a_2.map api_Act.c)], []⟩ | Sum.inr (s_11) => ⟨[], [.arr true 44 4 a_2.length (a_2.map api_Act.c)], []⟩ : (Unit ⊕ Unit) → ASt)) (by intro o; rcases o with _ | _ <;> simp) (fun s_6 z H => by
   unfold selvageref08_Same_5.l1 at H
   rcases ic H with ⟨h_12, H⟩ | ⟨h_12, H⟩
   ·obtain ⟨g_13, H⟩ := gdE H
    let v_14 : api_Act := gi a_1 s_6
    replace H := ltD H
    obtain ⟨g_15, H⟩ := gdE H
    let v_16 : api_Act := gi a_2 s_6
    replace H := ltD H
    rcases ie H with ⟨h_17, H⟩ | ⟨h_17, H⟩
    ·obtain rfl := sj H
     exact fn [br h_12, ix api_Act.c g_13, pf g_15, el api_Act.c g_15, eqs (P := Try.prog) (xt := 44) ⟨by kernel_rfl, by kernel_rfl⟩, bn h_17]
    ·obtain rfl := sj H
     exact fn [br h_12, ix api_Act.c g_13, pf g_15, el api_Act.c g_15, eqs (P := Try.prog) (xt := 44) ⟨by kernel_rfl, by kernel_rfl⟩, bn h_17]
   ·obtain rfl := sj H
    exact fn [br h_12] (by kernel_rfl)) e_8
  rcases o_7 with s_10 | s_11
  ·obtain rfl := sj H
   exact selvageref08_Same_5.F.run tb mixed [bn h_3, su j_9] rfl (by kernel_rfl)
  ·obtain rfl := sj H
   exact selvageref08_Same_5.F.run tb mixed [bn h_3, su j_9] rfl (by kernel_rfl)
 ·obtain rfl := sj H
  exact selvageref08_Same_5.F.run tb mixed [bn h_3] rfl (by kernel_rfl)
noncomputable def selvageref08_SameTrace_5.F : FI Try.prog 12 := fi Try.f12 17 Try.call12 Try.func12
def selvageref08_SameTrace_5.m (a_1 : Int) (a_2 : Int) (a_3 : List api_Act) : Option (Bool) :=
 if a_1 = a_2 then ((selvageref08_Same_5.m ([] : List api_Act) a_3).bind fun r_5 => some r_5) else (some false)
noncomputable def selvageref08_SameTrace_5.o (a_1 : Int) (a_2 : Int) (a_3 : List api_Act) (r : Bool) : Out := .ret (.v (.bool r)) [.arr true 44 4 a_3.length (a_3.map api_Act.c)] []
theorem selvageref08_SameTrace_5.ev {a_1 : Int} {a_2 : Int} {a_3 : List api_Act} {r : Bool} (H : selvageref08_SameTrace_5.m a_1 a_2 a_3 = some r) : Ev Try.prog 12 [.agg [.v (.slice none 0 0), vi a_1], .agg [sL 0 a_3, vi a_2]] [.arr true 44 4 a_3.length (a_3.map api_Act.c)] [] (selvageref08_SameTrace_5.o a_1 a_2 a_3 r) := by
 unfold selvageref08_SameTrace_5.m at H
 rcases ic H with ⟨h_4, H⟩ | ⟨h_4, H⟩
 ·obtain ⟨r_5, e_6, H⟩ := bdE H
  obtain rfl := sj H
  exact selvageref08_SameTrace_5.F.run tb mixed [br h_4, ca [0] (Ev.nz (c := false) (k := 4) 0 (selvageref08_Same_5.ev e_6) (by kernel_rfl)), pT] rfl (by kernel_rfl)
 ·obtain rfl := sj H
  exact selvageref08_SameTrace_5.F.run tb mixed [br h_4, pF] rfl (by kernel_rfl)
noncomputable def selvageref08_Same_6.F : FI Try.prog 24 := fi Try.f24 26 Try.call24 Try.func24
def selvageref08_Same_6.l1 (a_1 : List api_Act) (a_2 : List api_Act) (s_6 : Int) : Option (Int ⊕ (Unit ⊕ Unit)) :=
 if s_6 < (a_1.length : Int) then (if 0 ≤ s_6 ∧ s_6 < (a_1.length : Int) then (letC (gi a_1 s_6) fun v_14 => if 0 ≤ s_6 ∧ s_6 < (a_2.length : Int) then (letC (gi a_2 s_6) fun v_16 => if ((v_14.Kind == v_16.Kind) && ((v_14.Loc == v_16.Loc) && ((v_14.Old == v_16.Old) && ((v_14.New == v_16.New) && true)))) = true then (some (Sum.inl (wr .i64 (s_6 + 1)))) else (some (Sum.inr (Sum.inl ())))) else none) else none) else (some (Sum.inr (Sum.inr (()))))
def selvageref08_Same_6.m (a_1 : List api_Act) (a_2 : List api_Act) : Option (Bool) :=
 if (a_1.length : Int) = (a_2.length : Int) then ((B.loop (selvageref08_Same_6.l1 a_1 a_2) (0 : Int)).bind fun o_7 => match o_7 with | Sum.inl s_10 => (some false) | Sum.inr (s_11) => (some true)) else (some false)
noncomputable def selvageref08_Same_6.o (a_1 : List api_Act) (a_2 : List api_Act) (r : Bool) : Out := .ret (.v (.bool r)) [] []
theorem selvageref08_Same_6.ev {a_1 : List api_Act} {a_2 : List api_Act} {r : Bool} (H : selvageref08_Same_6.m a_1 a_2 = some r) : Ev Try.prog 24 [.ro false 4 a_1.length (a_1.map api_Act.c), .ro false 4 a_2.length (a_2.map api_Act.c)] [] [] (selvageref08_Same_6.o a_1 a_2 r) := by
 unfold selvageref08_Same_6.m at H
 rcases ic H with ⟨h_3, H⟩ | ⟨h_3, H⟩
 ·obtain ⟨o_7, e_8, H⟩ := bdE H
  have j_9 := Runs.loop (P := Try.prog) (N := selvageref08_Same_6.F.N) (m0 := 0) (c := sub_ selvageref08_Same_6.F.c [1, 1, 0, 1, 0, 0]) (f := (selvageref08_Same_6.l1 a_1 a_2)) (St := fun s_6 => ⟨[(0, .ro false 4 a_1.length (a_1.map api_Act.c)), (1, .ro false 4 a_2.length (a_2.map api_Act.c)), (5, vi s_6)], [], []⟩) (xo := (fun o => match o with | Sum.inl _ => .ret | Sum.inr (_) => (.exit 0) : (Unit ⊕ Unit) → Ex)) (So := (fun o => match o with | Sum.inl s_10 => ⟨[(4, .v (.bool false))], [], []⟩ | Sum.inr (s_11) => ⟨[], [], []⟩ : (Unit ⊕ Unit) → ASt)) (by intro o; rcases o with _ | _ <;> simp) (fun s_6 z H => by
   unfold selvageref08_Same_6.l1 at H
   rcases ic H with ⟨h_12, H⟩ | ⟨h_12, H⟩
   ·obtain ⟨g_13, H⟩ := gdE H
    let v_14 : api_Act := gi a_1 s_6
    replace H := ltD H
    obtain ⟨g_15, H⟩ := gdE H
    let v_16 : api_Act := gi a_2 s_6
    replace H := ltD H
    rcases ie H with ⟨h_17, H⟩ | ⟨h_17, H⟩
    ·obtain rfl := sj H
     exact fn [br h_12, ix api_Act.c g_13, ix api_Act.c g_15, eqs (P := Try.prog) (xt := 44) ⟨by kernel_rfl, by kernel_rfl⟩, bn h_17]
    ·obtain rfl := sj H
     exact fn [br h_12, ix api_Act.c g_13, ix api_Act.c g_15, eqs (P := Try.prog) (xt := 44) ⟨by kernel_rfl, by kernel_rfl⟩, bn h_17]
   ·obtain rfl := sj H
    exact fn [br h_12] (by kernel_rfl)) e_8
  rcases o_7 with s_10 | s_11
  ·obtain rfl := sj H
   exact selvageref08_Same_6.F.run tb mixed [bn h_3, su j_9] rfl (by kernel_rfl)
  ·obtain rfl := sj H
   exact selvageref08_Same_6.F.run tb mixed [bn h_3, su j_9] rfl (by kernel_rfl)
 ·obtain rfl := sj H
  exact selvageref08_Same_6.F.run tb mixed [bn h_3] rfl (by kernel_rfl)
noncomputable def selvageref08_SameTrace_6.F : FI Try.prog 12 := fi Try.f12 17 Try.call12 Try.func12
def selvageref08_SameTrace_6.m (a_1 : Int) (a_2 : Int) : Option (Bool) :=
 if a_1 = a_2 then ((selvageref08_Same_6.m ([] : List api_Act) ([] : List api_Act)).bind fun r_4 => some r_4) else (some false)
noncomputable def selvageref08_SameTrace_6.o (a_1 : Int) (a_2 : Int) (r : Bool) : Out := .ret (.v (.bool r)) [] []
theorem selvageref08_SameTrace_6.ev {a_1 : Int} {a_2 : Int} {r : Bool} (H : selvageref08_SameTrace_6.m a_1 a_2 = some r) : Ev Try.prog 12 [.agg [.v (.slice none 0 0), vi a_1], .agg [.v (.slice none 0 0), vi a_2]] [] [] (selvageref08_SameTrace_6.o a_1 a_2 r) := by
 unfold selvageref08_SameTrace_6.m at H
 rcases ic H with ⟨h_3, H⟩ | ⟨h_3, H⟩
 ·obtain ⟨r_4, e_5, H⟩ := bdE H
  obtain rfl := sj H
  exact selvageref08_SameTrace_6.F.run tb mixed [br h_3, ca [] (Ev.nz (c := false) (k := 4) 1 (Ev.nz (c := false) (k := 4) 0 (selvageref08_Same_6.ev e_5) (by kernel_rfl)) (by kernel_rfl)), pT] rfl (by kernel_rfl)
 ·obtain rfl := sj H
  exact selvageref08_SameTrace_6.F.run tb mixed [br h_3, pF] rfl (by kernel_rfl)
end Go.Proofs.Ytbdbmklkgjbehaa
