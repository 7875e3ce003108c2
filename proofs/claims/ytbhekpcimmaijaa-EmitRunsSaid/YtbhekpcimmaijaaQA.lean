/- QA: several texts in one. -/
import Derived.Test.YtbhekpcimmaijaaProg
import Derived.Test.YtbhekpcimmaijaaLE
set_option linter.unusedVariables false
set_option linter.unusedSimpArgs false
set_option linter.unusedSectionVars false
set_option maxRecDepth 100000
namespace Go.Proofs.Ytbhekpcimmaijaa
open Go Go.RowKit Go.Proofs Go.Proofs.Ytbhekpcimmaijaa.X
open Go.Proofs.Ytbhekpcimmaijaa.B (wr sb feq fls qf flt i2f aget aset isnan isnan_flt)
theorem mixed : Try.prog.follows .mixedOrders = true := by kernel_rfl
structure api_Ins where
 Op : Int
 D : Int
 A : Int
 B : Int
 Loc : Int
 Len : Int
 K : Int
 To : Int
 deriving Inhabited, DecidableEq
def api_Ins.c (x : api_Ins) : List AV := [.v (.int .i64 x.Op), .v (.int .i64 x.D), .v (.int .i64 x.A), .v (.int .i64 x.B), .v (.int .i64 x.Loc), .v (.int .i64 x.Len), .v (.int .i64 x.K), .v (.int .i64 x.To)]
def api_Ins.v (x : api_Ins) : AV := .agg (api_Ins.c x)
structure api_Loc where
 Atomic : Bool
 Init : Int
 deriving Inhabited, DecidableEq
def api_Loc.c (x : api_Loc) : List AV := [.v (.bool x.Atomic), .v (.int .i64 x.Init)]
def api_Loc.v (x : api_Loc) : AV := .agg (api_Loc.c x)
structure tree_uses where
 d : Bool
 a : Bool
 b : Bool
 k : Bool
 to_ : Bool
 place : Bool
 row : Bool
 atomic : Bool
 deriving Inhabited, DecidableEq
def tree_uses.c (x : tree_uses) : List AV := [.v (.bool x.d), .v (.bool x.a), .v (.bool x.b), .v (.bool x.k), .v (.bool x.to_), .v (.bool x.place), .v (.bool x.row), .v (.bool x.atomic)]
def tree_uses.v (x : tree_uses) : AV := .agg (tree_uses.c x)
structure api_Home where
 Reg : Int
 Slot : Int
 deriving Inhabited, DecidableEq
def api_Home.c (x : api_Home) : List AV := [.v (.int .i64 x.Reg), .v (.int .i64 x.Slot)]
def api_Home.v (x : api_Home) : AV := .agg (api_Home.c x)
structure alloc_span where
 temp : Int
 from_ : Int
 to_ : Int
 uses : Int
 deriving Inhabited, DecidableEq
def alloc_span.c (x : alloc_span) : List AV := [.v (.int .i64 x.temp), .v (.int .i64 x.from_), .v (.int .i64 x.to_), .v (.int .i64 x.uses)]
def alloc_span.v (x : alloc_span) : AV := .agg (alloc_span.c x)
structure api_Inst where
 Op : Int
 T : Int
 A : Int
 B : Int
 Imm : Int
 deriving Inhabited, DecidableEq
def api_Inst.c (x : api_Inst) : List AV := [.v (.int .i64 x.Op), .v (.int .i64 x.T), .v (.int .i64 x.A), .v (.int .i64 x.B), .v (.int .i64 x.Imm)]
def api_Inst.v (x : api_Inst) : AV := .agg (api_Inst.c x)
structure emit_jump where
 from_ : Int
 to_ : Int
 deriving Inhabited, DecidableEq
def emit_jump.c (x : emit_jump) : List AV := [.v (.int .i64 x.from_), .v (.int .i64 x.to_)]
def emit_jump.v (x : emit_jump) : AV := .agg (emit_jump.c x)
structure emit_writer where
 homes : List api_Home
 out : List api_Inst
 at_ : List Int
 jumps : List emit_jump
 deriving Inhabited, DecidableEq
def emit_writer.c (x : emit_writer) : List AV := [.ro false 2 x.homes.length (x.homes.map api_Home.c), .ro false 5 x.out.length (x.out.map api_Inst.c), .ro false 1 x.at_.length (x.at_.map (cI .i64)), .ro false 2 x.jumps.length (x.jumps.map emit_jump.c)]
def emit_writer.v (x : emit_writer) : AV := .agg (emit_writer.c x)
structure api_Event where
 Kind : Int
 Loc : Int
 Val : Int
 Pair : Int
 Addr : Int
 Data : Int
 Ctrl : Int
 Fenced : Int
 deriving Inhabited, DecidableEq
def api_Event.c (x : api_Event) : List AV := [.v (.int .i64 x.Kind), .v (.int .i64 x.Loc), .v (.int .i64 x.Val), .v (.int .i64 x.Pair), .v (.int .u64 x.Addr), .v (.int .u64 x.Data), .v (.int .u64 x.Ctrl), .v (.int .u64 x.Fenced)]
def api_Event.v (x : api_Event) : AV := .agg (api_Event.c x)
structure api_Run where
 Events : List api_Event
 Status : Int
 deriving Inhabited, DecidableEq
def api_Run.c (x : api_Run) : List AV := [.ro false 8 x.Events.length (x.Events.map api_Event.c), .v (.int .i64 x.Status)]
def api_Run.v (x : api_Run) : AV := .agg (api_Run.c x)
structure thread_cell where
 n : Int
 hang : Int
 deriving Inhabited, DecidableEq
def thread_cell.c (x : thread_cell) : List AV := [.v (.int .i64 x.n), .v (.int .u64 x.hang)]
def thread_cell.v (x : thread_cell) : AV := .agg (thread_cell.c x)
structure api_Act where
 Kind : Int
 Loc : Int
 Old : Int
 New : Int
 deriving Inhabited, DecidableEq
def api_Act.c (x : api_Act) : List AV := [.v (.int .i64 x.Kind), .v (.int .i64 x.Loc), .v (.int .i64 x.Old), .v (.int .i64 x.New)]
def api_Act.v (x : api_Act) : AV := .agg (api_Act.c x)
structure api_Trace where
 Acts : List api_Act
 Status : Int
 deriving Inhabited, DecidableEq
def api_Trace.c (x : api_Trace) : List AV := [.ro false 4 x.Acts.length (x.Acts.map api_Act.c), .v (.int .i64 x.Status)]
def api_Trace.v (x : api_Trace) : AV := .agg (api_Trace.c x)
noncomputable def tb : List (TE Try.prog) := [
 ⟨2, _, _, _, Try.runUnderlying2, Try.sizeOf2, Try.isAgg2, 8, .int .i64 0, by kernel_rfl⟩,
 ⟨3, _, _, _, Try.runUnderlying3, Try.sizeOf3, Try.isAgg3, 8, .int .i64 0, by kernel_rfl⟩,
 ⟨4, _, _, _, Try.runUnderlying4, Try.sizeOf4, Try.isAgg4, 1, .bool false, by kernel_rfl⟩,
 ⟨20, _, _, _, Try.runUnderlying20, Try.sizeOf20, Try.isAgg20, 16, .nilIface, by kernel_rfl⟩,
 ⟨22, _, _, _, Try.runUnderlying22, Try.sizeOf22, Try.isAgg22, 24, .slice none 0 0, by kernel_rfl⟩,
 ⟨23, _, _, _, Try.runUnderlying23, Try.sizeOf23, Try.isAgg23, 24, .slice none 0 0, by kernel_rfl⟩,
 ⟨27, _, _, _, Try.runUnderlying27, Try.sizeOf27, Try.isAgg27, 24, .slice none 0 0, by kernel_rfl⟩,
 ⟨28, _, _, _, Try.runUnderlying28, Try.sizeOf28, Try.isAgg28, 8, .int .i64 0, by kernel_rfl⟩,
 ⟨31, _, _, _, Try.runUnderlying31, Try.sizeOf31, Try.isAgg31, 24, .slice none 0 0, by kernel_rfl⟩,
 ⟨35, _, _, _, Try.runUnderlying35, Try.sizeOf35, Try.isAgg35, 4, .int .u32 0, by kernel_rfl⟩,
 ⟨39, _, _, _, Try.runUnderlying39, Try.sizeOf39, Try.isAgg39, 40, .agg #[.int .i64 0, .int .i64 0, .int .i64 0, .int .i64 0, .int .i64 0], by kernel_rfl⟩,
 ⟨41, _, _, _, Try.runUnderlying41, Try.sizeOf41, Try.isAgg41, 24, .slice none 0 0, by kernel_rfl⟩,
 ⟨42, _, _, _, Try.runUnderlying42, Try.sizeOf42, Try.isAgg42, 24, .slice none 0 0, by kernel_rfl⟩,
 ⟨44, _, _, _, Try.runUnderlying44, Try.sizeOf44, Try.isAgg44, 32, .agg #[.slice none 0 0, .int .i64 0], by kernel_rfl⟩,
 ⟨46, _, _, _, Try.runUnderlying46, Try.sizeOf46, Try.isAgg46, 8, .int .u64 0, by kernel_rfl⟩,
 ⟨48, _, _, _, Try.runUnderlying48, Try.sizeOf48, Try.isAgg48, 64, .agg #[.int .i64 0, .int .i64 0, .int .i64 0, .int .i64 0, .int .u64 0, .int .u64 0, .int .u64 0, .int .u64 0], by kernel_rfl⟩,
 ⟨50, _, _, _, Try.runUnderlying50, Try.sizeOf50, Try.isAgg50, 16, .agg #[.bool false, .int .i64 0], by kernel_rfl⟩,
 ⟨51, _, _, _, Try.runUnderlying51, Try.sizeOf51, Try.isAgg51, 8, .int .u64 0, by kernel_rfl⟩,
 ⟨54, _, _, _, Try.runUnderlying54, Try.sizeOf54, Try.isAgg54, 24, .slice none 0 0, by kernel_rfl⟩,
 ⟨57, _, _, _, Try.runUnderlying57, Try.sizeOf57, Try.isAgg57, 32, .agg #[.slice none 0 0, .int .i64 0], by kernel_rfl⟩,
 ⟨62, _, _, _, Try.runUnderlying62, Try.sizeOf62, Try.isAgg62, 64, .agg #[.int .i64 0, .int .i64 0, .int .i64 0, .int .i64 0, .int .i64 0, .int .i64 0, .int .i64 0, .int .i64 0], by kernel_rfl⟩,
 ⟨64, _, _, _, Try.runUnderlying64, Try.sizeOf64, Try.isAgg64, 32, .agg #[.int .i64 0, .int .i64 0, .int .i64 0, .int .i64 0], by kernel_rfl⟩,
 ⟨68, _, _, _, Try.runUnderlying68, Try.sizeOf68, Try.isAgg68, 24, .slice none 0 0, by kernel_rfl⟩,
 ⟨69, _, _, _, Try.runUnderlying69, Try.sizeOf69, Try.isAgg69, 24, .slice none 0 0, by kernel_rfl⟩,
 ⟨71, _, _, _, Try.runUnderlying71, Try.sizeOf71, Try.isAgg71, 96, .agg #[.slice none 0 0, .slice none 0 0, .slice none 0 0, .slice none 0 0], by kernel_rfl⟩,
 ⟨74, _, _, _, Try.runUnderlying74, Try.sizeOf74, Try.isAgg74, 16, .agg #[.int .i64 0, .int .i64 0], by kernel_rfl⟩,
 ⟨79, _, _, _, Try.runUnderlying79, Try.sizeOf79, Try.isAgg79, 16, .agg #[.int .i64 0, .int .i64 0], by kernel_rfl⟩,
 ⟨83, _, _, _, Try.runUnderlying83, Try.sizeOf83, Try.isAgg83, 8, .float .f64 0, by kernel_rfl⟩,
 ⟨85, _, _, _, Try.runUnderlying85, Try.sizeOf85, Try.isAgg85, 8, .int .i64 0, by kernel_rfl⟩,
 ⟨90, _, _, _, Try.runUnderlying90, Try.sizeOf90, Try.isAgg90, 8, .pointer none, by kernel_rfl⟩,
 ⟨92, _, _, _, Try.runUnderlying92, Try.sizeOf92, Try.isAgg92, 16, .agg #[.int .i64 0, .int .u64 0], by kernel_rfl⟩,
 ⟨93, _, _, _, Try.runUnderlying93, Try.sizeOf93, Try.isAgg93, 512, .agg #[.int .i64 0, .int .u64 0, .int .i64 0, .int .u64 0, .int .i64 0, .int .u64 0, .int .i64 0, .int .u64 0, .int .i64 0, .int .u64 0, .int .i64 0, .int .u64 0, .int .i64 0, .int .u64 0, .int .i64 0, .int .u64 0, .int .i64 0, .int .u64 0, .int .i64 0, .int .u64 0, .int .i64 0, .int .u64 0, .int .i64 0, .int .u64 0, .int .i64 0, .int .u64 0, .int .i64 0, .int .u64 0, .int .i64 0, .int .u64 0, .int .i64 0, .int .u64 0, .int .i64 0, .int .u64 0, .int .i64 0, .int .u64 0, .int .i64 0, .int .u64 0, .int .i64 0, .int .u64 0, .int .i64 0, .int .u64 0, .int .i64 0, .int .u64 0, .int .i64 0, .int .u64 0, .int .i64 0, .int .u64 0, .int .i64 0, .int .u64 0, .int .i64 0, .int .u64 0, .int .i64 0, .int .u64 0, .int .i64 0, .int .u64 0, .int .i64 0, .int .u64 0, .int .i64 0, .int .u64 0, .int .i64 0, .int .u64 0, .int .i64 0, .int .u64 0], by kernel_rfl⟩,
 ⟨94, _, _, _, Try.runUnderlying94, Try.sizeOf94, Try.isAgg94, 6400, .agg #[.int .i64 0, .int .u64 0, .int .i64 0, .int .u64 0, .int .i64 0, .int .u64 0, .int .i64 0, .int .u64 0, .int .i64 0, .int .u64 0, .int .i64 0, .int .u64 0, .int .i64 0, .int .u64 0, .int .i64 0, .int .u64 0, .int .i64 0, .int .u64 0, .int .i64 0, .int .u64 0, .int .i64 0, .int .u64 0, .int .i64 0, .int .u64 0, .int .i64 0, .int .u64 0, .int .i64 0, .int .u64 0, .int .i64 0, .int .u64 0, .int .i64 0, .int .u64 0, .int .i64 0, .int .u64 0, .int .i64 0, .int .u64 0, .int .i64 0, .int .u64 0, .int .i64 0, .int .u64 0, .int .i64 0, .int .u64 0, .int .i64 0, .int .u64 0, .int .i64 0, .int .u64 0, .int .i64 0, .int .u64 0, .int .i64 0, .int .u64 0, .int .i64 0, .int .u64 0, .int .i64 0, .int .u64 0, .int .i64 0, .int .u64 0, .int .i64 0, .int .u64 0, .int .i64 0, .int .u64 0, .int .i64 0, .int .u64 0, .int .i64 0, .int .u64 0, .int .i64 0, .int .u64 0, .int .i64 0, .int .u64 0, .int .i64 0, .int .u64 0, .int .i64 0, .int .u64 0, .int .i64 0, .int .u64 0, .int .i64 0, .int .u64 0, .int .i64 0, .int .u64 0, .int .i64 0, .int .u64 0, .int .i64 0, .int .u64 0, .int .i64 0, .int .u64 0, .int .i64 0, .int .u64 0, .int .i64 0, .int .u64 0, .int .i64 0, .int .u64 0, .int .i64 0, .int .u64 0, .int .i64 0, .int .u64 0, .int .i64 0, .int .u64 0, .int .i64 0, .int .u64 0, .int .i64 0, .int .u64 0, .int .i64 0, .int .u64 0, .int .i64 0, .int .u64 0, .int .i64 0, .int .u64 0, .int .i64 0, .int .u64 0, .int .i64 0, .int .u64 0, .int .i64 0, .int .u64 0, .int .i64 0, .int .u64 0, .int .i64 0, .int .u64 0, .int .i64 0, .int .u64 0, .int .i64 0, .int .u64 0, .int .i64 0, .int .u64 0, .int .i64 0, .int .u64 0, .int .i64 0, .int .u64 0, .int .i64 0, .int .u64 0, .int .i64 0, .int .u64 0, .int .i64 0, .int .u64 0, .int .i64 0, .int .u64 0, .int .i64 0, .int .u64 0, .int .i64 0, .int .u64 0, .int .i64 0, .int .u64 0, .int .i64 0, .int .u64 0, .int .i64 0, .int .u64 0, .int .i64 0, .int .u64 0, .int .i64 0, .int .u64 0, .int .i64 0, .int .u64 0, .int .i64 0, .int .u64 0, .int .i64 0, .int .u64 0, .int .i64 0, .int .u64 0, .int .i64 0, .int .u64 0, .int .i64 0, .int .u64 0, .int .i64 0, .int .u64 0, .int .i64 0, .int .u64 0, .int .i64 0, .int .u64 0, .int .i64 0, .int .u64 0, .int .i64 0, .int .u64 0, .int .i64 0, .int .u64 0, .int .i64 0, .int .u64 0, .int .i64 0, .int .u64 0, .int .i64 0, .int .u64 0, .int .i64 0, .int .u64 0, .int .i64 0, .int .u64 0, .int .i64 0, .int .u64 0, .int .i64 0, .int .u64 0, .int .i64 0, .int .u64 0, .int .i64 0, .int .u64 0, .int .i64 0, .int .u64 0, .int .i64 0, .int .u64 0, .int .i64 0, .int .u64 0, .int .i64 0, .int .u64 0, .int .i64 0, .int .u64 0, .int .i64 0, .int .u64 0, .int .i64 0, .int .u64 0, .int .i64 0, .int .u64 0, .int .i64 0, .int .u64 0, .int .i64 0, .int .u64 0, .int .i64 0, .int .u64 0, .int .i64 0, .int .u64 0, .int .i64 0, .int .u64 0, .int .i64 0, .int .u64 0, .int .i64 0, .int .u64 0, .int .i64 0, .int .u64 0, .int .i64 0, .int .u64 0, .int .i64 0, .int .u64 0, .int .i64 0, .int .u64 0, .int .i64 0, .int .u64 0, .int .i64 0, .int .u64 0, .int .i64 0, .int .u64 0, .int .i64 0, .int .u64 0, .int .i64 0, .int .u64 0, .int .i64 0, .int .u64 0, .int .i64 0, .int .u64 0, .int .i64 0, .int .u64 0, .int .i64 0, .int .u64 0, .int .i64 0, .int .u64 0, .int .i64 0, .int .u64 0, .int .i64 0, .int .u64 0, .int .i64 0, .int .u64 0, .int .i64 0, .int .u64 0, .int .i64 0, .int .u64 0, .int .i64 0, .int .u64 0, .int .i64 0, .int .u64 0, .int .i64 0, .int .u64 0, .int .i64 0, .int .u64 0, .int .i64 0, .int .u64 0, .int .i64 0, .int .u64 0, .int .i64 0, .int .u64 0, .int .i64 0, .int .u64 0, .int .i64 0, .int .u64 0, .int .i64 0, .int .u64 0, .int .i64 0, .int .u64 0, .int .i64 0, .int .u64 0, .int .i64 0, .int .u64 0, .int .i64 0, .int .u64 0, .int .i64 0, .int .u64 0, .int .i64 0, .int .u64 0, .int .i64 0, .int .u64 0, .int .i64 0, .int .u64 0, .int .i64 0, .int .u64 0, .int .i64 0, .int .u64 0, .int .i64 0, .int .u64 0, .int .i64 0, .int .u64 0, .int .i64 0, .int .u64 0, .int .i64 0, .int .u64 0, .int .i64 0, .int .u64 0, .int .i64 0, .int .u64 0, .int .i64 0, .int .u64 0, .int .i64 0, .int .u64 0, .int .i64 0, .int .u64 0, .int .i64 0, .int .u64 0, .int .i64 0, .int .u64 0, .int .i64 0, .int .u64 0, .int .i64 0, .int .u64 0, .int .i64 0, .int .u64 0, .int .i64 0, .int .u64 0, .int .i64 0, .int .u64 0, .int .i64 0, .int .u64 0, .int .i64 0, .int .u64 0, .int .i64 0, .int .u64 0, .int .i64 0, .int .u64 0, .int .i64 0, .int .u64 0, .int .i64 0, .int .u64 0, .int .i64 0, .int .u64 0, .int .i64 0, .int .u64 0, .int .i64 0, .int .u64 0, .int .i64 0, .int .u64 0, .int .i64 0, .int .u64 0, .int .i64 0, .int .u64 0, .int .i64 0, .int .u64 0, .int .i64 0, .int .u64 0, .int .i64 0, .int .u64 0, .int .i64 0, .int .u64 0, .int .i64 0, .int .u64 0, .int .i64 0, .int .u64 0, .int .i64 0, .int .u64 0, .int .i64 0, .int .u64 0, .int .i64 0, .int .u64 0, .int .i64 0, .int .u64 0, .int .i64 0, .int .u64 0, .int .i64 0, .int .u64 0, .int .i64 0, .int .u64 0, .int .i64 0, .int .u64 0, .int .i64 0, .int .u64 0, .int .i64 0, .int .u64 0, .int .i64 0, .int .u64 0, .int .i64 0, .int .u64 0, .int .i64 0, .int .u64 0, .int .i64 0, .int .u64 0, .int .i64 0, .int .u64 0, .int .i64 0, .int .u64 0, .int .i64 0, .int .u64 0, .int .i64 0, .int .u64 0, .int .i64 0, .int .u64 0, .int .i64 0, .int .u64 0, .int .i64 0, .int .u64 0, .int .i64 0, .int .u64 0, .int .i64 0, .int .u64 0, .int .i64 0, .int .u64 0, .int .i64 0, .int .u64 0, .int .i64 0, .int .u64 0, .int .i64 0, .int .u64 0, .int .i64 0, .int .u64 0, .int .i64 0, .int .u64 0, .int .i64 0, .int .u64 0, .int .i64 0, .int .u64 0, .int .i64 0, .int .u64 0, .int .i64 0, .int .u64 0, .int .i64 0, .int .u64 0, .int .i64 0, .int .u64 0, .int .i64 0, .int .u64 0, .int .i64 0, .int .u64 0, .int .i64 0, .int .u64 0, .int .i64 0, .int .u64 0, .int .i64 0, .int .u64 0, .int .i64 0, .int .u64 0, .int .i64 0, .int .u64 0, .int .i64 0, .int .u64 0, .int .i64 0, .int .u64 0, .int .i64 0, .int .u64 0, .int .i64 0, .int .u64 0, .int .i64 0, .int .u64 0, .int .i64 0, .int .u64 0, .int .i64 0, .int .u64 0, .int .i64 0, .int .u64 0, .int .i64 0, .int .u64 0, .int .i64 0, .int .u64 0, .int .i64 0, .int .u64 0, .int .i64 0, .int .u64 0, .int .i64 0, .int .u64 0, .int .i64 0, .int .u64 0, .int .i64 0, .int .u64 0, .int .i64 0, .int .u64 0, .int .i64 0, .int .u64 0, .int .i64 0, .int .u64 0, .int .i64 0, .int .u64 0, .int .i64 0, .int .u64 0, .int .i64 0, .int .u64 0, .int .i64 0, .int .u64 0, .int .i64 0, .int .u64 0, .int .i64 0, .int .u64 0, .int .i64 0, .int .u64 0, .int .i64 0, .int .u64 0, .int .i64 0, .int .u64 0, .int .i64 0, .int .u64 0, .int .i64 0, .int .u64 0, .int .i64 0, .int .u64 0, .int .i64 0, .int .u64 0, .int .i64 0, .int .u64 0, .int .i64 0, .int .u64 0, .int .i64 0, .int .u64 0, .int .i64 0, .int .u64 0, .int .i64 0, .int .u64 0, .int .i64 0, .int .u64 0, .int .i64 0, .int .u64 0, .int .i64 0, .int .u64 0, .int .i64 0, .int .u64 0, .int .i64 0, .int .u64 0, .int .i64 0, .int .u64 0, .int .i64 0, .int .u64 0, .int .i64 0, .int .u64 0, .int .i64 0, .int .u64 0, .int .i64 0, .int .u64 0, .int .i64 0, .int .u64 0, .int .i64 0, .int .u64 0, .int .i64 0, .int .u64 0, .int .i64 0, .int .u64 0, .int .i64 0, .int .u64 0, .int .i64 0, .int .u64 0, .int .i64 0, .int .u64 0, .int .i64 0, .int .u64 0, .int .i64 0, .int .u64 0, .int .i64 0, .int .u64 0, .int .i64 0, .int .u64 0, .int .i64 0, .int .u64 0, .int .i64 0, .int .u64 0, .int .i64 0, .int .u64 0, .int .i64 0, .int .u64 0, .int .i64 0, .int .u64 0, .int .i64 0, .int .u64 0, .int .i64 0, .int .u64 0, .int .i64 0, .int .u64 0, .int .i64 0, .int .u64 0, .int .i64 0, .int .u64 0, .int .i64 0, .int .u64 0, .int .i64 0, .int .u64 0, .int .i64 0, .int .u64 0, .int .i64 0, .int .u64 0, .int .i64 0, .int .u64 0, .int .i64 0, .int .u64 0, .int .i64 0, .int .u64 0, .int .i64 0, .int .u64 0, .int .i64 0, .int .u64 0, .int .i64 0, .int .u64 0, .int .i64 0, .int .u64 0, .int .i64 0, .int .u64 0, .int .i64 0, .int .u64 0, .int .i64 0, .int .u64 0, .int .i64 0, .int .u64 0, .int .i64 0, .int .u64 0, .int .i64 0, .int .u64 0, .int .i64 0, .int .u64 0, .int .i64 0, .int .u64 0, .int .i64 0, .int .u64 0, .int .i64 0, .int .u64 0, .int .i64 0, .int .u64 0, .int .i64 0, .int .u64 0, .int .i64 0, .int .u64 0, .int .i64 0, .int .u64 0, .int .i64 0, .int .u64 0, .int .i64 0, .int .u64 0, .int .i64 0, .int .u64 0, .int .i64 0, .int .u64 0, .int .i64 0, .int .u64 0, .int .i64 0, .int .u64 0, .int .i64 0, .int .u64 0, .int .i64 0, .int .u64 0, .int .i64 0, .int .u64 0, .int .i64 0, .int .u64 0, .int .i64 0, .int .u64 0, .int .i64 0, .int .u64 0, .int .i64 0, .int .u64 0, .int .i64 0, .int .u64 0, .int .i64 0, .int .u64 0, .int .i64 0, .int .u64 0, .int .i64 0, .int .u64 0, .int .i64 0, .int .u64 0, .int .i64 0, .int .u64 0, .int .i64 0, .int .u64 0, .int .i64 0, .int .u64 0, .int .i64 0, .int .u64 0, .int .i64 0, .int .u64 0, .int .i64 0, .int .u64 0, .int .i64 0, .int .u64 0, .int .i64 0, .int .u64 0, .int .i64 0, .int .u64 0, .int .i64 0, .int .u64 0, .int .i64 0, .int .u64 0, .int .i64 0, .int .u64 0, .int .i64 0, .int .u64 0, .int .i64 0, .int .u64 0, .int .i64 0, .int .u64 0, .int .i64 0, .int .u64 0, .int .i64 0, .int .u64 0, .int .i64 0, .int .u64 0, .int .i64 0, .int .u64 0, .int .i64 0, .int .u64 0, .int .i64 0, .int .u64 0, .int .i64 0, .int .u64 0, .int .i64 0, .int .u64 0, .int .i64 0, .int .u64 0, .int .i64 0, .int .u64 0, .int .i64 0, .int .u64 0, .int .i64 0, .int .u64 0, .int .i64 0, .int .u64 0, .int .i64 0, .int .u64 0, .int .i64 0, .int .u64 0, .int .i64 0, .int .u64 0, .int .i64 0, .int .u64 0, .int .i64 0, .int .u64 0, .int .i64 0, .int .u64 0, .int .i64 0, .int .u64 0, .int .i64 0, .int .u64 0, .int .i64 0, .int .u64 0, .int .i64 0, .int .u64 0, .int .i64 0, .int .u64 0, .int .i64 0, .int .u64 0, .int .i64 0, .int .u64 0, .int .i64 0, .int .u64 0, .int .i64 0, .int .u64 0, .int .i64 0, .int .u64 0, .int .i64 0, .int .u64 0, .int .i64 0, .int .u64 0, .int .i64 0, .int .u64 0, .int .i64 0, .int .u64 0, .int .i64 0, .int .u64 0, .int .i64 0, .int .u64 0, .int .i64 0, .int .u64 0, .int .i64 0, .int .u64 0, .int .i64 0, .int .u64 0, .int .i64 0, .int .u64 0, .int .i64 0, .int .u64 0, .int .i64 0, .int .u64 0, .int .i64 0, .int .u64 0, .int .i64 0, .int .u64 0, .int .i64 0, .int .u64 0, .int .i64 0, .int .u64 0, .int .i64 0, .int .u64 0, .int .i64 0, .int .u64 0, .int .i64 0, .int .u64 0, .int .i64 0, .int .u64 0, .int .i64 0, .int .u64 0], by kernel_rfl⟩,
 ⟨96, _, _, _, Try.runUnderlying96, Try.sizeOf96, Try.isAgg96, 7048, .agg #[.slice none 0 0, .int .i64 0, .int .i64 0, .slice none 0 0, .int .i64 0, .int .u64 0, .int .i64 0, .int .u64 0, .int .i64 0, .int .u64 0, .int .i64 0, .int .u64 0, .int .i64 0, .int .u64 0, .int .i64 0, .int .u64 0, .int .i64 0, .int .u64 0, .int .i64 0, .int .u64 0, .int .i64 0, .int .u64 0, .int .i64 0, .int .u64 0, .int .i64 0, .int .u64 0, .int .i64 0, .int .u64 0, .int .i64 0, .int .u64 0, .int .i64 0, .int .u64 0, .int .i64 0, .int .u64 0, .int .i64 0, .int .u64 0, .int .i64 0, .int .u64 0, .int .i64 0, .int .u64 0, .int .i64 0, .int .u64 0, .int .i64 0, .int .u64 0, .int .i64 0, .int .u64 0, .int .i64 0, .int .u64 0, .int .i64 0, .int .u64 0, .int .i64 0, .int .u64 0, .int .i64 0, .int .u64 0, .int .i64 0, .int .u64 0, .int .i64 0, .int .u64 0, .int .i64 0, .int .u64 0, .int .i64 0, .int .u64 0, .int .i64 0, .int .u64 0, .int .i64 0, .int .u64 0, .int .i64 0, .int .u64 0, .int .i64 0, .int .u64 0, .int .i64 0, .int .u64 0, .int .i64 0, .int .u64 0, .int .i64 0, .int .u64 0, .int .i64 0, .int .u64 0, .int .i64 0, .int .u64 0, .int .i64 0, .int .u64 0, .int .i64 0, .int .u64 0, .int .i64 0, .int .u64 0, .int .i64 0, .int .u64 0, .int .i64 0, .int .u64 0, .int .i64 0, .int .u64 0, .int .i64 0, .int .u64 0, .int .i64 0, .int .u64 0, .int .i64 0, .int .u64 0, .int .i64 0, .int .u64 0, .int .i64 0, .int .u64 0, .int .i64 0, .int .u64 0, .int .i64 0, .int .u64 0, .int .i64 0, .int .u64 0, .int .i64 0, .int .u64 0, .int .i64 0, .int .u64 0, .int .i64 0, .int .u64 0, .int .i64 0, .int .u64 0, .int .i64 0, .int .u64 0, .int .i64 0, .int .u64 0, .int .i64 0, .int .u64 0, .int .i64 0, .int .u64 0, .int .i64 0, .int .u64 0, .int .i64 0, .int .u64 0, .int .i64 0, .int .u64 0, .int .i64 0, .int .u64 0, .int .i64 0, .int .u64 0, .int .i64 0, .int .u64 0, .int .i64 0, .int .u64 0, .int .i64 0, .int .u64 0, .int .i64 0, .int .u64 0, .int .i64 0, .int .u64 0, .int .i64 0, .int .u64 0, .int .i64 0, .int .u64 0, .int .i64 0, .int .u64 0, .int .i64 0, .int .u64 0, .int .i64 0, .int .u64 0, .int .i64 0, .int .u64 0, .int .i64 0, .int .u64 0, .int .i64 0, .int .u64 0, .int .i64 0, .int .u64 0, .int .i64 0, .int .u64 0, .int .i64 0, .int .u64 0, .int .i64 0, .int .u64 0, .int .i64 0, .int .u64 0, .int .i64 0, .int .u64 0, .int .i64 0, .int .u64 0, .int .i64 0, .int .u64 0, .int .i64 0, .int .u64 0, .int .i64 0, .int .u64 0, .int .i64 0, .int .u64 0, .int .i64 0, .int .u64 0, .int .i64 0, .int .u64 0, .int .i64 0, .int .u64 0, .int .i64 0, .int .u64 0, .int .i64 0, .int .u64 0, .int .i64 0, .int .u64 0, .int .i64 0, .int .u64 0, .int .i64 0, .int .u64 0, .int .i64 0, .int .u64 0, .int .i64 0, .int .u64 0, .int .i64 0, .int .u64 0, .int .i64 0, .int .u64 0, .int .i64 0, .int .u64 0, .int .i64 0, .int .u64 0, .int .i64 0, .int .u64 0, .int .i64 0, .int .u64 0, .int .i64 0, .int .u64 0, .int .i64 0, .int .u64 0, .int .i64 0, .int .u64 0, .int .i64 0, .int .u64 0, .int .i64 0, .int .u64 0, .int .i64 0, .int .u64 0, .int .i64 0, .int .u64 0, .int .i64 0, .int .u64 0, .int .i64 0, .int .u64 0, .int .i64 0, .int .u64 0, .int .i64 0, .int .u64 0, .int .i64 0, .int .u64 0, .int .i64 0, .int .u64 0, .int .i64 0, .int .u64 0, .int .i64 0, .int .u64 0, .int .i64 0, .int .u64 0, .int .i64 0, .int .u64 0, .int .i64 0, .int .u64 0, .int .i64 0, .int .u64 0, .int .i64 0, .int .u64 0, .int .i64 0, .int .u64 0, .int .i64 0, .int .u64 0, .int .i64 0, .int .u64 0, .int .i64 0, .int .u64 0, .int .i64 0, .int .u64 0, .int .i64 0, .int .u64 0, .int .i64 0, .int .u64 0, .int .i64 0, .int .u64 0, .int .i64 0, .int .u64 0, .int .i64 0, .int .u64 0, .int .i64 0, .int .u64 0, .int .i64 0, .int .u64 0, .int .i64 0, .int .u64 0, .int .i64 0, .int .u64 0, .int .i64 0, .int .u64 0, .int .i64 0, .int .u64 0, .int .i64 0, .int .u64 0, .int .i64 0, .int .u64 0, .int .i64 0, .int .u64 0, .int .i64 0, .int .u64 0, .int .i64 0, .int .u64 0, .int .i64 0, .int .u64 0, .int .i64 0, .int .u64 0, .int .i64 0, .int .u64 0, .int .i64 0, .int .u64 0, .int .i64 0, .int .u64 0, .int .i64 0, .int .u64 0, .int .i64 0, .int .u64 0, .int .i64 0, .int .u64 0, .int .i64 0, .int .u64 0, .int .i64 0, .int .u64 0, .int .i64 0, .int .u64 0, .int .i64 0, .int .u64 0, .int .i64 0, .int .u64 0, .int .i64 0, .int .u64 0, .int .i64 0, .int .u64 0, .int .i64 0, .int .u64 0, .int .i64 0, .int .u64 0, .int .i64 0, .int .u64 0, .int .i64 0, .int .u64 0, .int .i64 0, .int .u64 0, .int .i64 0, .int .u64 0, .int .i64 0, .int .u64 0, .int .i64 0, .int .u64 0, .int .i64 0, .int .u64 0, .int .i64 0, .int .u64 0, .int .i64 0, .int .u64 0, .int .i64 0, .int .u64 0, .int .i64 0, .int .u64 0, .int .i64 0, .int .u64 0, .int .i64 0, .int .u64 0, .int .i64 0, .int .u64 0, .int .i64 0, .int .u64 0, .int .i64 0, .int .u64 0, .int .i64 0, .int .u64 0, .int .i64 0, .int .u64 0, .int .i64 0, .int .u64 0, .int .i64 0, .int .u64 0, .int .i64 0, .int .u64 0, .int .i64 0, .int .u64 0, .int .i64 0, .int .u64 0, .int .i64 0, .int .u64 0, .int .i64 0, .int .u64 0, .int .i64 0, .int .u64 0, .int .i64 0, .int .u64 0, .int .i64 0, .int .u64 0, .int .i64 0, .int .u64 0, .int .i64 0, .int .u64 0, .int .i64 0, .int .u64 0, .int .i64 0, .int .u64 0, .int .i64 0, .int .u64 0, .int .i64 0, .int .u64 0, .int .i64 0, .int .u64 0, .int .i64 0, .int .u64 0, .int .i64 0, .int .u64 0, .int .i64 0, .int .u64 0, .int .i64 0, .int .u64 0, .int .i64 0, .int .u64 0, .int .i64 0, .int .u64 0, .int .i64 0, .int .u64 0, .int .i64 0, .int .u64 0, .int .i64 0, .int .u64 0, .int .i64 0, .int .u64 0, .int .i64 0, .int .u64 0, .int .i64 0, .int .u64 0, .int .i64 0, .int .u64 0, .int .i64 0, .int .u64 0, .int .i64 0, .int .u64 0, .int .i64 0, .int .u64 0, .int .i64 0, .int .u64 0, .int .i64 0, .int .u64 0, .int .i64 0, .int .u64 0, .int .i64 0, .int .u64 0, .int .i64 0, .int .u64 0, .int .i64 0, .int .u64 0, .int .i64 0, .int .u64 0, .int .i64 0, .int .u64 0, .int .i64 0, .int .u64 0, .int .i64 0, .int .u64 0, .int .i64 0, .int .u64 0, .int .i64 0, .int .u64 0, .int .i64 0, .int .u64 0, .int .i64 0, .int .u64 0, .int .i64 0, .int .u64 0, .int .i64 0, .int .u64 0, .int .i64 0, .int .u64 0, .int .i64 0, .int .u64 0, .int .i64 0, .int .u64 0, .int .i64 0, .int .u64 0, .int .i64 0, .int .u64 0, .int .i64 0, .int .u64 0, .int .i64 0, .int .u64 0, .int .i64 0, .int .u64 0, .int .i64 0, .int .u64 0, .int .i64 0, .int .u64 0, .int .i64 0, .int .u64 0, .int .i64 0, .int .u64 0, .int .i64 0, .int .u64 0, .int .i64 0, .int .u64 0, .int .i64 0, .int .u64 0, .int .i64 0, .int .u64 0, .int .i64 0, .int .u64 0, .int .i64 0, .int .u64 0, .int .i64 0, .int .u64 0, .int .i64 0, .int .u64 0, .int .i64 0, .int .u64 0, .int .i64 0, .int .u64 0, .int .i64 0, .int .u64 0, .int .i64 0, .int .u64 0, .int .i64 0, .int .u64 0, .int .i64 0, .int .u64 0, .int .i64 0, .int .u64 0, .int .i64 0, .int .u64 0, .int .i64 0, .int .u64 0, .int .i64 0, .int .u64 0, .int .i64 0, .int .u64 0, .int .i64 0, .int .u64 0, .int .i64 0, .int .u64 0, .int .i64 0, .int .u64 0, .int .i64 0, .int .u64 0, .int .i64 0, .int .u64 0, .int .i64 0, .int .u64 0, .int .i64 0, .int .u64 0, .int .i64 0, .int .u64 0, .int .i64 0, .int .u64 0, .int .i64 0, .int .u64 0, .int .i64 0, .int .u64 0, .int .i64 0, .int .u64 0, .int .i64 0, .int .u64 0, .int .i64 0, .int .u64 0, .int .i64 0, .int .u64 0, .int .i64 0, .int .u64 0, .int .i64 0, .int .u64 0, .int .i64 0, .int .u64 0, .int .i64 0, .int .u64 0, .int .i64 0, .int .u64 0, .int .i64 0, .int .u64 0, .int .i64 0, .int .u64 0, .int .i64 0, .int .u64 0, .int .i64 0, .int .u64 0, .int .i64 0, .int .u64 0, .int .i64 0, .int .u64 0, .int .i64 0, .int .u64 0, .int .i64 0, .int .u64 0, .int .i64 0, .int .u64 0, .int .i64 0, .int .u64 0, .int .i64 0, .int .u64 0, .int .i64 0, .int .u64 0, .int .i64 0, .int .u64 0, .int .i64 0, .int .u64 0, .int .i64 0, .int .u64 0, .int .i64 0, .int .u64 0, .int .i64 0, .int .u64 0, .int .i64 0, .int .u64 0, .int .i64 0, .int .u64 0, .int .i64 0, .int .u64 0, .int .i64 0, .int .u64 0, .int .i64 0, .int .u64 0, .int .i64 0, .int .u64 0, .int .i64 0, .int .u64 0, .int .i64 0, .int .u64 0, .int .i64 0, .int .u64 0, .int .i64 0, .int .u64 0, .int .i64 0, .int .u64 0, .int .i64 0, .int .u64 0, .int .i64 0, .int .u64 0, .int .i64 0, .int .u64 0, .int .i64 0, .int .u64 0, .int .i64 0, .int .u64 0, .int .i64 0, .int .u64 0, .int .i64 0, .int .u64 0, .int .i64 0, .int .u64 0, .int .i64 0, .int .u64 0, .int .i64 0, .int .u64 0, .int .i64 0, .int .u64 0, .int .i64 0, .int .u64 0, .int .i64 0, .int .u64 0, .int .i64 0, .int .u64 0, .int .i64 0, .int .u64 0, .int .i64 0, .int .u64 0, .int .i64 0, .int .u64 0, .int .i64 0, .int .u64 0, .int .i64 0, .int .u64 0, .int .i64 0, .int .u64 0, .int .i64 0, .int .u64 0, .int .i64 0, .int .u64 0, .int .i64 0, .int .u64 0, .int .i64 0, .int .u64 0, .int .i64 0, .int .u64 0, .int .i64 0, .int .u64 0, .int .i64 0, .int .u64 0, .int .i64 0, .int .u64 0, .int .i64 0, .int .u64 0, .int .i64 0, .int .u64 0, .int .i64 0, .int .u64 0, .int .i64 0, .int .u64 0, .int .i64 0, .int .u64 0, .int .i64 0, .int .u64 0, .int .i64 0, .int .u64 0, .int .i64 0, .int .u64 0, .int .i64 0, .int .u64 0, .int .i64 0, .int .u64 0, .int .i64 0, .int .u64 0, .int .i64 0, .int .u64 0, .int .i64 0, .int .u64 0, .int .i64 0, .int .u64 0, .int .i64 0, .int .u64 0, .int .i64 0, .int .u64 0, .int .i64 0, .int .u64 0, .int .i64 0, .int .u64 0, .int .i64 0, .int .u64 0, .int .i64 0, .int .u64 0, .int .i64 0, .int .u64 0, .int .i64 0, .int .u64 0, .int .i64 0, .int .u64 0, .int .i64 0, .int .u64 0, .int .i64 0, .int .u64 0, .int .i64 0, .int .u64 0, .int .i64 0, .int .u64 0, .int .i64 0, .int .u64 0, .int .i64 0, .int .u64 0, .int .i64 0, .int .u64 0, .int .i64 0, .int .u64 0, .int .i64 0, .int .u64 0, .int .i64 0, .int .u64 0, .int .i64 0, .int .u64 0, .int .i64 0, .int .u64 0, .int .i64 0, .int .u64 0, .int .i64 0, .int .u64 0, .int .i64 0, .int .u64 0, .int .i64 0, .int .u64 0, .int .i64 0, .int .u64 0, .int .i64 0, .int .u64 0, .int .i64 0, .int .u64 0, .int .i64 0, .int .u64 0, .int .i64 0, .int .u64 0, .int .i64 0, .int .u64 0, .int .i64 0, .int .u64 0, .int .i64 0, .int .u64 0, .int .i64 0, .int .u64 0, .int .i64 0, .int .u64 0, .int .i64 0, .int .u64 0, .int .i64 0, .int .u64 0, .int .i64 0, .int .u64 0, .int .i64 0, .int .u64 0, .int .i64 0, .int .u64 0, .int .i64 0, .int .u64 0, .int .i64 0, .int .u64 0, .int .i64 0, .int .u64 0, .int .i64 0, .int .u64 0, .int .i64 0, .int .u64 0, .int .i64 0, .int .u64 0, .int .i64 0, .int .u64 0, .int .i64 0, .int .u64 0, .int .i64 0, .int .u64 0, .int .i64 0, .int .u64 0, .int .i64 0, .int .u64 0, .int .i64 0, .int .u64 0, .int .i64 0, .int .u64 0, .int .i64 0, .int .u64 0, .int .i64 0, .int .u64 0, .int .i64 0, .int .u64 0, .int .i64 0, .int .u64 0, .int .i64 0, .int .u64 0, .int .i64 0, .int .u64 0, .int .i64 0, .int .u64 0, .int .i64 0, .int .u64 0, .int .i64 0, .int .u64 0, .int .i64 0, .int .u64 0, .int .i64 0, .int .u64 0, .int .i64 0, .int .u64 0, .int .i64 0, .int .u64 0, .int .i64 0, .int .u64 0, .int .i64 0, .int .u64 0, .int .i64 0, .int .u64 0, .int .i64 0, .int .u64 0, .int .i64 0, .int .u64 0, .int .i64 0, .int .u64 0, .int .i64 0, .int .u64 0, .int .i64 0, .int .u64 0, .int .i64 0, .int .u64 0, .int .i64 0, .int .u64 0, .int .i64 0, .int .u64 0, .int .i64 0, .int .u64 0, .int .i64 0, .int .u64 0, .int .i64 0, .int .u64 0, .int .i64 0, .int .u64 0, .bool false, .bool false, .int .u64 0, .int .u64 0, .int .u64 0, .int .i64 0, .int .i64 0, .slice none 0 0], by kernel_rfl⟩,
 ⟨97, _, _, _, Try.runUnderlying97, Try.sizeOf97, Try.isAgg97, 8, .int .i64 0, by kernel_rfl⟩,
 ⟨99, _, _, _, Try.runUnderlying99, Try.sizeOf99, Try.isAgg99, 8, .map none, by kernel_rfl⟩,
 ⟨101, _, _, _, Try.runUnderlying101, Try.sizeOf101, Try.isAgg101, 8, .pointer none, by kernel_rfl⟩,
 ⟨102, _, _, _, Try.runUnderlying102, Try.sizeOf102, Try.isAgg102, 3200, .agg #[.int .i64 0, .int .i64 0, .int .i64 0, .int .i64 0, .int .i64 0, .int .i64 0, .int .i64 0, .int .i64 0, .int .i64 0, .int .i64 0, .int .i64 0, .int .i64 0, .int .i64 0, .int .i64 0, .int .i64 0, .int .i64 0, .int .i64 0, .int .i64 0, .int .i64 0, .int .i64 0, .int .i64 0, .int .i64 0, .int .i64 0, .int .i64 0, .int .i64 0, .int .i64 0, .int .i64 0, .int .i64 0, .int .i64 0, .int .i64 0, .int .i64 0, .int .i64 0, .int .i64 0, .int .i64 0, .int .i64 0, .int .i64 0, .int .i64 0, .int .i64 0, .int .i64 0, .int .i64 0, .int .i64 0, .int .i64 0, .int .i64 0, .int .i64 0, .int .i64 0, .int .i64 0, .int .i64 0, .int .i64 0, .int .i64 0, .int .i64 0, .int .i64 0, .int .i64 0, .int .i64 0, .int .i64 0, .int .i64 0, .int .i64 0, .int .i64 0, .int .i64 0, .int .i64 0, .int .i64 0, .int .i64 0, .int .i64 0, .int .i64 0, .int .i64 0, .int .i64 0, .int .i64 0, .int .i64 0, .int .i64 0, .int .i64 0, .int .i64 0, .int .i64 0, .int .i64 0, .int .i64 0, .int .i64 0, .int .i64 0, .int .i64 0, .int .i64 0, .int .i64 0, .int .i64 0, .int .i64 0, .int .i64 0, .int .i64 0, .int .i64 0, .int .i64 0, .int .i64 0, .int .i64 0, .int .i64 0, .int .i64 0, .int .i64 0, .int .i64 0, .int .i64 0, .int .i64 0, .int .i64 0, .int .i64 0, .int .i64 0, .int .i64 0, .int .i64 0, .int .i64 0, .int .i64 0, .int .i64 0, .int .i64 0, .int .i64 0, .int .i64 0, .int .i64 0, .int .i64 0, .int .i64 0, .int .i64 0, .int .i64 0, .int .i64 0, .int .i64 0, .int .i64 0, .int .i64 0, .int .i64 0, .int .i64 0, .int .i64 0, .int .i64 0, .int .i64 0, .int .i64 0, .int .i64 0, .int .i64 0, .int .i64 0, .int .i64 0, .int .i64 0, .int .i64 0, .int .i64 0, .int .i64 0, .int .i64 0, .int .i64 0, .int .i64 0, .int .i64 0, .int .i64 0, .int .i64 0, .int .i64 0, .int .i64 0, .int .i64 0, .int .i64 0, .int .i64 0, .int .i64 0, .int .i64 0, .int .i64 0, .int .i64 0, .int .i64 0, .int .i64 0, .int .i64 0, .int .i64 0, .int .i64 0, .int .i64 0, .int .i64 0, .int .i64 0, .int .i64 0, .int .i64 0, .int .i64 0, .int .i64 0, .int .i64 0, .int .i64 0, .int .i64 0, .int .i64 0, .int .i64 0, .int .i64 0, .int .i64 0, .int .i64 0, .int .i64 0, .int .i64 0, .int .i64 0, .int .i64 0, .int .i64 0, .int .i64 0, .int .i64 0, .int .i64 0, .int .i64 0, .int .i64 0, .int .i64 0, .int .i64 0, .int .i64 0, .int .i64 0, .int .i64 0, .int .i64 0, .int .i64 0, .int .i64 0, .int .i64 0, .int .i64 0, .int .i64 0, .int .i64 0, .int .i64 0, .int .i64 0, .int .i64 0, .int .i64 0, .int .i64 0, .int .i64 0, .int .i64 0, .int .i64 0, .int .i64 0, .int .i64 0, .int .i64 0, .int .i64 0, .int .i64 0, .int .i64 0, .int .i64 0, .int .i64 0, .int .i64 0, .int .i64 0, .int .i64 0, .int .i64 0, .int .i64 0, .int .i64 0, .int .i64 0, .int .i64 0, .int .i64 0, .int .i64 0, .int .i64 0, .int .i64 0, .int .i64 0, .int .i64 0, .int .i64 0, .int .i64 0, .int .i64 0, .int .i64 0, .int .i64 0, .int .i64 0, .int .i64 0, .int .i64 0, .int .i64 0, .int .i64 0, .int .i64 0, .int .i64 0, .int .i64 0, .int .i64 0, .int .i64 0, .int .i64 0, .int .i64 0, .int .i64 0, .int .i64 0, .int .i64 0, .int .i64 0, .int .i64 0, .int .i64 0, .int .i64 0, .int .i64 0, .int .i64 0, .int .i64 0, .int .i64 0, .int .i64 0, .int .i64 0, .int .i64 0, .int .i64 0, .int .i64 0, .int .i64 0, .int .i64 0, .int .i64 0, .int .i64 0, .int .i64 0, .int .i64 0, .int .i64 0, .int .i64 0, .int .i64 0, .int .i64 0, .int .i64 0, .int .i64 0, .int .i64 0, .int .i64 0, .int .i64 0, .int .i64 0, .int .i64 0, .int .i64 0, .int .i64 0, .int .i64 0, .int .i64 0, .int .i64 0, .int .i64 0, .int .i64 0, .int .i64 0, .int .i64 0, .int .i64 0, .int .i64 0, .int .i64 0, .int .i64 0, .int .i64 0, .int .i64 0, .int .i64 0, .int .i64 0, .int .i64 0, .int .i64 0, .int .i64 0, .int .i64 0, .int .i64 0, .int .i64 0, .int .i64 0, .int .i64 0, .int .i64 0, .int .i64 0, .int .i64 0, .int .i64 0, .int .i64 0, .int .i64 0, .int .i64 0, .int .i64 0, .int .i64 0, .int .i64 0, .int .i64 0, .int .i64 0, .int .i64 0, .int .i64 0, .int .i64 0, .int .i64 0, .int .i64 0, .int .i64 0, .int .i64 0, .int .i64 0, .int .i64 0, .int .i64 0, .int .i64 0, .int .i64 0, .int .i64 0, .int .i64 0, .int .i64 0, .int .i64 0, .int .i64 0, .int .i64 0, .int .i64 0, .int .i64 0, .int .i64 0, .int .i64 0, .int .i64 0, .int .i64 0, .int .i64 0, .int .i64 0, .int .i64 0, .int .i64 0, .int .i64 0, .int .i64 0, .int .i64 0, .int .i64 0, .int .i64 0, .int .i64 0, .int .i64 0, .int .i64 0, .int .i64 0, .int .i64 0, .int .i64 0, .int .i64 0, .int .i64 0, .int .i64 0, .int .i64 0, .int .i64 0, .int .i64 0, .int .i64 0, .int .i64 0, .int .i64 0, .int .i64 0, .int .i64 0, .int .i64 0, .int .i64 0, .int .i64 0, .int .i64 0, .int .i64 0, .int .i64 0, .int .i64 0, .int .i64 0, .int .i64 0, .int .i64 0, .int .i64 0, .int .i64 0, .int .i64 0, .int .i64 0, .int .i64 0, .int .i64 0, .int .i64 0, .int .i64 0, .int .i64 0, .int .i64 0, .int .i64 0, .int .i64 0, .int .i64 0, .int .i64 0, .int .i64 0, .int .i64 0, .int .i64 0, .int .i64 0, .int .i64 0, .int .i64 0, .int .i64 0, .int .i64 0, .int .i64 0, .int .i64 0, .int .i64 0, .int .i64 0, .int .i64 0, .int .i64 0, .int .i64 0, .int .i64 0, .int .i64 0, .int .i64 0, .int .i64 0, .int .i64 0, .int .i64 0, .int .i64 0, .int .i64 0, .int .i64 0, .int .i64 0, .int .i64 0], by kernel_rfl⟩,
 ⟨104, _, _, _, Try.runUnderlying104, Try.sizeOf104, Try.isAgg104, 3248, .agg #[.int .i64 0, .int .i64 0, .int .i64 0, .int .i64 0, .int .i64 0, .int .i64 0, .int .i64 0, .int .i64 0, .int .i64 0, .int .i64 0, .int .i64 0, .int .i64 0, .int .i64 0, .int .i64 0, .int .i64 0, .int .i64 0, .int .i64 0, .int .i64 0, .int .i64 0, .int .i64 0, .int .i64 0, .int .i64 0, .int .i64 0, .int .i64 0, .int .i64 0, .int .i64 0, .int .i64 0, .int .i64 0, .int .i64 0, .int .i64 0, .int .i64 0, .int .i64 0, .int .i64 0, .int .i64 0, .int .i64 0, .int .i64 0, .int .i64 0, .int .i64 0, .int .i64 0, .int .i64 0, .int .i64 0, .int .i64 0, .int .i64 0, .int .i64 0, .int .i64 0, .int .i64 0, .int .i64 0, .int .i64 0, .int .i64 0, .int .i64 0, .int .i64 0, .int .i64 0, .int .i64 0, .int .i64 0, .int .i64 0, .int .i64 0, .int .i64 0, .int .i64 0, .int .i64 0, .int .i64 0, .int .i64 0, .int .i64 0, .int .i64 0, .int .i64 0, .int .i64 0, .int .i64 0, .int .i64 0, .int .i64 0, .int .i64 0, .int .i64 0, .int .i64 0, .int .i64 0, .int .i64 0, .int .i64 0, .int .i64 0, .int .i64 0, .int .i64 0, .int .i64 0, .int .i64 0, .int .i64 0, .int .i64 0, .int .i64 0, .int .i64 0, .int .i64 0, .int .i64 0, .int .i64 0, .int .i64 0, .int .i64 0, .int .i64 0, .int .i64 0, .int .i64 0, .int .i64 0, .int .i64 0, .int .i64 0, .int .i64 0, .int .i64 0, .int .i64 0, .int .i64 0, .int .i64 0, .int .i64 0, .int .i64 0, .int .i64 0, .int .i64 0, .int .i64 0, .int .i64 0, .int .i64 0, .int .i64 0, .int .i64 0, .int .i64 0, .int .i64 0, .int .i64 0, .int .i64 0, .int .i64 0, .int .i64 0, .int .i64 0, .int .i64 0, .int .i64 0, .int .i64 0, .int .i64 0, .int .i64 0, .int .i64 0, .int .i64 0, .int .i64 0, .int .i64 0, .int .i64 0, .int .i64 0, .int .i64 0, .int .i64 0, .int .i64 0, .int .i64 0, .int .i64 0, .int .i64 0, .int .i64 0, .int .i64 0, .int .i64 0, .int .i64 0, .int .i64 0, .int .i64 0, .int .i64 0, .int .i64 0, .int .i64 0, .int .i64 0, .int .i64 0, .int .i64 0, .int .i64 0, .int .i64 0, .int .i64 0, .int .i64 0, .int .i64 0, .int .i64 0, .int .i64 0, .int .i64 0, .int .i64 0, .int .i64 0, .int .i64 0, .int .i64 0, .int .i64 0, .int .i64 0, .int .i64 0, .int .i64 0, .int .i64 0, .int .i64 0, .int .i64 0, .int .i64 0, .int .i64 0, .int .i64 0, .int .i64 0, .int .i64 0, .int .i64 0, .int .i64 0, .int .i64 0, .int .i64 0, .int .i64 0, .int .i64 0, .int .i64 0, .int .i64 0, .int .i64 0, .int .i64 0, .int .i64 0, .int .i64 0, .int .i64 0, .int .i64 0, .int .i64 0, .int .i64 0, .int .i64 0, .int .i64 0, .int .i64 0, .int .i64 0, .int .i64 0, .int .i64 0, .int .i64 0, .int .i64 0, .int .i64 0, .int .i64 0, .int .i64 0, .int .i64 0, .int .i64 0, .int .i64 0, .int .i64 0, .int .i64 0, .int .i64 0, .int .i64 0, .int .i64 0, .int .i64 0, .int .i64 0, .int .i64 0, .int .i64 0, .int .i64 0, .int .i64 0, .int .i64 0, .int .i64 0, .int .i64 0, .int .i64 0, .int .i64 0, .int .i64 0, .int .i64 0, .int .i64 0, .int .i64 0, .int .i64 0, .int .i64 0, .int .i64 0, .int .i64 0, .int .i64 0, .int .i64 0, .int .i64 0, .int .i64 0, .int .i64 0, .int .i64 0, .int .i64 0, .int .i64 0, .int .i64 0, .int .i64 0, .int .i64 0, .int .i64 0, .int .i64 0, .int .i64 0, .int .i64 0, .int .i64 0, .int .i64 0, .int .i64 0, .int .i64 0, .int .i64 0, .int .i64 0, .int .i64 0, .int .i64 0, .int .i64 0, .int .i64 0, .int .i64 0, .int .i64 0, .int .i64 0, .int .i64 0, .int .i64 0, .int .i64 0, .int .i64 0, .int .i64 0, .int .i64 0, .int .i64 0, .int .i64 0, .int .i64 0, .int .i64 0, .int .i64 0, .int .i64 0, .int .i64 0, .int .i64 0, .int .i64 0, .int .i64 0, .int .i64 0, .int .i64 0, .int .i64 0, .int .i64 0, .int .i64 0, .int .i64 0, .int .i64 0, .int .i64 0, .int .i64 0, .int .i64 0, .int .i64 0, .int .i64 0, .int .i64 0, .int .i64 0, .int .i64 0, .int .i64 0, .int .i64 0, .int .i64 0, .int .i64 0, .int .i64 0, .int .i64 0, .int .i64 0, .int .i64 0, .int .i64 0, .int .i64 0, .int .i64 0, .int .i64 0, .int .i64 0, .int .i64 0, .int .i64 0, .int .i64 0, .int .i64 0, .int .i64 0, .int .i64 0, .int .i64 0, .int .i64 0, .int .i64 0, .int .i64 0, .int .i64 0, .int .i64 0, .int .i64 0, .int .i64 0, .int .i64 0, .int .i64 0, .int .i64 0, .int .i64 0, .int .i64 0, .int .i64 0, .int .i64 0, .int .i64 0, .int .i64 0, .int .i64 0, .int .i64 0, .int .i64 0, .int .i64 0, .int .i64 0, .int .i64 0, .int .i64 0, .int .i64 0, .int .i64 0, .int .i64 0, .int .i64 0, .int .i64 0, .int .i64 0, .int .i64 0, .int .i64 0, .int .i64 0, .int .i64 0, .int .i64 0, .int .i64 0, .int .i64 0, .int .i64 0, .int .i64 0, .int .i64 0, .int .i64 0, .int .i64 0, .int .i64 0, .int .i64 0, .int .i64 0, .int .i64 0, .int .i64 0, .int .i64 0, .int .i64 0, .int .i64 0, .int .i64 0, .int .i64 0, .int .i64 0, .int .i64 0, .int .i64 0, .int .i64 0, .int .i64 0, .int .i64 0, .int .i64 0, .int .i64 0, .int .i64 0, .int .i64 0, .int .i64 0, .int .i64 0, .int .i64 0, .int .i64 0, .int .i64 0, .int .i64 0, .int .i64 0, .int .i64 0, .int .i64 0, .int .i64 0, .int .i64 0, .int .i64 0, .int .i64 0, .int .i64 0, .int .i64 0, .int .i64 0, .int .i64 0, .int .i64 0, .int .i64 0, .int .i64 0, .int .i64 0, .int .i64 0, .int .i64 0, .int .i64 0, .int .i64 0, .int .i64 0, .int .i64 0, .int .i64 0, .int .i64 0, .int .i64 0, .int .i64 0, .int .i64 0, .int .i64 0, .int .i64 0, .int .i64 0, .int .i64 0, .int .i64 0, .int .i64 0, .slice none 0 0, .slice none 0 0], by kernel_rfl⟩,
 ⟨107, _, _, _, Try.runUnderlying107, Try.sizeOf107, Try.isAgg107, 24, .slice none 0 0, by kernel_rfl⟩,
 ⟨110, _, _, _, Try.runUnderlying110, Try.sizeOf110, Try.isAgg110, 32, .agg #[.int .i64 0, .int .i64 0, .int .i64 0, .int .i64 0], by kernel_rfl⟩,
 ⟨117, _, _, _, Try.runUnderlying117, Try.sizeOf117, Try.isAgg117, 24, .slice none 0 0, by kernel_rfl⟩,
 ⟨140, _, _, _, Try.runUnderlying140, Try.sizeOf140, Try.isAgg140, 8, .agg #[.bool false, .bool false, .bool false, .bool false, .bool false, .bool false, .bool false, .bool false], by kernel_rfl⟩,
 ⟨158, _, _, _, Try.runUnderlying158, Try.sizeOf158, Try.isAgg158, 2, .int .i16 0, by kernel_rfl⟩]
theorem fn {N m0 : Nat} {c : Code} {S : ASt} {x : Ex} {S2 : ASt} (sc : List It) (h : lhs (finC tb N m0 c S sc x S2) = rhs (finC tb N m0 c S sc x S2) sc := by kernel_rfl) : Runs Try.prog N m0 c S x S2 := Runs.fin mixed sc h
noncomputable def tree_shape.F : FI Try.prog 71 := fi Try.f71 50 Try.call71 Try.func71
def tree_shape.m (a_1 : Int) : tree_uses × Bool :=
 if a_1 = 1 then (((tree_uses.mk true false false true false false false false), true)) else (letC (if a_1 = 2 then ((true : Bool)) else (if a_1 = 3 then ((true : Bool)) else (if a_1 = 4 then ((true : Bool)) else (((decide (a_1 = 5)) : Bool)))) : Bool) fun o_3 => if o_3 = true then (((tree_uses.mk true true true false false false false false), true)) else (if a_1 = 6 then (((tree_uses.mk true false false false false true false false), true)) else (if a_1 = 7 then (((tree_uses.mk false true false false false true false false), true)) else (if a_1 = 8 then (((tree_uses.mk true false false false false true false true), true)) else (if a_1 = 9 then (((tree_uses.mk false true false false false true false true), true)) else (letC (if a_1 = 10 then ((true : Bool)) else (((decide (a_1 = 11)) : Bool)) : Bool) fun o_14 => if o_14 = true then (((tree_uses.mk true true false false false true false true), true)) else (if a_1 = 12 then (((tree_uses.mk false true true false true true false true), true)) else (if a_1 = 13 then (((tree_uses.mk true true false false false true true false), true)) else (if a_1 = 14 then (((tree_uses.mk false true true false false true true false), true)) else (if a_1 = 15 then (((tree_uses.mk false true false false false false false false), true)) else (letC (if a_1 = 16 then ((true : Bool)) else (((decide (a_1 = 17)) : Bool)) : Bool) fun o_23 => if o_23 = true then (((tree_uses.mk false true true false true false false false), true)) else (if a_1 = 18 then (((tree_uses.mk false false false false false false false false), true)) else (((tree_uses.mk false false false false false false false false), false))))))))))))))
noncomputable def tree_shape.o (a_1 : Int) (r : tree_uses × Bool) : Out := .ret (.tup [.agg (tree_uses.c r.1), .v (.bool r.2)]) [] []
theorem tree_shape.ev {a_1 : Int} {r : tree_uses × Bool} (H : tree_shape.m a_1 = r) : Ev Try.prog 71 [vi a_1] [] [] (tree_shape.o a_1 r) := by
 unfold tree_shape.m at H
 rcases ic H with ⟨h_2, H⟩ | ⟨h_2, H⟩
 ·subst H
  exact tree_shape.F.run tb mixed [br h_2] rfl (by kernel_rfl)
 ·obtain ⟨o_3, e_4, H⟩ := ltE H
  have j_5 : Rq tree_shape.F 0 [1, 0, 1, 0, 1, 1, 0, 1] ⟨[(2, .ref 0 0), (4, vi a_1), (8, .v (.bool (decide (a_1 = 2))))], [.box (tree_uses.c (tree_uses.mk false false false false false false false false))], []⟩ ((fun _ => .normal : Bool → Ex) o_3) ((fun o_3 => ⟨[(2, .ref 0 0), (4, vi a_1), (8, .v (.bool o_3))], [.box (tree_uses.c (tree_uses.mk false false false false false false false false))], []⟩ : Bool → ASt) o_3) := by
   clear H
   have H := e_4
   clear e_4
   rcases ic H with ⟨h_6, H⟩ | ⟨h_6, H⟩
   ·subst H
    exact fn [br h_6]
   ·rcases ic H with ⟨h_7, H⟩ | ⟨h_7, H⟩
    ·subst H
     exact fn [br h_6, br h_7]
    ·rcases ic H with ⟨h_8, H⟩ | ⟨h_8, H⟩
     ·subst H
      exact fn [br h_6, br h_7, br h_8]
     ·subst H
      exact fn [br h_6, br h_7, br h_8]
  rcases ie H with ⟨h_9, H⟩ | ⟨h_9, H⟩
  ·subst H
   exact tree_shape.F.run tb mixed [br h_2, sc_ j_5, br h_9] rfl (by kernel_rfl)
  ·rcases ic H with ⟨h_10, H⟩ | ⟨h_10, H⟩
   ·subst H
    exact tree_shape.F.run tb mixed [br h_2, sc_ j_5, br h_9, br h_10] rfl (by kernel_rfl)
   ·rcases ic H with ⟨h_11, H⟩ | ⟨h_11, H⟩
    ·subst H
     exact tree_shape.F.run tb mixed [br h_2, sc_ j_5, br h_9, br h_10, br h_11] rfl (by kernel_rfl)
    ·rcases ic H with ⟨h_12, H⟩ | ⟨h_12, H⟩
     ·subst H
      exact tree_shape.F.run tb mixed [br h_2, sc_ j_5, br h_9, br h_10, br h_11, br h_12] rfl (by kernel_rfl)
     ·rcases ic H with ⟨h_13, H⟩ | ⟨h_13, H⟩
      ·subst H
       exact tree_shape.F.run tb mixed [br h_2, sc_ j_5, br h_9, br h_10, br h_11, br h_12, br h_13] rfl (by kernel_rfl)
      ·obtain ⟨o_14, e_15, H⟩ := ltE H
       have j_16 : Rq tree_shape.F 0 [1, 0, 1, 0, 1, 1, 1, 1, 1, 1, 1, 1, 1, 1, 1, 1, 0, 1] ⟨[(2, .ref 0 0), (4, vi a_1), (26, .v (.bool (decide (a_1 = 10))))], [.box (tree_uses.c (tree_uses.mk false false false false false false false false))], []⟩ ((fun _ => .normal : Bool → Ex) o_14) ((fun o_14 => ⟨[(2, .ref 0 0), (4, vi a_1), (26, .v (.bool o_14))], [.box (tree_uses.c (tree_uses.mk false false false false false false false false))], []⟩ : Bool → ASt) o_14) := by
        clear H
        have H := e_15
        clear e_15
        rcases ic H with ⟨h_17, H⟩ | ⟨h_17, H⟩
        ·subst H
         exact fn [br h_17]
        ·subst H
         exact fn [br h_17]
       rcases ie H with ⟨h_18, H⟩ | ⟨h_18, H⟩
       ·subst H
        exact tree_shape.F.run tb mixed [br h_2, sc_ j_5, br h_9, br h_10, br h_11, br h_12, br h_13, sc_ j_16, br h_18] rfl (by kernel_rfl)
       ·rcases ic H with ⟨h_19, H⟩ | ⟨h_19, H⟩
        ·subst H
         exact tree_shape.F.run tb mixed [br h_2, sc_ j_5, br h_9, br h_10, br h_11, br h_12, br h_13, sc_ j_16, br h_18, br h_19] rfl (by kernel_rfl)
        ·rcases ic H with ⟨h_20, H⟩ | ⟨h_20, H⟩
         ·subst H
          exact tree_shape.F.run tb mixed [br h_2, sc_ j_5, br h_9, br h_10, br h_11, br h_12, br h_13, sc_ j_16, br h_18, br h_19, br h_20] rfl (by kernel_rfl)
         ·rcases ic H with ⟨h_21, H⟩ | ⟨h_21, H⟩
          ·subst H
           exact tree_shape.F.run tb mixed [br h_2, sc_ j_5, br h_9, br h_10, br h_11, br h_12, br h_13, sc_ j_16, br h_18, br h_19, br h_20, br h_21] rfl (by kernel_rfl)
          ·rcases ic H with ⟨h_22, H⟩ | ⟨h_22, H⟩
           ·subst H
            exact tree_shape.F.run tb mixed [br h_2, sc_ j_5, br h_9, br h_10, br h_11, br h_12, br h_13, sc_ j_16, br h_18, br h_19, br h_20, br h_21, br h_22] rfl (by kernel_rfl)
           ·obtain ⟨o_23, e_24, H⟩ := ltE H
            have j_25 : Rq tree_shape.F 0 [1, 0, 1, 0, 1, 1, 1, 1, 1, 1, 1, 1, 1, 1, 1, 1, 1, 1, 1, 1, 1, 1, 1, 1, 1, 1, 0, 1] ⟨[(2, .ref 0 0), (4, vi a_1), (42, .v (.bool (decide (a_1 = 16))))], [.box (tree_uses.c (tree_uses.mk false false false false false false false false))], []⟩ ((fun _ => .normal : Bool → Ex) o_23) ((fun o_23 => ⟨[(2, .ref 0 0), (4, vi a_1), (42, .v (.bool o_23))], [.box (tree_uses.c (tree_uses.mk false false false false false false false false))], []⟩ : Bool → ASt) o_23) := by
             clear H
             have H := e_24
             clear e_24
             rcases ic H with ⟨h_26, H⟩ | ⟨h_26, H⟩
             ·subst H
              exact fn [br h_26]
             ·subst H
              exact fn [br h_26]
            rcases ie H with ⟨h_27, H⟩ | ⟨h_27, H⟩
            ·subst H
             exact tree_shape.F.run tb mixed [br h_2, sc_ j_5, br h_9, br h_10, br h_11, br h_12, br h_13, sc_ j_16, br h_18, br h_19, br h_20, br h_21, br h_22, sc_ j_25, br h_27] rfl (by kernel_rfl)
            ·rcases ic H with ⟨h_28, H⟩ | ⟨h_28, H⟩
             ·subst H
              exact tree_shape.F.run tb mixed [br h_2, sc_ j_5, br h_9, br h_10, br h_11, br h_12, br h_13, sc_ j_16, br h_18, br h_19, br h_20, br h_21, br h_22, sc_ j_25, br h_27, br h_28] rfl (by kernel_rfl)
             ·subst H
              exact tree_shape.F.run tb mixed [br h_2, sc_ j_5, br h_9, br h_10, br h_11, br h_12, br h_13, sc_ j_16, br h_18, br h_19, br h_20, br h_21, br h_22, sc_ j_25, br h_27, br h_28] rfl (by kernel_rfl)
noncomputable def tree_temp.F : FI Try.prog 72 := fi Try.f72 22 Try.call72 Try.func72
def tree_temp.m (a_1 : Bool) (a_2 : Int) : Bool :=
 if a_1 = true then (if a_2 ≥ 0 then (if a_2 < 400 then (true) else (false)) else (false)) else ((decide (a_2 = 0)))
noncomputable def tree_temp.o (a_1 : Bool) (a_2 : Int) (r : Bool) : Out := .ret (.v (.bool r)) [] []
theorem tree_temp.ev {a_1 : Bool} {a_2 : Int} {r : Bool} (H : tree_temp.m a_1 a_2 = r) : Ev Try.prog 72 [.v (.bool a_1), vi a_2] [] [] (tree_temp.o a_1 a_2 r) := by
 unfold tree_temp.m at H
 rcases ie H with ⟨h_3, H⟩ | ⟨h_3, H⟩
 ·rcases ic H with ⟨h_4, H⟩ | ⟨h_4, H⟩
  ·rcases ic H with ⟨h_5, H⟩ | ⟨h_5, H⟩
   ·subst H
    exact tree_temp.F.run tb mixed [br h_3, pT, br h_4, pT, br h_5, pT] rfl (by kernel_rfl)
   ·subst H
    exact tree_temp.F.run tb mixed [br h_3, pT, br h_4, pT, br h_5, bn h_3, pF, pF] rfl (by kernel_rfl)
  ·subst H
   exact tree_temp.F.run tb mixed [br h_3, pT, br h_4, pF, au, bn h_3, pF, pF] rfl (by kernel_rfl)
 ·subst H
  exact tree_temp.F.run tb mixed [br h_3, pF, au, pF, au, bn h_3, pT, pF] rfl (by kernel_rfl)
noncomputable def tree_places.F : FI Try.prog 73 := fi Try.f73 69 Try.call73 Try.func73
def tree_places.l1 (a_1 : tree_uses) (v_21 : List api_Loc) (s_24 : Int) : Option (Int ⊕ (Unit ⊕ Unit)) :=
 if s_24 < (v_21.length : Int) then (if 0 ≤ s_24 ∧ s_24 < (v_21.length : Int) then (letC (gi v_21 s_24) fun v_32 => if (v_32.Atomic == a_1.atomic) = true then (some (Sum.inl (wr .i64 (s_24 + 1)))) else (some (Sum.inr (Sum.inl ())))) else none) else (some (Sum.inr (Sum.inr (()))))
def tree_places.m (a_1 : tree_uses) (a_2 : api_Ins) (a_3 : List api_Loc) : Option (Bool) :=
 if a_1.place = true then ((if a_1.row = true then (some (Sum.inl a_2.Len : Int ⊕ Unit)) else (if a_2.Len = 0 then (some (Sum.inl 1 : Int ⊕ Unit)) else (some (Sum.inr (()) : Int ⊕ Unit))) : Option (Int ⊕ Unit)).bind fun o_5 => match o_5 with | Sum.inl s_10 => ((if s_10 < 1 then (some (true : Bool)) else (if s_10 > (a_3.length : Int) then (some (true : Bool)) else (if a_2.Loc < 0 then (some (true : Bool)) else (letC (wr .i64 ((a_3.length : Int) - s_10)) fun v_18 => some ((decide (a_2.Loc > v_18)) : Bool)))) : Option Bool).bind fun o_12 => if o_12 = true then (some false) else (if 0 ≤ a_2.Loc ∧ a_2.Loc ≤ (wr .i64 (a_2.Loc + s_10)) ∧ (wr .i64 (a_2.Loc + s_10)) ≤ (a_3.length : Int) then (letC ((a_3.drop a_2.Loc.toNat).take ((wr .i64 (a_2.Loc + s_10)).toNat - a_2.Loc.toNat)) fun v_21 => (B.loop (tree_places.l1 a_1 v_21) (0 : Int)).bind fun o_25 => match o_25 with | Sum.inl s_28 => (some false) | Sum.inr (s_29) => (some true)) else none)) | Sum.inr (s_11) => (some false)) else (if a_2.Loc = 0 then (some (decide (a_2.Len = 0))) else (some false))
noncomputable def tree_places.o (a_1 : tree_uses) (a_2 : api_Ins) (a_3 : List api_Loc) (r : Bool) : Out := .ret (.v (.bool r)) [] []
theorem tree_places.ev {a_1 : tree_uses} {a_2 : api_Ins} {a_3 : List api_Loc} {r : Bool} (H : tree_places.m a_1 a_2 a_3 = some r) : Ev Try.prog 73 [.agg (tree_uses.c a_1), .agg (api_Ins.c a_2), .ro false 2 a_3.length (a_3.map api_Loc.c)] [] [] (tree_places.o a_1 a_2 a_3 r) := by
 unfold tree_places.m at H
 rcases ie H with ⟨h_4, H⟩ | ⟨h_4, H⟩
 ·obtain ⟨o_5, e_6, H⟩ := bdE H
  have j_7 : Rq tree_places.F 0 [1, 1, 1, 0, 1] ⟨[(2, .ro false 2 a_3.length (a_3.map api_Loc.c)), (3, .ref 0 0), (4, .ref 1 0), (7, vi 1), (22, .v (.bool a_1.row))], [.box (tree_uses.c a_1), .box (api_Ins.c a_2)], []⟩ ((fun o => match o with | Sum.inl _ => .normal | Sum.inr (_) => .ret : (Int ⊕ Unit) → Ex) o_5) ((fun o => match o with | Sum.inl s_10 => ⟨[(2, .ro false 2 a_3.length (a_3.map api_Loc.c)), (3, .ref 0 0), (4, .ref 1 0), (7, vi s_10)], [.box (tree_uses.c a_1), .box (api_Ins.c a_2)], []⟩ | Sum.inr (s_11) => ⟨[(6, .v (.bool false))], [], []⟩ : (Int ⊕ Unit) → ASt) o_5) := by
   clear H
   have H := e_6
   clear e_6
   rcases ie H with ⟨h_8, H⟩ | ⟨h_8, H⟩
   ·obtain rfl := sj H
    exact fn [br h_8]
   ·rcases ic H with ⟨h_9, H⟩ | ⟨h_9, H⟩
    ·obtain rfl := sj H
     exact fn [br h_8, bn h_9]
    ·obtain rfl := sj H
     exact fn [br h_8, bn h_9]
  rcases o_5 with s_10 | s_11
  ·obtain ⟨o_12, e_13, H⟩ := bdE H
   have j_14 : Rq tree_places.F 0 [1, 1, 1, 1, 0, 0] ⟨[(2, .ro false 2 a_3.length (a_3.map api_Loc.c)), (3, .ref 0 0), (4, .ref 1 0), (7, vi s_10)], [.box (tree_uses.c a_1), .box (api_Ins.c a_2)], []⟩ ((fun _ => .normal : Bool → Ex) o_12) ((fun o_12 => ⟨[(2, .ro false 2 a_3.length (a_3.map api_Loc.c)), (3, .ref 0 0), (4, .ref 1 0), (7, vi s_10), (49, .v (.bool o_12))], [.box (tree_uses.c a_1), .box (api_Ins.c a_2)], []⟩ : Bool → ASt) o_12) := by
    clear H
    have H := e_13
    clear e_13
    rcases ic H with ⟨h_15, H⟩ | ⟨h_15, H⟩
    ·obtain rfl := sj H
     exact fn [br h_15, pT, au, pT, au, pT]
    ·rcases ic H with ⟨h_16, H⟩ | ⟨h_16, H⟩
     ·obtain rfl := sj H
      exact fn [br h_15, pF, br h_16, pT, au, pT]
     ·rcases ic H with ⟨h_17, H⟩ | ⟨h_17, H⟩
      ·obtain rfl := sj H
       exact fn [br h_15, pF, br h_16, pF, br h_17, pT]
      ·let v_18 : Int := wr .i64 ((a_3.length : Int) - s_10)
       replace H := ltD H
       obtain rfl := sj H
       exact fn [br h_15, pF, br h_16, pF, br h_17, pF]
   rcases ie H with ⟨h_19, H⟩ | ⟨h_19, H⟩
   ·obtain rfl := sj H
    exact tree_places.F.run tb mixed [bn h_4, sc_ j_7, sg_ 8 j_14, br h_19] rfl (by kernel_rfl)
   ·obtain ⟨g_20, H⟩ := gdE H
    let v_21 : List api_Loc := (a_3.drop a_2.Loc.toNat).take ((wr .i64 (a_2.Loc + s_10)).toNat - a_2.Loc.toNat)
    replace H := ltD H
    obtain ⟨o_25, e_26, H⟩ := bdE H
    have j_27 := Runs.loop (P := Try.prog) (N := tree_places.F.N) (m0 := 0) (c := sub_ tree_places.F.c [1, 1, 1, 1, 1, 0, 1, 0, 0]) (f := (tree_places.l1 a_1 v_21)) (St := fun s_24 => ⟨[(3, .ref 0 0), (57, .ro false 2 v_21.length (v_21.map api_Loc.c)), (58, vi (v_21.length : Int)), (59, vi s_24)], [.box (tree_uses.c a_1)], []⟩) (xo := (fun o => match o with | Sum.inl _ => .ret | Sum.inr (_) => (.exit 0) : (Unit ⊕ Unit) → Ex)) (So := (fun o => match o with | Sum.inl s_28 => ⟨[(6, .v (.bool false))], [], []⟩ | Sum.inr (s_29) => ⟨[], [], []⟩ : (Unit ⊕ Unit) → ASt)) (by intro o; rcases o with _ | _ <;> simp) (fun s_24 z H => by
     unfold tree_places.l1 at H
     rcases ic H with ⟨h_30, H⟩ | ⟨h_30, H⟩
     ·obtain ⟨g_31, H⟩ := gdE H
      let v_32 : api_Loc := gi v_21 s_24
      replace H := ltD H
      rcases ie H with ⟨h_33, H⟩ | ⟨h_33, H⟩
      ·obtain rfl := sj H
       exact fn [br h_30, ix api_Loc.c g_31, bn h_33]
      ·obtain rfl := sj H
       exact fn [br h_30, ix api_Loc.c g_31, bn h_33]
     ·obtain rfl := sj H
      exact fn [br h_30] (by kernel_rfl)) e_26
    rcases o_25 with s_28 | s_29
    ·obtain rfl := sj H
     exact tree_places.F.run tb mixed [bn h_4, sc_ j_7, sg_ 8 j_14, br h_19, ct api_Loc.c a_3 a_2.Loc (wr .i64 (a_2.Loc + s_10)) g_20, su j_27] rfl (by kernel_rfl)
    ·obtain rfl := sj H
     exact tree_places.F.run tb mixed [bn h_4, sc_ j_7, sg_ 8 j_14, br h_19, ct api_Loc.c a_3 a_2.Loc (wr .i64 (a_2.Loc + s_10)) g_20, su j_27] rfl (by kernel_rfl)
  ·obtain rfl := sj H
   exact tree_places.F.run tb mixed [bn h_4, sc_ j_7] rfl (by kernel_rfl)
 ·rcases ic H with ⟨h_34, H⟩ | ⟨h_34, H⟩
  ·obtain rfl := sj H
   exact tree_places.F.run tb mixed [bn h_4, br h_34, pT] rfl (by kernel_rfl)
  ·obtain rfl := sj H
   exact tree_places.F.run tb mixed [bn h_4, br h_34, pF] rfl (by kernel_rfl)
def tree_places.k1 (a_1 : tree_uses) (v_21 : List api_Loc) (s_24 : Int) : Option (Int ⊕ (Unit ⊕ Unit)) :=
 if s_24 < (v_21.length : Int) then (if 0 ≤ s_24 ∧ s_24 < (v_21.length : Int) then (letK (gi v_21 s_24) fun v_32 => if (v_32.Atomic == a_1.atomic) = true then (some (Sum.inl (wr .i64 (s_24 + 1)))) else (some (Sum.inr (Sum.inl ())))) else none) else (some (Sum.inr (Sum.inr (()))))
theorem tree_places.k1_le (a_1 : tree_uses) (v_21 : List api_Loc) (s_24 : Int) : OLe (tree_places.k1 a_1 v_21 s_24) (tree_places.l1 a_1 v_21 s_24) := by
 unfold tree_places.k1 tree_places.l1
 repeat' with_reducible first | refine OLe.lt (fun _ => ?_) | refine OLe.lp (fun _ => ?_) | refine OLe.bind ?_ (fun _ => ?_) | refine OLe.ite ?_ ?_ | exact OLe.rfl' | split
def tree_places.k (a_1 : tree_uses) (a_2 : api_Ins) (a_3 : List api_Loc) : Option (Bool) :=
 if a_1.place = true then ((if a_1.row = true then (some (Sum.inl a_2.Len : Int ⊕ Unit)) else (if a_2.Len = 0 then (some (Sum.inl 1 : Int ⊕ Unit)) else (some (Sum.inr (()) : Int ⊕ Unit))) : Option (Int ⊕ Unit)).bind fun o_5 => match o_5 with | Sum.inl s_10 => ((if s_10 < 1 then (some (true : Bool)) else (if s_10 > (a_3.length : Int) then (some (true : Bool)) else (if a_2.Loc < 0 then (some (true : Bool)) else (letK (wr .i64 ((a_3.length : Int) - s_10)) fun v_18 => some ((decide (a_2.Loc > v_18)) : Bool)))) : Option Bool).bind fun o_12 => if o_12 = true then (some false) else (if 0 ≤ a_2.Loc ∧ a_2.Loc ≤ (wr .i64 (a_2.Loc + s_10)) ∧ (wr .i64 (a_2.Loc + s_10)) ≤ (a_3.length : Int) then (letK ((a_3.drop a_2.Loc.toNat).take ((wr .i64 (a_2.Loc + s_10)).toNat - a_2.Loc.toNat)) fun v_21 => (lpK (tree_places.k1 a_1 v_21) (0 : Int)).bind fun o_25 => match o_25 with | Sum.inl s_28 => (some false) | Sum.inr (s_29) => (some true)) else none)) | Sum.inr (s_11) => (some false)) else (if a_2.Loc = 0 then (some (decide (a_2.Len = 0))) else (some false))
theorem tree_places.k_le (a_1 : tree_uses) (a_2 : api_Ins) (a_3 : List api_Loc) : OLe (tree_places.k a_1 a_2 a_3) (tree_places.m a_1 a_2 a_3) := by
 unfold tree_places.k tree_places.m
 repeat' with_reducible first | exact tree_places.k1_le .. | refine OLe.lt (fun _ => ?_) | refine OLe.lp (fun _ => ?_) | refine OLe.bind ?_ (fun _ => ?_) | refine OLe.ite ?_ ?_ | exact OLe.rfl' | split
 all_goals (exfalso; simp_all)
noncomputable def tree_above.F : FI Try.prog 74 := fi Try.f74 29 Try.call74 Try.func74
def tree_above.l1 (a_4 : List Int) (a_5 : Nat) (v_6 : Int) (s_11 : Int) : Option (Int ⊕ (Unit ⊕ Unit)) :=
 if s_11 > v_6 then (if 0 ≤ s_11 ∧ s_11 < (a_5 : Int) then (if 0 ≤ s_11 ∧ s_11 < (a_4.length : Int) then (letC (gi a_4 s_11) fun v_20 => if v_20 = v_6 then (some (Sum.inr (Sum.inl ()))) else (some (Sum.inl v_20))) else none) else none) else (some (Sum.inr (Sum.inr (()))))
def tree_above.m (a_1 : Int) (a_2 : Int) (a_3 : List (Int × Int)) (a_4 : List Int) (a_5 : Nat) : Option (Bool) :=
 match aget a_3 a_1 with | none => (some false) | some v_6 => ((B.loop (tree_above.l1 a_4 a_5 v_6) (a_2 : Int)).bind fun o_12 => match o_12 with | Sum.inl s_15 => (some true) | Sum.inr (s_16) => (some false))
noncomputable def tree_above.o (a_1 : Int) (a_2 : Int) (a_3 : List (Int × Int)) (a_4 : List Int) (a_5 : Nat) (r : Bool) : Out := .ret (.v (.bool r)) [.mp .i64 (mE (vI .i64) a_3), .arr false 3 1 a_5 (a_4.map (cI .i64))] []
theorem tree_above.ev {a_1 : Int} {a_2 : Int} {a_3 : List (Int × Int)} {a_4 : List Int} {a_5 : Nat} {r : Bool} (H : tree_above.m a_1 a_2 a_3 a_4 a_5 = some r) : Ev Try.prog 74 [.mp 0, .sl 0 1 a_5 0 a_5, vi a_1, vi a_2] [.mp .i64 (mE (vI .i64) a_3), .arr false 3 1 a_5 (a_4.map (cI .i64))] [] (tree_above.o a_1 a_2 a_3 a_4 a_5 r) := by
 unfold tree_above.m at H
 rcases e_7 : aget a_3 a_1 with _ | v_6
 ·rw [e_7] at H
  obtain rfl := sj H
  exact tree_above.F.run tb mixed [mgN (vI .i64) e_7, au] rfl (by kernel_rfl)
 ·rw [e_7] at H
  obtain ⟨o_12, e_13, H⟩ := bdE H
  have j_14 := Runs.loop (P := Try.prog) (N := tree_above.F.N) (m0 := 2) (c := sub_ tree_above.F.c [1, 1, 1, 0, 0, 0]) (f := (tree_above.l1 a_4 a_5 v_6)) (St := fun s_11 => ⟨[(1, .sl 0 1 a_5 0 a_5), (3, vi s_11), (9, vi v_6)], [.mp .i64 (mE (vI .i64) a_3), .arr false 3 1 a_5 (a_4.map (cI .i64))], []⟩) (xo := (fun o => match o with | Sum.inl _ => .ret | Sum.inr (_) => (.exit 0) : (Unit ⊕ Unit) → Ex)) (So := (fun o => match o with | Sum.inl s_15 => ⟨[(8, .v (.bool true))], [.mp .i64 (mE (vI .i64) a_3), .arr false 3 1 a_5 (a_4.map (cI .i64))], []⟩ | Sum.inr (s_16) => ⟨[], [.mp .i64 (mE (vI .i64) a_3), .arr false 3 1 a_5 (a_4.map (cI .i64))], []⟩ : (Unit ⊕ Unit) → ASt)) (by intro o; rcases o with _ | _ <;> simp) (fun s_11 z H => by
   unfold tree_above.l1 at H
   rcases ic H with ⟨h_17, H⟩ | ⟨h_17, H⟩
   ·obtain ⟨g_18, H⟩ := gdE H
    obtain ⟨g_19, H⟩ := gdE H
    let v_20 : Int := gi a_4 s_11
    replace H := ltD H
    rcases ic H with ⟨h_21, H⟩ | ⟨h_21, H⟩
    ·obtain rfl := sj H
     exact fn [br h_17, pf g_18, el (cI .i64) g_19, br h_21]
    ·obtain rfl := sj H
     exact fn [br h_17, pf g_18, el (cI .i64) g_19, br h_21]
   ·obtain rfl := sj H
    exact fn [br h_17] (by kernel_rfl)) e_13
  rcases o_12 with s_15 | s_16
  ·obtain rfl := sj H
   exact tree_above.F.run tb mixed [mgS (vI .i64) e_7, au, su j_14] rfl (by kernel_rfl)
  ·obtain rfl := sj H
   exact tree_above.F.run tb mixed [mgS (vI .i64) e_7, au, su j_14] rfl (by kernel_rfl)
def tree_above.k1 (a_4 : List Int) (a_5 : Nat) (v_6 : Int) (s_11 : Int) : Option (Int ⊕ (Unit ⊕ Unit)) :=
 if s_11 > v_6 then (if 0 ≤ s_11 ∧ s_11 < (a_5 : Int) then (if 0 ≤ s_11 ∧ s_11 < (a_4.length : Int) then (letK (gi a_4 s_11) fun v_20 => if v_20 = v_6 then (some (Sum.inr (Sum.inl ()))) else (some (Sum.inl v_20))) else none) else none) else (some (Sum.inr (Sum.inr (()))))
theorem tree_above.k1_le (a_4 : List Int) (a_5 : Nat) (v_6 : Int) (s_11 : Int) : OLe (tree_above.k1 a_4 a_5 v_6 s_11) (tree_above.l1 a_4 a_5 v_6 s_11) := by
 unfold tree_above.k1 tree_above.l1
 repeat' with_reducible first | refine OLe.lt (fun _ => ?_) | refine OLe.lp (fun _ => ?_) | refine OLe.bind ?_ (fun _ => ?_) | refine OLe.ite ?_ ?_ | exact OLe.rfl' | split
def tree_above.k (a_1 : Int) (a_2 : Int) (a_3 : List (Int × Int)) (a_4 : List Int) (a_5 : Nat) : Option (Bool) :=
 match aget a_3 a_1 with | none => (some false) | some v_6 => ((lpK (tree_above.k1 a_4 a_5 v_6) (a_2 : Int)).bind fun o_12 => match o_12 with | Sum.inl s_15 => (some true) | Sum.inr (s_16) => (some false))
theorem tree_above.k_le (a_1 : Int) (a_2 : Int) (a_3 : List (Int × Int)) (a_4 : List Int) (a_5 : Nat) : OLe (tree_above.k a_1 a_2 a_3 a_4 a_5) (tree_above.m a_1 a_2 a_3 a_4 a_5) := by
 unfold tree_above.k tree_above.m
 repeat' with_reducible first | exact tree_above.k1_le .. | refine OLe.lt (fun _ => ?_) | refine OLe.lp (fun _ => ?_) | refine OLe.bind ?_ (fun _ => ?_) | refine OLe.ite ?_ ?_ | exact OLe.rfl' | split
 all_goals try simp_all only [Option.some.injEq, reduceCtorEq]
 all_goals try subst_vars
 repeat' with_reducible first | exact tree_above.k1_le .. | refine OLe.lt (fun _ => ?_) | refine OLe.lp (fun _ => ?_) | refine OLe.bind ?_ (fun _ => ?_) | refine OLe.ite ?_ ?_ | exact OLe.rfl' | split
 all_goals (exfalso; simp_all)
noncomputable def tree_Right.F : FI Try.prog 33 := fi Try.f33 213 Try.call33 Try.func33
def tree_Right.l2 (a_1 : List api_Ins) (s_22 : (List Int) × (List Int) × (List (Int × Int))) (s_88 : Nat × Int) : Option ((Nat × Int) ⊕ (Unit ⊕ Unit)) :=
 if s_88.2 < (a_1.length : Int) then (if 0 ≤ s_88.2 ∧ s_88.2 < (a_1.length : Int) then (letC (gi a_1 s_88.2) fun v_96 => (if s_88.2 > 0 then (if 0 ≤ s_88.2 ∧ s_88.2 < (((a_1.length : Int).toNat : Nat) : Int) then (if 0 ≤ s_88.2 ∧ s_88.2 < (s_22.1.length : Int) then (letC (gi s_22.1 s_88.2) fun v_103 => some ((!(decide (v_103 = 1))) : Bool)) else none) else none) else (some (false : Bool)) : Option Bool).bind fun o_97 => if o_97 = true then (some (Sum.inr (Sum.inl ()))) else (letC (tree_shape.m v_96.Op) fun r_105 => (if r_105.1.a = true then ((tree_above.m v_96.A s_88.2 s_22.2.2 s_22.2.1 s_88.1).bind fun r_111 => if r_111 = true then (if r_105.1.b = true then ((tree_above.m v_96.B s_88.2 s_22.2.2 s_22.2.1 s_88.1).bind fun r_115 => some ((!r_115) : Bool)) else (some (false : Bool))) else (some (true : Bool))) else (if r_105.1.b = true then ((tree_above.m v_96.B s_88.2 s_22.2.2 s_22.2.1 s_88.1).bind fun r_118 => some ((!r_118) : Bool)) else (some (false : Bool))) : Option Bool).bind fun o_107 => if o_107 = true then (some (Sum.inr (Sum.inl ()))) else (letC (wr .i64 (s_88.2 + 1)) fun v_121 => some (Sum.inl (s_88.1, v_121))))) else none) else (some (Sum.inr (Sum.inr (()))))
def tree_Right.l1 (a_1 : List api_Ins) (a_2 : List api_Loc) (s_17 : (List Int) × (List Int) × (List (Int × Int)) × Int) : Option (((List Int) × (List Int) × (List (Int × Int)) × Int) ⊕ (Unit ⊕ ((List Int) × (List Int) × (List (Int × Int))))) :=
 if s_17.2.2.2 < (a_1.length : Int) then (if 0 ≤ s_17.2.2.2 ∧ s_17.2.2.2 < (a_1.length : Int) then (letC (gi a_1 s_17.2.2.2) fun v_25 => letC (tree_shape.m v_25.Op) fun r_26 => (if r_26.2 = true then (letC (tree_temp.m r_26.1.d v_25.D) fun r_32 => if r_32 = true then (letC (tree_temp.m r_26.1.a v_25.A) fun r_35 => if r_35 = true then (letC (tree_temp.m r_26.1.b v_25.B) fun r_38 => if r_38 = true then (if r_26.1.k = true then ((tree_places.m r_26.1 v_25 a_2).bind fun r_42 => some ((!r_42) : Bool)) else (if v_25.K = 0 then ((tree_places.m r_26.1 v_25 a_2).bind fun r_45 => some ((!r_45) : Bool)) else (some (true : Bool)))) else (some (true : Bool))) else (some (true : Bool))) else (some (true : Bool))) else (some (true : Bool)) : Option Bool).bind fun o_28 => if o_28 = true then (some (Sum.inr (Sum.inl ()))) else ((if r_26.1.to_ = true then (letC (wr .i64 (s_17.2.2.2 + 1)) fun v_52 => if v_25.To ≤ v_52 then (some (true : Bool)) else (if v_25.To ≥ (a_1.length : Int) then (some (true : Bool)) else (some (false : Bool)))) else (some ((!(decide (v_25.To = 0))) : Bool)) : Option Bool).bind fun o_48 => if o_48 = true then (some (Sum.inr (Sum.inl ()))) else ((if r_26.1.to_ = true then (if 0 ≤ v_25.To ∧ v_25.To < (((a_1.length : Int).toNat : Nat) : Int) then (if 0 ≤ v_25.To ∧ v_25.To < (s_17.1.length : Int) then (letC (gi s_17.1 v_25.To) fun v_62 => letC (s_17.1.set v_25.To.toNat (wr .i64 (v_62 + 1))) fun v_63 => if 0 ≤ v_25.To ∧ v_25.To < (s_17.2.1.length : Int) then (letC (s_17.2.1.set v_25.To.toNat s_17.2.2.2) fun v_65 => some ((v_63, v_65) : (List Int) × (List Int))) else none) else none) else none) else (some ((s_17.1, s_17.2.1) : (List Int) × (List Int))) : Option ((List Int) × (List Int))).bind fun o_56 => (if v_25.Op = 18 then (some ((o_56.1, o_56.2) : (List Int) × (List Int))) else (letC (wr .i64 (s_17.2.2.2 + 1)) fun v_70 => if 0 ≤ v_70 ∧ v_70 < (((a_1.length : Int).toNat : Nat) : Int) then (if 0 ≤ v_70 ∧ v_70 < (o_56.1.length : Int) then (letC (gi o_56.1 v_70) fun v_73 => letC (o_56.1.set v_70.toNat (wr .i64 (v_73 + 1))) fun v_74 => letC (wr .i64 (s_17.2.2.2 + 1)) fun v_75 => if 0 ≤ v_75 ∧ v_75 < (((a_1.length : Int).toNat : Nat) : Int) then (if 0 ≤ v_75 ∧ v_75 < (o_56.2.length : Int) then (letC (o_56.2.set v_75.toNat s_17.2.2.2) fun v_78 => some ((v_74, v_78) : (List Int) × (List Int))) else none) else none) else none) else none) : Option ((List Int) × (List Int))).bind fun o_66 => if r_26.1.d = true then (match aget s_17.2.2.1 v_25.D with | none => (letC (aset s_17.2.2.1 v_25.D s_17.2.2.2) fun v_83 => letC (wr .i64 (s_17.2.2.2 + 1)) fun v_84 => some (Sum.inl (o_66.1, o_66.2, v_83, v_84))) | some v_80 => (some (Sum.inr (Sum.inl ())))) else (letC (wr .i64 (s_17.2.2.2 + 1)) fun v_85 => some (Sum.inl (o_66.1, o_66.2, s_17.2.2.1, v_85)))))) else none) else (some (Sum.inr (Sum.inr ((s_17.1, s_17.2.1, s_17.2.2.1)))))
def tree_Right.m (a_1 : List api_Ins) (a_2 : List api_Loc) : Option (Bool) :=
 (if (a_1.length : Int) < 1 then (some (true : Bool)) else (if (a_1.length : Int) > 400 then (some (true : Bool)) else (letC (wr .i64 ((a_1.length : Int) - 1)) fun v_8 => if 0 ≤ v_8 ∧ v_8 < (a_1.length : Int) then (letC (gi a_1 v_8) fun v_10 => some ((!(decide (v_10.Op = 18))) : Bool)) else none)) : Option Bool).bind fun o_3 => if o_3 = true then (some false) else (if 0 ≤ (a_1.length : Int) ∧ (a_1.length : Int) ≤ (a_1.length : Int) ∧ (a_1.length : Int) * (8 : Nat) ≤ 140737488355328 then (letC (List.replicate (a_1.length : Int).toNat (0 : Int)) fun v_13 => letC (List.replicate (a_1.length : Int).toNat (0 : Int)) fun v_14 => (B.loop (tree_Right.l1 a_1 a_2) ((v_13, v_14, ([] : List (Int × Int)), 0) : (List Int) × (List Int) × (List (Int × Int)) × Int)).bind fun o_18 => match o_18 with | Sum.inl s_21 => (some false) | Sum.inr (s_22) => ((B.loop (tree_Right.l2 a_1 s_22) (((a_1.length : Int).toNat, 0) : Nat × Int)).bind fun o_89 => match o_89 with | Sum.inl s_92 => (some false) | Sum.inr (s_93) => (some true))) else none)
noncomputable def tree_Right.o (a_1 : List api_Ins) (a_2 : List api_Loc) (r : Bool) : Out := .ret (.v (.bool r)) [] []
theorem tree_Right.ev {a_1 : List api_Ins} {a_2 : List api_Loc} {r : Bool} (H : tree_Right.m a_1 a_2 = some r) : Ev Try.prog 33 [.ro false 8 a_1.length (a_1.map api_Ins.c), .ro false 2 a_2.length (a_2.map api_Loc.c)] [] [] (tree_Right.o a_1 a_2 r) := by
 unfold tree_Right.m at H
 obtain ⟨o_3, e_4, H⟩ := bdE H
 have j_5 : Rq tree_Right.F 0 [1, 1, 0, 0] ⟨[(0, .ro false 8 a_1.length (a_1.map api_Ins.c)), (1, .ro false 2 a_2.length (a_2.map api_Loc.c)), (5, vi (a_1.length : Int))], [], []⟩ ((fun _ => .normal : Bool → Ex) o_3) ((fun o_3 => ⟨[(0, .ro false 8 a_1.length (a_1.map api_Ins.c)), (1, .ro false 2 a_2.length (a_2.map api_Loc.c)), (5, vi (a_1.length : Int)), (35, .v (.bool o_3))], [], []⟩ : Bool → ASt) o_3) := by
  clear H
  have H := e_4
  clear e_4
  rcases ic H with ⟨h_6, H⟩ | ⟨h_6, H⟩
  ·obtain rfl := sj H
   exact fn [br h_6, pT, au, pT]
  ·rcases ic H with ⟨h_7, H⟩ | ⟨h_7, H⟩
   ·obtain rfl := sj H
    exact fn [br h_6, pF, br h_7, pT]
   ·let v_8 : Int := wr .i64 ((a_1.length : Int) - 1)
    replace H := ltD H
    obtain ⟨g_9, H⟩ := gdE H
    let v_10 : api_Ins := gi a_1 v_8
    replace H := ltD H
    obtain rfl := sj H
    exact fn [br h_6, pF, br h_7, ix api_Ins.c g_9, pF]
 rcases ie H with ⟨h_11, H⟩ | ⟨h_11, H⟩
 ·obtain rfl := sj H
  exact tree_Right.F.run tb mixed [sg_ 2 j_5, br h_11] rfl (by kernel_rfl)
 ·obtain ⟨g_12, H⟩ := gdE H
  let v_13 : List Int := List.replicate (a_1.length : Int).toNat (0 : Int)
  replace H := ltD H
  let v_14 : List Int := List.replicate (a_1.length : Int).toNat (0 : Int)
  replace H := ltD H
  obtain ⟨o_18, e_19, H⟩ := bdE H
  have j_20 := Runs.loop (P := Try.prog) (N := tree_Right.F.N) (m0 := 0) (c := sub_ tree_Right.F.c [1, 1, 1, 1, 1, 1, 0, 1, 0, 0]) (f := (tree_Right.l1 a_1 a_2)) (St := fun s_17 => ⟨[(0, .ro false 8 a_1.length (a_1.map api_Ins.c)), (1, .ro false 2 a_2.length (a_2.map api_Loc.c)), (5, vi (a_1.length : Int)), (6, .sl 0 0 ((a_1.length : Int).toNat) 0 ((a_1.length : Int).toNat)), (7, .sl 0 1 ((a_1.length : Int).toNat) 0 ((a_1.length : Int).toNat)), (8, .mp 2), (41, .ro false 8 a_1.length (a_1.map api_Ins.c)), (42, vi (a_1.length : Int)), (43, vi s_17.2.2.2)], [.arr false 3 1 ((a_1.length : Int).toNat) (s_17.1.map (cI .i64)), .arr false 3 1 ((a_1.length : Int).toNat) (s_17.2.1.map (cI .i64)), .mp .i64 (mE (vI .i64) s_17.2.2.1)], []⟩) (xo := (fun o => match o with | Sum.inl _ => .ret | Sum.inr (_) => (.exit 0) : (Unit ⊕ ((List Int) × (List Int) × (List (Int × Int)))) → Ex)) (So := (fun o => match o with | Sum.inl s_21 => ⟨[(4, .v (.bool false))], [], []⟩ | Sum.inr (s_22) => ⟨[(0, .ro false 8 a_1.length (a_1.map api_Ins.c)), (6, .sl 0 0 ((a_1.length : Int).toNat) 0 ((a_1.length : Int).toNat)), (7, .sl 0 1 ((a_1.length : Int).toNat) 0 ((a_1.length : Int).toNat)), (8, .mp 2)], [.arr false 3 1 ((a_1.length : Int).toNat) (s_22.1.map (cI .i64)), .arr false 3 1 ((a_1.length : Int).toNat) (s_22.2.1.map (cI .i64)), .mp .i64 (mE (vI .i64) s_22.2.2)], []⟩ : (Unit ⊕ ((List Int) × (List Int) × (List (Int × Int)))) → ASt)) (by intro o; rcases o with _ | _ <;> simp) (fun s_17 z H => by
   unfold tree_Right.l1 at H
   rcases ic H with ⟨h_23, H⟩ | ⟨h_23, H⟩
   ·obtain ⟨g_24, H⟩ := gdE H
    let v_25 : api_Ins := gi a_1 s_17.2.2.2
    replace H := ltD H
    obtain ⟨r_26, e_27, H⟩ := ltE H
    obtain ⟨o_28, e_29, H⟩ := bdE H
    have j_30 : Rq tree_Right.F 0 [1, 1, 1, 1, 1, 1, 0, 1, 0, 0, 1, 1, 0, 0, 1, 1, 0, 0] ⟨[(0, .ro false 8 a_1.length (a_1.map api_Ins.c)), (1, .ro false 2 a_2.length (a_2.map api_Loc.c)), (5, vi (a_1.length : Int)), (6, .sl 0 0 ((a_1.length : Int).toNat) 0 ((a_1.length : Int).toNat)), (7, .sl 0 1 ((a_1.length : Int).toNat) 0 ((a_1.length : Int).toNat)), (8, .mp 2), (9, vi s_17.2.2.2), (10, .ref 3 0), (11, .ref 4 0), (12, .v (.bool r_26.2)), (41, .ro false 8 a_1.length (a_1.map api_Ins.c)), (42, vi (a_1.length : Int)), (43, vi s_17.2.2.2)], [.arr false 3 1 ((a_1.length : Int).toNat) (s_17.1.map (cI .i64)), .arr false 3 1 ((a_1.length : Int).toNat) (s_17.2.1.map (cI .i64)), .mp .i64 (mE (vI .i64) s_17.2.2.1), .box (api_Ins.c v_25), .box (tree_uses.c r_26.1)], []⟩ ((fun _ => .normal : Bool → Ex) o_28) ((fun o_28 => ⟨[(0, .ro false 8 a_1.length (a_1.map api_Ins.c)), (1, .ro false 2 a_2.length (a_2.map api_Loc.c)), (5, vi (a_1.length : Int)), (6, .sl 0 0 ((a_1.length : Int).toNat) 0 ((a_1.length : Int).toNat)), (7, .sl 0 1 ((a_1.length : Int).toNat) 0 ((a_1.length : Int).toNat)), (8, .mp 2), (9, vi s_17.2.2.2), (10, .ref 3 0), (11, .ref 4 0), (41, .ro false 8 a_1.length (a_1.map api_Ins.c)), (42, vi (a_1.length : Int)), (43, vi s_17.2.2.2), (96, .v (.bool o_28))], [.arr false 3 1 ((a_1.length : Int).toNat) (s_17.1.map (cI .i64)), .arr false 3 1 ((a_1.length : Int).toNat) (s_17.2.1.map (cI .i64)), .mp .i64 (mE (vI .i64) s_17.2.2.1), .box (api_Ins.c v_25), .box (tree_uses.c r_26.1)], []⟩ : Bool → ASt) o_28) := by
     clear H
     have H := e_29
     clear e_29
     rcases ie H with ⟨h_31, H⟩ | ⟨h_31, H⟩
     ·obtain ⟨r_32, e_33, H⟩ := ltE H
      rcases ie H with ⟨h_34, H⟩ | ⟨h_34, H⟩
      ·obtain ⟨r_35, e_36, H⟩ := ltE H
       rcases ie H with ⟨h_37, H⟩ | ⟨h_37, H⟩
       ·obtain ⟨r_38, e_39, H⟩ := ltE H
        rcases ie H with ⟨h_40, H⟩ | ⟨h_40, H⟩
        ·rcases ie H with ⟨h_41, H⟩ | ⟨h_41, H⟩
         ·obtain ⟨r_42, e_43, H⟩ := bdE H
          obtain rfl := sj H
          exact fn [bn h_31, ca [] (tree_temp.ev e_33), pF, bn h_34, ca [] (tree_temp.ev e_36), pF, bn h_37, ca [] (tree_temp.ev e_39), pF, bn h_40, bn h_41, pF, pF, au, ca [] (tree_places.ev e_43), pF]
         ·rcases ic H with ⟨h_44, H⟩ | ⟨h_44, H⟩
          ·obtain ⟨r_45, e_46, H⟩ := bdE H
           obtain rfl := sj H
           exact fn [bn h_31, ca [] (tree_temp.ev e_33), pF, bn h_34, ca [] (tree_temp.ev e_36), pF, bn h_37, ca [] (tree_temp.ev e_39), pF, bn h_40, bn h_41, pT, pF, bn h_44, ca [] (tree_places.ev e_46), pF]
          ·obtain rfl := sj H
           exact fn [bn h_31, ca [] (tree_temp.ev e_33), pF, bn h_34, ca [] (tree_temp.ev e_36), pF, bn h_37, ca [] (tree_temp.ev e_39), pF, bn h_40, bn h_41, pT, pF, bn h_44, pT]
        ·obtain rfl := sj H
         exact fn [bn h_31, ca [] (tree_temp.ev e_33), pF, bn h_34, ca [] (tree_temp.ev e_36), pF, bn h_37, ca [] (tree_temp.ev e_39), pF, bn h_40, pT, au, pT]
       ·obtain rfl := sj H
        exact fn [bn h_31, ca [] (tree_temp.ev e_33), pF, bn h_34, ca [] (tree_temp.ev e_36), pF, bn h_37, pT, au, pT, au, pT]
      ·obtain rfl := sj H
       exact fn [bn h_31, ca [] (tree_temp.ev e_33), pF, bn h_34, pT, au, pT, au, pT, au, pT]
     ·obtain rfl := sj H
      exact fn [bn h_31, pT, au, pT, au, pT, au, pT, au, pT]
    rcases ie H with ⟨h_47, H⟩ | ⟨h_47, H⟩
    ·obtain rfl := sj H
     exact fn [br h_23, ix api_Ins.c g_24, ca [] (tree_shape.ev e_27), sg_ 11 j_30, br h_47]
    ·obtain ⟨o_48, e_49, H⟩ := bdE H
     have j_50 : Rq tree_Right.F 0 [1, 1, 1, 1, 1, 1, 0, 1, 0, 0, 1, 1, 0, 0, 1, 1, 1, 0, 0] ⟨[(0, .ro false 8 a_1.length (a_1.map api_Ins.c)), (1, .ro false 2 a_2.length (a_2.map api_Loc.c)), (5, vi (a_1.length : Int)), (6, .sl 0 0 ((a_1.length : Int).toNat) 0 ((a_1.length : Int).toNat)), (7, .sl 0 1 ((a_1.length : Int).toNat) 0 ((a_1.length : Int).toNat)), (8, .mp 2), (9, vi s_17.2.2.2), (10, .ref 3 0), (11, .ref 4 0), (41, .ro false 8 a_1.length (a_1.map api_Ins.c)), (42, vi (a_1.length : Int)), (43, vi s_17.2.2.2)], [.arr false 3 1 ((a_1.length : Int).toNat) (s_17.1.map (cI .i64)), .arr false 3 1 ((a_1.length : Int).toNat) (s_17.2.1.map (cI .i64)), .mp .i64 (mE (vI .i64) s_17.2.2.1), .box (api_Ins.c v_25), .box (tree_uses.c r_26.1)], []⟩ ((fun _ => .normal : Bool → Ex) o_48) ((fun o_48 => ⟨[(0, .ro false 8 a_1.length (a_1.map api_Ins.c)), (1, .ro false 2 a_2.length (a_2.map api_Loc.c)), (5, vi (a_1.length : Int)), (6, .sl 0 0 ((a_1.length : Int).toNat) 0 ((a_1.length : Int).toNat)), (7, .sl 0 1 ((a_1.length : Int).toNat) 0 ((a_1.length : Int).toNat)), (8, .mp 2), (9, vi s_17.2.2.2), (10, .ref 3 0), (11, .ref 4 0), (41, .ro false 8 a_1.length (a_1.map api_Ins.c)), (42, vi (a_1.length : Int)), (43, vi s_17.2.2.2), (121, .v (.bool o_48))], [.arr false 3 1 ((a_1.length : Int).toNat) (s_17.1.map (cI .i64)), .arr false 3 1 ((a_1.length : Int).toNat) (s_17.2.1.map (cI .i64)), .mp .i64 (mE (vI .i64) s_17.2.2.1), .box (api_Ins.c v_25), .box (tree_uses.c r_26.1)], []⟩ : Bool → ASt) o_48) := by
      clear H
      have H := e_49
      clear e_49
      rcases ie H with ⟨h_51, H⟩ | ⟨h_51, H⟩
      ·let v_52 : Int := wr .i64 (s_17.2.2.2 + 1)
       replace H := ltD H
       rcases ic H with ⟨h_53, H⟩ | ⟨h_53, H⟩
       ·obtain rfl := sj H
        exact fn [br h_51, br h_53, pT, pT, au, pT]
       ·rcases ic H with ⟨h_54, H⟩ | ⟨h_54, H⟩
        ·obtain rfl := sj H
         exact fn [br h_51, br h_53, pF, pT, br h_54, pT]
        ·obtain rfl := sj H
         exact fn [br h_51, br h_53, pF, pT, br h_54, bn h_51, pF, pF]
      ·obtain rfl := sj H
       exact fn [br h_51, pF, au, bn h_51, pT, pF]
     rcases ie H with ⟨h_55, H⟩ | ⟨h_55, H⟩
     ·obtain rfl := sj H
      exact fn [br h_23, ix api_Ins.c g_24, ca [] (tree_shape.ev e_27), sg_ 11 j_30, br h_47, sg_ 13 j_50, br h_55]
     ·obtain ⟨o_56, e_57, H⟩ := bdE H
      have j_58 : Rq tree_Right.F 0 [1, 1, 1, 1, 1, 1, 0, 1, 0, 0, 1, 1, 0, 0, 1, 1, 1, 1, 0, 1] ⟨[(0, .ro false 8 a_1.length (a_1.map api_Ins.c)), (1, .ro false 2 a_2.length (a_2.map api_Loc.c)), (5, vi (a_1.length : Int)), (6, .sl 0 0 ((a_1.length : Int).toNat) 0 ((a_1.length : Int).toNat)), (7, .sl 0 1 ((a_1.length : Int).toNat) 0 ((a_1.length : Int).toNat)), (8, .mp 2), (9, vi s_17.2.2.2), (10, .ref 3 0), (11, .ref 4 0), (41, .ro false 8 a_1.length (a_1.map api_Ins.c)), (42, vi (a_1.length : Int)), (43, vi s_17.2.2.2), (123, .v (.bool r_26.1.to_))], [.arr false 3 1 ((a_1.length : Int).toNat) (s_17.1.map (cI .i64)), .arr false 3 1 ((a_1.length : Int).toNat) (s_17.2.1.map (cI .i64)), .mp .i64 (mE (vI .i64) s_17.2.2.1), .box (api_Ins.c v_25), .box (tree_uses.c r_26.1)], []⟩ ((fun _ => .normal : ((List Int) × (List Int)) → Ex) o_56) ((fun o_56 => ⟨[(0, .ro false 8 a_1.length (a_1.map api_Ins.c)), (1, .ro false 2 a_2.length (a_2.map api_Loc.c)), (5, vi (a_1.length : Int)), (6, .sl 0 0 ((a_1.length : Int).toNat) 0 ((a_1.length : Int).toNat)), (7, .sl 0 1 ((a_1.length : Int).toNat) 0 ((a_1.length : Int).toNat)), (8, .mp 2), (9, vi s_17.2.2.2), (10, .ref 3 0), (11, .ref 4 0), (41, .ro false 8 a_1.length (a_1.map api_Ins.c)), (42, vi (a_1.length : Int)), (43, vi s_17.2.2.2)], [.arr false 3 1 ((a_1.length : Int).toNat) (o_56.1.map (cI .i64)), .arr false 3 1 ((a_1.length : Int).toNat) (o_56.2.map (cI .i64)), .mp .i64 (mE (vI .i64) s_17.2.2.1), .box (api_Ins.c v_25), .box (tree_uses.c r_26.1)], []⟩ : ((List Int) × (List Int)) → ASt) o_56) := by
       clear H
       have H := e_57
       clear e_57
       rcases ie H with ⟨h_59, H⟩ | ⟨h_59, H⟩
       ·obtain ⟨g_60, H⟩ := gdE H
        obtain ⟨g_61, H⟩ := gdE H
        let v_62 : Int := gi s_17.1 v_25.To
        replace H := ltD H
        let v_63 : List Int := s_17.1.set v_25.To.toNat (wr .i64 (v_62 + 1))
        replace H := ltD H
        obtain ⟨g_64, H⟩ := gdE H
        let v_65 : List Int := s_17.2.1.set v_25.To.toNat s_17.2.2.2
        replace H := ltD H
        obtain rfl := sj H
        exact fn [br h_59, pf g_60, el (cI .i64) g_61, pf g_60, up (cI .i64) 0 [vi (wr .i64 (v_62 + 1))] (wr .i64 (v_62 + 1)) g_61 (by kernel_rfl), pf g_60, up (cI .i64) 0 [vi s_17.2.2.2] s_17.2.2.2 g_64 (by kernel_rfl)]
       ·obtain rfl := sj H
        exact fn [br h_59]
      obtain ⟨o_66, e_67, H⟩ := bdE H
      have j_68 : Rq tree_Right.F 0 [1, 1, 1, 1, 1, 1, 0, 1, 0, 0, 1, 1, 0, 0, 1, 1, 1, 1, 1, 0, 1] ⟨[(0, .ro false 8 a_1.length (a_1.map api_Ins.c)), (1, .ro false 2 a_2.length (a_2.map api_Loc.c)), (5, vi (a_1.length : Int)), (6, .sl 0 0 ((a_1.length : Int).toNat) 0 ((a_1.length : Int).toNat)), (7, .sl 0 1 ((a_1.length : Int).toNat) 0 ((a_1.length : Int).toNat)), (8, .mp 2), (9, vi s_17.2.2.2), (10, .ref 3 0), (11, .ref 4 0), (41, .ro false 8 a_1.length (a_1.map api_Ins.c)), (42, vi (a_1.length : Int)), (43, vi s_17.2.2.2), (138, .v (.bool (!(decide (v_25.Op = 18)))))], [.arr false 3 1 ((a_1.length : Int).toNat) (o_56.1.map (cI .i64)), .arr false 3 1 ((a_1.length : Int).toNat) (o_56.2.map (cI .i64)), .mp .i64 (mE (vI .i64) s_17.2.2.1), .box (api_Ins.c v_25), .box (tree_uses.c r_26.1)], []⟩ ((fun _ => .normal : ((List Int) × (List Int)) → Ex) o_66) ((fun o_66 => ⟨[(0, .ro false 8 a_1.length (a_1.map api_Ins.c)), (1, .ro false 2 a_2.length (a_2.map api_Loc.c)), (5, vi (a_1.length : Int)), (6, .sl 0 0 ((a_1.length : Int).toNat) 0 ((a_1.length : Int).toNat)), (7, .sl 0 1 ((a_1.length : Int).toNat) 0 ((a_1.length : Int).toNat)), (8, .mp 2), (9, vi s_17.2.2.2), (10, .ref 3 0), (11, .ref 4 0), (41, .ro false 8 a_1.length (a_1.map api_Ins.c)), (42, vi (a_1.length : Int)), (43, vi s_17.2.2.2)], [.arr false 3 1 ((a_1.length : Int).toNat) (o_66.1.map (cI .i64)), .arr false 3 1 ((a_1.length : Int).toNat) (o_66.2.map (cI .i64)), .mp .i64 (mE (vI .i64) s_17.2.2.1), .box (api_Ins.c v_25), .box (tree_uses.c r_26.1)], []⟩ : ((List Int) × (List Int)) → ASt) o_66) := by
       clear H
       have H := e_67
       clear e_67
       rcases ic H with ⟨h_69, H⟩ | ⟨h_69, H⟩
       ·obtain rfl := sj H
        exact fn [bn h_69]
       ·let v_70 : Int := wr .i64 (s_17.2.2.2 + 1)
        replace H := ltD H
        obtain ⟨g_71, H⟩ := gdE H
        obtain ⟨g_72, H⟩ := gdE H
        let v_73 : Int := gi o_56.1 v_70
        replace H := ltD H
        let v_74 : List Int := o_56.1.set v_70.toNat (wr .i64 (v_73 + 1))
        replace H := ltD H
        let v_75 : Int := wr .i64 (s_17.2.2.2 + 1)
        replace H := ltD H
        obtain ⟨g_76, H⟩ := gdE H
        obtain ⟨g_77, H⟩ := gdE H
        let v_78 : List Int := o_56.2.set v_75.toNat s_17.2.2.2
        replace H := ltD H
        obtain rfl := sj H
        exact fn [bn h_69, pf g_71, el (cI .i64) g_72, pf g_71, up (cI .i64) 0 [vi (wr .i64 (v_73 + 1))] (wr .i64 (v_73 + 1)) g_72 (by kernel_rfl), pf g_76, up (cI .i64) 0 [vi s_17.2.2.2] s_17.2.2.2 g_77 (by kernel_rfl)]
      rcases ie H with ⟨h_79, H⟩ | ⟨h_79, H⟩
      ·rcases e_81 : aget s_17.2.2.1 v_25.D with _ | v_80
       ·rw [e_81] at H
        let v_83 : List (Int × Int) := aset s_17.2.2.1 v_25.D s_17.2.2.2
        replace H := ltD H
        let v_84 : Int := wr .i64 (s_17.2.2.2 + 1)
        replace H := ltD H
        obtain rfl := sj H
        exact fn [br h_23, ix api_Ins.c g_24, ca [] (tree_shape.ev e_27), sg_ 11 j_30, br h_47, sg_ 13 j_50, br h_55, sc_ j_58, sc_ j_68, br h_79, mgN (vI .i64) e_81, au, ms (vI .i64) s_17.2.2.1 v_25.D s_17.2.2.2]
       ·rw [e_81] at H
        obtain rfl := sj H
        exact fn [br h_23, ix api_Ins.c g_24, ca [] (tree_shape.ev e_27), sg_ 11 j_30, br h_47, sg_ 13 j_50, br h_55, sc_ j_58, sc_ j_68, br h_79, mgS (vI .i64) e_81, au]
      ·let v_85 : Int := wr .i64 (s_17.2.2.2 + 1)
       replace H := ltD H
       obtain rfl := sj H
       exact fn [br h_23, ix api_Ins.c g_24, ca [] (tree_shape.ev e_27), sg_ 11 j_30, br h_47, sg_ 13 j_50, br h_55, sc_ j_58, sc_ j_68, br h_79]
   ·obtain rfl := sj H
    exact fn [br h_23] (by kernel_rfl)) e_19
  rcases o_18 with s_21 | s_22
  ·obtain rfl := sj H
   exact tree_Right.F.run tb mixed [sg_ 2 j_5, br h_11, mk (cI .i64) (0 : Int) ((cI .i64) 0) 8 (a_1.length : Int) (a_1.length : Int) g_12 rfl, mk (cI .i64) (0 : Int) ((cI .i64) 0) 8 (a_1.length : Int) (a_1.length : Int) g_12 rfl, su j_20] rfl (by kernel_rfl)
  ·obtain ⟨o_89, e_90, H⟩ := bdE H
   have j_91 := Runs.loop (P := Try.prog) (N := tree_Right.F.N) (m0 := 0) (c := sub_ tree_Right.F.c [1, 1, 1, 1, 1, 1, 1, 0, 1, 0, 0]) (f := (tree_Right.l2 a_1 s_22)) (St := fun s_88 => ⟨[(6, .sl 0 0 ((a_1.length : Int).toNat) 0 ((a_1.length : Int).toNat)), (7, .sl 0 1 s_88.1 0 s_88.1), (8, .mp 2), (166, .ro false 8 a_1.length (a_1.map api_Ins.c)), (167, vi (a_1.length : Int)), (168, vi s_88.2)], [.arr false 3 1 ((a_1.length : Int).toNat) (s_22.1.map (cI .i64)), .arr false 3 1 s_88.1 (s_22.2.1.map (cI .i64)), .mp .i64 (mE (vI .i64) s_22.2.2)], []⟩) (xo := (fun o => match o with | Sum.inl _ => .ret | Sum.inr (_) => (.exit 2) : (Unit ⊕ Unit) → Ex)) (So := (fun o => match o with | Sum.inl s_92 => ⟨[(4, .v (.bool false))], [], []⟩ | Sum.inr (s_93) => ⟨[], [], []⟩ : (Unit ⊕ Unit) → ASt)) (by intro o; rcases o with _ | _ <;> simp) (fun s_88 z H => by
    unfold tree_Right.l2 at H
    rcases ic H with ⟨h_94, H⟩ | ⟨h_94, H⟩
    ·obtain ⟨g_95, H⟩ := gdE H
     let v_96 : api_Ins := gi a_1 s_88.2
     replace H := ltD H
     obtain ⟨o_97, e_98, H⟩ := bdE H
     have j_99 : Rq tree_Right.F 0 [1, 1, 1, 1, 1, 1, 1, 0, 1, 0, 0, 1, 1, 0, 0, 1, 0, 0] ⟨[(6, .sl 0 0 ((a_1.length : Int).toNat) 0 ((a_1.length : Int).toNat)), (7, .sl 0 1 s_88.1 0 s_88.1), (8, .mp 2), (15, vi s_88.2), (16, .ref 3 0), (166, .ro false 8 a_1.length (a_1.map api_Ins.c)), (167, vi (a_1.length : Int)), (168, vi s_88.2)], [.arr false 3 1 ((a_1.length : Int).toNat) (s_22.1.map (cI .i64)), .arr false 3 1 s_88.1 (s_22.2.1.map (cI .i64)), .mp .i64 (mE (vI .i64) s_22.2.2), .box (api_Ins.c v_96)], []⟩ ((fun _ => .normal : Bool → Ex) o_97) ((fun o_97 => ⟨[(6, .sl 0 0 ((a_1.length : Int).toNat) 0 ((a_1.length : Int).toNat)), (7, .sl 0 1 s_88.1 0 s_88.1), (8, .mp 2), (15, vi s_88.2), (16, .ref 3 0), (166, .ro false 8 a_1.length (a_1.map api_Ins.c)), (167, vi (a_1.length : Int)), (168, vi s_88.2), (181, .v (.bool o_97))], [.arr false 3 1 ((a_1.length : Int).toNat) (s_22.1.map (cI .i64)), .arr false 3 1 s_88.1 (s_22.2.1.map (cI .i64)), .mp .i64 (mE (vI .i64) s_22.2.2), .box (api_Ins.c v_96)], []⟩ : Bool → ASt) o_97) := by
      clear H
      have H := e_98
      clear e_98
      rcases ic H with ⟨h_100, H⟩ | ⟨h_100, H⟩
      ·obtain ⟨g_101, H⟩ := gdE H
       obtain ⟨g_102, H⟩ := gdE H
       let v_103 : Int := gi s_22.1 s_88.2
       replace H := ltD H
       obtain rfl := sj H
       exact fn [br h_100, pf g_101, el (cI .i64) g_102, pT]
      ·obtain rfl := sj H
       exact fn [br h_100, pF]
     rcases ie H with ⟨h_104, H⟩ | ⟨h_104, H⟩
     ·obtain rfl := sj H
      exact fn [br h_94, ix api_Ins.c g_95, sg_ 30 j_99, br h_104]
     ·obtain ⟨r_105, e_106, H⟩ := ltE H
      obtain ⟨o_107, e_108, H⟩ := bdE H
      have j_109 : Rq tree_Right.F 0 [1, 1, 1, 1, 1, 1, 1, 0, 1, 0, 0, 1, 1, 0, 0, 1, 1, 1, 0] ⟨[(6, .sl 0 0 ((a_1.length : Int).toNat) 0 ((a_1.length : Int).toNat)), (7, .sl 0 1 s_88.1 0 s_88.1), (8, .mp 2), (15, vi s_88.2), (16, .ref 3 0), (17, .ref 4 0), (166, .ro false 8 a_1.length (a_1.map api_Ins.c)), (167, vi (a_1.length : Int)), (168, vi s_88.2)], [.arr false 3 1 ((a_1.length : Int).toNat) (s_22.1.map (cI .i64)), .arr false 3 1 s_88.1 (s_22.2.1.map (cI .i64)), .mp .i64 (mE (vI .i64) s_22.2.2), .box (api_Ins.c v_96), .box (tree_uses.c r_105.1)], []⟩ ((fun _ => .normal : Bool → Ex) o_107) ((fun o_107 => ⟨[(6, .sl 0 0 ((a_1.length : Int).toNat) 0 ((a_1.length : Int).toNat)), (7, .sl 0 1 s_88.1 0 s_88.1), (8, .mp 2), (166, .ro false 8 a_1.length (a_1.map api_Ins.c)), (167, vi (a_1.length : Int)), (168, vi s_88.2), (211, .v (.bool o_107))], [.arr false 3 1 ((a_1.length : Int).toNat) (s_22.1.map (cI .i64)), .arr false 3 1 s_88.1 (s_22.2.1.map (cI .i64)), .mp .i64 (mE (vI .i64) s_22.2.2)], []⟩ : Bool → ASt) o_107) := by
       clear H
       have H := e_108
       clear e_108
       rcases ie H with ⟨h_110, H⟩ | ⟨h_110, H⟩
       ·obtain ⟨r_111, e_112, H⟩ := bdE H
        rcases ie H with ⟨h_113, H⟩ | ⟨h_113, H⟩
        ·rcases ie H with ⟨h_114, H⟩ | ⟨h_114, H⟩
         ·obtain ⟨r_115, e_116, H⟩ := bdE H
          obtain rfl := sj H
          exact fn [br h_110, ca [2, 1] (tree_above.ev e_112), pT, bn h_113, br h_114, ca [2, 1] (tree_above.ev e_116), pT, pF]
         ·obtain rfl := sj H
          exact fn [br h_110, ca [2, 1] (tree_above.ev e_112), pT, bn h_113, br h_114, pF, pF]
        ·obtain rfl := sj H
         exact fn [br h_110, ca [2, 1] (tree_above.ev e_112), pT, bn h_113, pT]
       ·rcases ie H with ⟨h_117, H⟩ | ⟨h_117, H⟩
        ·obtain ⟨r_118, e_119, H⟩ := bdE H
         obtain rfl := sj H
         exact fn [br h_110, pF, au, br h_117, ca [2, 1] (tree_above.ev e_119), pT, pF]
        ·obtain rfl := sj H
         exact fn [br h_110, pF, au, br h_117, pF, pF]
      rcases ie H with ⟨h_120, H⟩ | ⟨h_120, H⟩
      ·obtain rfl := sj H
       exact fn [br h_94, ix api_Ins.c g_95, sg_ 30 j_99, br h_104, ca [] (tree_shape.ev e_106), sg_ 33 j_109, br h_120]
      ·let v_121 : Int := wr .i64 (s_88.2 + 1)
       replace H := ltD H
       obtain rfl := sj H
       exact fn [br h_94, ix api_Ins.c g_95, sg_ 30 j_99, br h_104, ca [] (tree_shape.ev e_106), sg_ 33 j_109, br h_120]
    ·obtain rfl := sj H
     exact fn [br h_94] (by kernel_rfl)) e_90
   rcases o_89 with s_92 | s_93
   ·obtain rfl := sj H
    exact tree_Right.F.run tb mixed [sg_ 2 j_5, br h_11, mk (cI .i64) (0 : Int) ((cI .i64) 0) 8 (a_1.length : Int) (a_1.length : Int) g_12 rfl, mk (cI .i64) (0 : Int) ((cI .i64) 0) 8 (a_1.length : Int) (a_1.length : Int) g_12 rfl, su j_20, su j_91] rfl (by kernel_rfl)
   ·obtain rfl := sj H
    exact tree_Right.F.run tb mixed [sg_ 2 j_5, br h_11, mk (cI .i64) (0 : Int) ((cI .i64) 0) 8 (a_1.length : Int) (a_1.length : Int) g_12 rfl, mk (cI .i64) (0 : Int) ((cI .i64) 0) 8 (a_1.length : Int) (a_1.length : Int) g_12 rfl, su j_20, su j_91] rfl (by kernel_rfl)
def tree_Right.k2 (a_1 : List api_Ins) (s_22 : (List Int) × (List Int) × (List (Int × Int))) (s_88 : Nat × Int) : Option ((Nat × Int) ⊕ (Unit ⊕ Unit)) :=
 if s_88.2 < (a_1.length : Int) then (if 0 ≤ s_88.2 ∧ s_88.2 < (a_1.length : Int) then (letK (gi a_1 s_88.2) fun v_96 => (if s_88.2 > 0 then (if 0 ≤ s_88.2 ∧ s_88.2 < (((a_1.length : Int).toNat : Nat) : Int) then (if 0 ≤ s_88.2 ∧ s_88.2 < (s_22.1.length : Int) then (letK (gi s_22.1 s_88.2) fun v_103 => some ((!(decide (v_103 = 1))) : Bool)) else none) else none) else (some (false : Bool)) : Option Bool).bind fun o_97 => if o_97 = true then (some (Sum.inr (Sum.inl ()))) else (letK (tree_shape.m v_96.Op) fun r_105 => (if r_105.1.a = true then ((tree_above.k v_96.A s_88.2 s_22.2.2 s_22.2.1 s_88.1).bind fun r_111 => if r_111 = true then (if r_105.1.b = true then ((tree_above.k v_96.B s_88.2 s_22.2.2 s_22.2.1 s_88.1).bind fun r_115 => some ((!r_115) : Bool)) else (some (false : Bool))) else (some (true : Bool))) else (if r_105.1.b = true then ((tree_above.k v_96.B s_88.2 s_22.2.2 s_22.2.1 s_88.1).bind fun r_118 => some ((!r_118) : Bool)) else (some (false : Bool))) : Option Bool).bind fun o_107 => if o_107 = true then (some (Sum.inr (Sum.inl ()))) else (letK (wr .i64 (s_88.2 + 1)) fun v_121 => some (Sum.inl (s_88.1, v_121))))) else none) else (some (Sum.inr (Sum.inr (()))))
theorem tree_Right.k2_le (a_1 : List api_Ins) (s_22 : (List Int) × (List Int) × (List (Int × Int))) (s_88 : Nat × Int) : OLe (tree_Right.k2 a_1 s_22 s_88) (tree_Right.l2 a_1 s_22 s_88) := by
 unfold tree_Right.k2 tree_Right.l2
 repeat' with_reducible first | exact tree_places.k_le .. | exact tree_above.k_le .. | refine OLe.lt (fun _ => ?_) | refine OLe.lp (fun _ => ?_) | refine OLe.bind ?_ (fun _ => ?_) | refine OLe.ite ?_ ?_ | exact OLe.rfl' | split
def tree_Right.k1 (a_1 : List api_Ins) (a_2 : List api_Loc) (s_17 : (List Int) × (List Int) × (List (Int × Int)) × Int) : Option (((List Int) × (List Int) × (List (Int × Int)) × Int) ⊕ (Unit ⊕ ((List Int) × (List Int) × (List (Int × Int))))) :=
 if s_17.2.2.2 < (a_1.length : Int) then (if 0 ≤ s_17.2.2.2 ∧ s_17.2.2.2 < (a_1.length : Int) then (letK (gi a_1 s_17.2.2.2) fun v_25 => letK (tree_shape.m v_25.Op) fun r_26 => (if r_26.2 = true then (letK (tree_temp.m r_26.1.d v_25.D) fun r_32 => if r_32 = true then (letK (tree_temp.m r_26.1.a v_25.A) fun r_35 => if r_35 = true then (letK (tree_temp.m r_26.1.b v_25.B) fun r_38 => if r_38 = true then (if r_26.1.k = true then ((tree_places.k r_26.1 v_25 a_2).bind fun r_42 => some ((!r_42) : Bool)) else (if v_25.K = 0 then ((tree_places.k r_26.1 v_25 a_2).bind fun r_45 => some ((!r_45) : Bool)) else (some (true : Bool)))) else (some (true : Bool))) else (some (true : Bool))) else (some (true : Bool))) else (some (true : Bool)) : Option Bool).bind fun o_28 => if o_28 = true then (some (Sum.inr (Sum.inl ()))) else ((if r_26.1.to_ = true then (letK (wr .i64 (s_17.2.2.2 + 1)) fun v_52 => if v_25.To ≤ v_52 then (some (true : Bool)) else (if v_25.To ≥ (a_1.length : Int) then (some (true : Bool)) else (some (false : Bool)))) else (some ((!(decide (v_25.To = 0))) : Bool)) : Option Bool).bind fun o_48 => if o_48 = true then (some (Sum.inr (Sum.inl ()))) else ((if r_26.1.to_ = true then (if 0 ≤ v_25.To ∧ v_25.To < (((a_1.length : Int).toNat : Nat) : Int) then (if 0 ≤ v_25.To ∧ v_25.To < (s_17.1.length : Int) then (letK (gi s_17.1 v_25.To) fun v_62 => letK (s_17.1.set v_25.To.toNat (wr .i64 (v_62 + 1))) fun v_63 => if 0 ≤ v_25.To ∧ v_25.To < (s_17.2.1.length : Int) then (letK (s_17.2.1.set v_25.To.toNat s_17.2.2.2) fun v_65 => some ((v_63, v_65) : (List Int) × (List Int))) else none) else none) else none) else (some ((s_17.1, s_17.2.1) : (List Int) × (List Int))) : Option ((List Int) × (List Int))).bind fun o_56 => (if v_25.Op = 18 then (some ((o_56.1, o_56.2) : (List Int) × (List Int))) else (letK (wr .i64 (s_17.2.2.2 + 1)) fun v_70 => if 0 ≤ v_70 ∧ v_70 < (((a_1.length : Int).toNat : Nat) : Int) then (if 0 ≤ v_70 ∧ v_70 < (o_56.1.length : Int) then (letK (gi o_56.1 v_70) fun v_73 => letK (o_56.1.set v_70.toNat (wr .i64 (v_73 + 1))) fun v_74 => letK (wr .i64 (s_17.2.2.2 + 1)) fun v_75 => if 0 ≤ v_75 ∧ v_75 < (((a_1.length : Int).toNat : Nat) : Int) then (if 0 ≤ v_75 ∧ v_75 < (o_56.2.length : Int) then (letK (o_56.2.set v_75.toNat s_17.2.2.2) fun v_78 => some ((v_74, v_78) : (List Int) × (List Int))) else none) else none) else none) else none) : Option ((List Int) × (List Int))).bind fun o_66 => if r_26.1.d = true then (match aget s_17.2.2.1 v_25.D with | none => (letK (aset s_17.2.2.1 v_25.D s_17.2.2.2) fun v_83 => letK (wr .i64 (s_17.2.2.2 + 1)) fun v_84 => some (Sum.inl (o_66.1, o_66.2, v_83, v_84))) | some v_80 => (some (Sum.inr (Sum.inl ())))) else (letK (wr .i64 (s_17.2.2.2 + 1)) fun v_85 => some (Sum.inl (o_66.1, o_66.2, s_17.2.2.1, v_85)))))) else none) else (some (Sum.inr (Sum.inr ((s_17.1, s_17.2.1, s_17.2.2.1)))))
theorem tree_Right.k1_le (a_1 : List api_Ins) (a_2 : List api_Loc) (s_17 : (List Int) × (List Int) × (List (Int × Int)) × Int) : OLe (tree_Right.k1 a_1 a_2 s_17) (tree_Right.l1 a_1 a_2 s_17) := by
 unfold tree_Right.k1 tree_Right.l1
 repeat' with_reducible first | exact tree_Right.k2_le .. | exact tree_places.k_le .. | exact tree_above.k_le .. | refine OLe.lt (fun _ => ?_) | refine OLe.lp (fun _ => ?_) | refine OLe.bind ?_ (fun _ => ?_) | refine OLe.ite ?_ ?_ | exact OLe.rfl' | split
 all_goals try simp_all only [Option.some.injEq, reduceCtorEq]
 all_goals try subst_vars
 repeat' with_reducible first | exact tree_Right.k2_le .. | exact tree_places.k_le .. | exact tree_above.k_le .. | refine OLe.lt (fun _ => ?_) | refine OLe.lp (fun _ => ?_) | refine OLe.bind ?_ (fun _ => ?_) | refine OLe.ite ?_ ?_ | exact OLe.rfl' | split
 all_goals (exfalso; simp_all)
def tree_Right.k (a_1 : List api_Ins) (a_2 : List api_Loc) : Option (Bool) :=
 (if (a_1.length : Int) < 1 then (some (true : Bool)) else (if (a_1.length : Int) > 400 then (some (true : Bool)) else (letK (wr .i64 ((a_1.length : Int) - 1)) fun v_8 => if 0 ≤ v_8 ∧ v_8 < (a_1.length : Int) then (letK (gi a_1 v_8) fun v_10 => some ((!(decide (v_10.Op = 18))) : Bool)) else none)) : Option Bool).bind fun o_3 => if o_3 = true then (some false) else (if 0 ≤ (a_1.length : Int) ∧ (a_1.length : Int) ≤ (a_1.length : Int) ∧ (a_1.length : Int) * (8 : Nat) ≤ 140737488355328 then (letK (List.replicate (a_1.length : Int).toNat (0 : Int)) fun v_13 => letK (List.replicate (a_1.length : Int).toNat (0 : Int)) fun v_14 => (lpK (tree_Right.k1 a_1 a_2) ((v_13, v_14, ([] : List (Int × Int)), 0) : (List Int) × (List Int) × (List (Int × Int)) × Int)).bind fun o_18 => match o_18 with | Sum.inl s_21 => (some false) | Sum.inr (s_22) => ((lpK (tree_Right.k2 a_1 s_22) (((a_1.length : Int).toNat, 0) : Nat × Int)).bind fun o_89 => match o_89 with | Sum.inl s_92 => (some false) | Sum.inr (s_93) => (some true))) else none)
theorem tree_Right.k_le (a_1 : List api_Ins) (a_2 : List api_Loc) : OLe (tree_Right.k a_1 a_2) (tree_Right.m a_1 a_2) := by
 unfold tree_Right.k tree_Right.m
 repeat' with_reducible first | exact tree_Right.k2_le .. | exact tree_Right.k1_le .. | exact tree_places.k_le .. | exact tree_above.k_le .. | refine OLe.lt (fun _ => ?_) | refine OLe.lp (fun _ => ?_) | refine OLe.bind ?_ (fun _ => ?_) | refine OLe.ite ?_ ?_ | exact OLe.rfl' | split
 all_goals (exfalso; simp_all)
noncomputable def alloc_makes.F : FI Try.prog 35 := fi Try.f35 16 Try.call35 Try.func35
def alloc_makes.m (a_1 : api_Ins) : Bool :=
 letC (if a_1.Op = 1 then ((true : Bool)) else (if a_1.Op = 2 then ((true : Bool)) else (if a_1.Op = 3 then ((true : Bool)) else (if a_1.Op = 4 then ((true : Bool)) else (if a_1.Op = 5 then ((true : Bool)) else (if a_1.Op = 6 then ((true : Bool)) else (if a_1.Op = 8 then ((true : Bool)) else (if a_1.Op = 10 then ((true : Bool)) else (if a_1.Op = 11 then ((true : Bool)) else (((decide (a_1.Op = 13)) : Bool)))))))))) : Bool) fun o_2 => if o_2 = true then (true) else (false)
noncomputable def alloc_makes.o (a_1 : api_Ins) (r : Bool) : Out := .ret (.v (.bool r)) [] []
theorem alloc_makes.ev {a_1 : api_Ins} {r : Bool} (H : alloc_makes.m a_1 = r) : Ev Try.prog 35 [.agg (api_Ins.c a_1)] [] [] (alloc_makes.o a_1 r) := by
 unfold alloc_makes.m at H
 obtain ⟨o_2, e_3, H⟩ := ltE H
 have j_4 : Rq alloc_makes.F 0 [1, 0, 1, 0, 0, 1] ⟨[(4, vi a_1.Op), (5, .v (.bool (decide (a_1.Op = 1))))], [], []⟩ ((fun _ => .normal : Bool → Ex) o_2) ((fun o_2 => ⟨[(5, .v (.bool o_2))], [], []⟩ : Bool → ASt) o_2) := by
  clear H
  have H := e_3
  clear e_3
  rcases ic H with ⟨h_5, H⟩ | ⟨h_5, H⟩
  ·subst H
   exact fn [br h_5]
  ·rcases ic H with ⟨h_6, H⟩ | ⟨h_6, H⟩
   ·subst H
    exact fn [br h_5, br h_6]
   ·rcases ic H with ⟨h_7, H⟩ | ⟨h_7, H⟩
    ·subst H
     exact fn [br h_5, br h_6, br h_7]
    ·rcases ic H with ⟨h_8, H⟩ | ⟨h_8, H⟩
     ·subst H
      exact fn [br h_5, br h_6, br h_7, br h_8]
     ·rcases ic H with ⟨h_9, H⟩ | ⟨h_9, H⟩
      ·subst H
       exact fn [br h_5, br h_6, br h_7, br h_8, br h_9]
      ·rcases ic H with ⟨h_10, H⟩ | ⟨h_10, H⟩
       ·subst H
        exact fn [br h_5, br h_6, br h_7, br h_8, br h_9, br h_10]
       ·rcases ic H with ⟨h_11, H⟩ | ⟨h_11, H⟩
        ·subst H
         exact fn [br h_5, br h_6, br h_7, br h_8, br h_9, br h_10, br h_11]
        ·rcases ic H with ⟨h_12, H⟩ | ⟨h_12, H⟩
         ·subst H
          exact fn [br h_5, br h_6, br h_7, br h_8, br h_9, br h_10, br h_11, br h_12]
         ·rcases ic H with ⟨h_13, H⟩ | ⟨h_13, H⟩
          ·subst H
           exact fn [br h_5, br h_6, br h_7, br h_8, br h_9, br h_10, br h_11, br h_12, br h_13]
          ·subst H
           exact fn [br h_5, br h_6, br h_7, br h_8, br h_9, br h_10, br h_11, br h_12, br h_13]
 rcases ie H with ⟨h_14, H⟩ | ⟨h_14, H⟩
 ·subst H
  exact alloc_makes.F.run tb mixed [sc_ j_4, br h_14] rfl (by kernel_rfl)
 ·subst H
  exact alloc_makes.F.run tb mixed [sc_ j_4, br h_14] rfl (by kernel_rfl)
noncomputable def alloc_spanOf_1.F : FI Try.prog 79 := fi Try.f79 12 Try.call79 Try.func79
def alloc_spanOf_1.m (a_1 : api_Ins) (a_2 : Int) : Bool :=
 letC (alloc_makes.m a_1) fun r_3 => if r_3 = true then ((decide (a_1.D = a_2))) else (false)
noncomputable def alloc_spanOf_1.o (a_1 : api_Ins) (a_2 : Int) (r : Bool) : Out := .ret (.v (.bool r)) [.box [vi a_2]] []
theorem alloc_spanOf_1.ev {a_1 : api_Ins} {a_2 : Int} {r : Bool} (H : alloc_spanOf_1.m a_1 a_2 = r) : Ev Try.prog 79 [.agg (api_Ins.c a_1), .ref 0 0] [.box [vi a_2]] [] (alloc_spanOf_1.o a_1 a_2 r) := by
 unfold alloc_spanOf_1.m at H
 obtain ⟨r_3, e_4, H⟩ := ltE H
 rcases ie H with ⟨h_5, H⟩ | ⟨h_5, H⟩
 ·subst H
  exact alloc_spanOf_1.F.run tb mixed [ca [] (alloc_makes.ev e_4), br h_5, pT] rfl (by kernel_rfl)
 ·subst H
  exact alloc_spanOf_1.F.run tb mixed [ca [] (alloc_makes.ev e_4), br h_5, pF] rfl (by kernel_rfl)
noncomputable def slices_IndexFunc.F : FI Try.prog 78 := fi Try.f78 19 Try.call78 Try.func78
def slices_IndexFunc.l1 (a_1 : List api_Ins) (a_2 : Int) (s_5 : Int) : Option (Int ⊕ (Int ⊕ Unit)) :=
 if s_5 < (a_1.length : Int) then (if 0 ≤ s_5 ∧ s_5 < (a_1.length : Int) then (letC (gi a_1 s_5) fun v_13 => letC (alloc_spanOf_1.m v_13 a_2) fun r_14 => if r_14 = true then (some (Sum.inr (Sum.inl s_5))) else (some (Sum.inl (wr .i64 (s_5 + 1))))) else none) else (some (Sum.inr (Sum.inr (()))))
def slices_IndexFunc.m (a_1 : List api_Ins) (a_2 : Int) : Option (Int) :=
 (B.loop (slices_IndexFunc.l1 a_1 a_2) (0 : Int)).bind fun o_6 => match o_6 with | Sum.inl s_9 => (some s_9) | Sum.inr (s_10) => (some (-1))
noncomputable def slices_IndexFunc.o (a_1 : List api_Ins) (a_2 : Int) (r : Int) : Out := .ret (vi r) [.box [vi a_2]] []
theorem slices_IndexFunc.ev {a_1 : List api_Ins} {a_2 : Int} {r : Int} (H : slices_IndexFunc.m a_1 a_2 = some r) : Ev Try.prog 78 [.ro false 8 a_1.length (a_1.map api_Ins.c), .fn 79 [] [.ref 0 0]] [.box [vi a_2]] [] (slices_IndexFunc.o a_1 a_2 r) := by
 unfold slices_IndexFunc.m at H
 obtain ⟨o_6, e_7, H⟩ := bdE H
 have j_8 := Runs.loop (P := Try.prog) (N := slices_IndexFunc.F.N) (m0 := 1) (c := sub_ slices_IndexFunc.F.c [1, 0, 1, 0, 0]) (f := (slices_IndexFunc.l1 a_1 a_2)) (St := fun s_5 => ⟨[(0, .ro false 8 a_1.length (a_1.map api_Ins.c)), (1, .fn 79 [] [.ref 0 0]), (7, vi (a_1.length : Int)), (8, vi s_5)], [.box [vi a_2]], []⟩) (xo := (fun o => match o with | Sum.inl _ => .ret | Sum.inr (_) => (.exit 0) : (Int ⊕ Unit) → Ex)) (So := (fun o => match o with | Sum.inl s_9 => ⟨[(4, vi s_9)], [.box [vi a_2]], []⟩ | Sum.inr (s_10) => ⟨[], [.box [vi a_2]], []⟩ : (Int ⊕ Unit) → ASt)) (by intro o; rcases o with _ | _ <;> simp) (fun s_5 z H => by
  unfold slices_IndexFunc.l1 at H
  rcases ic H with ⟨h_11, H⟩ | ⟨h_11, H⟩
  ·obtain ⟨g_12, H⟩ := gdE H
   let v_13 : api_Ins := gi a_1 s_5
   replace H := ltD H
   obtain ⟨r_14, e_15, H⟩ := ltE H
   rcases ie H with ⟨h_16, H⟩ | ⟨h_16, H⟩
   ·obtain rfl := sj H
    exact fn [br h_11, ix api_Ins.c g_12, ca [0] (alloc_spanOf_1.ev e_15), br h_16]
   ·obtain rfl := sj H
    exact fn [br h_11, ix api_Ins.c g_12, ca [0] (alloc_spanOf_1.ev e_15), br h_16]
  ·obtain rfl := sj H
   exact fn [br h_11] (by kernel_rfl)) e_7
 rcases o_6 with s_9 | s_10
 ·obtain rfl := sj H
  exact slices_IndexFunc.F.run tb mixed [su j_8] rfl (by kernel_rfl)
 ·obtain rfl := sj H
  exact slices_IndexFunc.F.run tb mixed [su j_8] rfl (by kernel_rfl)
def slices_IndexFunc.k1 (a_1 : List api_Ins) (a_2 : Int) (s_5 : Int) : Option (Int ⊕ (Int ⊕ Unit)) :=
 if s_5 < (a_1.length : Int) then (if 0 ≤ s_5 ∧ s_5 < (a_1.length : Int) then (letK (gi a_1 s_5) fun v_13 => letK (alloc_spanOf_1.m v_13 a_2) fun r_14 => if r_14 = true then (some (Sum.inr (Sum.inl s_5))) else (some (Sum.inl (wr .i64 (s_5 + 1))))) else none) else (some (Sum.inr (Sum.inr (()))))
theorem slices_IndexFunc.k1_le (a_1 : List api_Ins) (a_2 : Int) (s_5 : Int) : OLe (slices_IndexFunc.k1 a_1 a_2 s_5) (slices_IndexFunc.l1 a_1 a_2 s_5) := by
 unfold slices_IndexFunc.k1 slices_IndexFunc.l1
 repeat' with_reducible first | refine OLe.lt (fun _ => ?_) | refine OLe.lp (fun _ => ?_) | refine OLe.bind ?_ (fun _ => ?_) | refine OLe.ite ?_ ?_ | exact OLe.rfl' | split
def slices_IndexFunc.k (a_1 : List api_Ins) (a_2 : Int) : Option (Int) :=
 (lpK (slices_IndexFunc.k1 a_1 a_2) (0 : Int)).bind fun o_6 => match o_6 with | Sum.inl s_9 => (some s_9) | Sum.inr (s_10) => (some (-1))
theorem slices_IndexFunc.k_le (a_1 : List api_Ins) (a_2 : Int) : OLe (slices_IndexFunc.k a_1 a_2) (slices_IndexFunc.m a_1 a_2) := by
 unfold slices_IndexFunc.k slices_IndexFunc.m
 repeat' with_reducible first | exact slices_IndexFunc.k1_le .. | refine OLe.lt (fun _ => ?_) | refine OLe.lp (fun _ => ?_) | refine OLe.bind ?_ (fun _ => ?_) | refine OLe.ite ?_ ?_ | exact OLe.rfl' | split
 all_goals (exfalso; simp_all)
noncomputable def alloc_needs.F : FI Try.prog 80 := fi Try.f80 37 Try.call80 Try.func80
def alloc_needs.m (a_1 : api_Ins) (a_2 : Int) : Bool :=
 letC (if a_1.Op = 2 then ((true : Bool)) else (if a_1.Op = 3 then ((true : Bool)) else (if a_1.Op = 4 then ((true : Bool)) else (if a_1.Op = 5 then ((true : Bool)) else (if a_1.Op = 12 then ((true : Bool)) else (if a_1.Op = 14 then ((true : Bool)) else (if a_1.Op = 16 then ((true : Bool)) else (((decide (a_1.Op = 17)) : Bool)))))))) : Bool) fun o_3 => if o_3 = true then (if a_1.A = a_2 then (true) else ((decide (a_1.B = a_2)))) else (letC (if a_1.Op = 7 then ((true : Bool)) else (if a_1.Op = 9 then ((true : Bool)) else (if a_1.Op = 10 then ((true : Bool)) else (if a_1.Op = 11 then ((true : Bool)) else (if a_1.Op = 13 then ((true : Bool)) else (((decide (a_1.Op = 15)) : Bool)))))) : Bool) fun o_15 => if o_15 = true then ((decide (a_1.A = a_2))) else (false))
noncomputable def alloc_needs.o (a_1 : api_Ins) (a_2 : Int) (r : Bool) : Out := .ret (.v (.bool r)) [] []
theorem alloc_needs.ev {a_1 : api_Ins} {a_2 : Int} {r : Bool} (H : alloc_needs.m a_1 a_2 = r) : Ev Try.prog 80 [.agg (api_Ins.c a_1), vi a_2] [] [] (alloc_needs.o a_1 a_2 r) := by
 unfold alloc_needs.m at H
 obtain ⟨o_3, e_4, H⟩ := ltE H
 have j_5 : Rq alloc_needs.F 0 [1, 0, 1, 0, 0, 1] ⟨[(1, vi a_2), (2, .ref 0 0), (6, vi a_1.Op), (7, .v (.bool (decide (a_1.Op = 2))))], [.box (api_Ins.c a_1)], []⟩ ((fun _ => .normal : Bool → Ex) o_3) ((fun o_3 => ⟨[(1, vi a_2), (2, .ref 0 0), (6, vi a_1.Op), (7, .v (.bool o_3))], [.box (api_Ins.c a_1)], []⟩ : Bool → ASt) o_3) := by
  clear H
  have H := e_4
  clear e_4
  rcases ic H with ⟨h_6, H⟩ | ⟨h_6, H⟩
  ·subst H
   exact fn [br h_6]
  ·rcases ic H with ⟨h_7, H⟩ | ⟨h_7, H⟩
   ·subst H
    exact fn [br h_6, br h_7]
   ·rcases ic H with ⟨h_8, H⟩ | ⟨h_8, H⟩
    ·subst H
     exact fn [br h_6, br h_7, br h_8]
    ·rcases ic H with ⟨h_9, H⟩ | ⟨h_9, H⟩
     ·subst H
      exact fn [br h_6, br h_7, br h_8, br h_9]
     ·rcases ic H with ⟨h_10, H⟩ | ⟨h_10, H⟩
      ·subst H
       exact fn [br h_6, br h_7, br h_8, br h_9, br h_10]
      ·rcases ic H with ⟨h_11, H⟩ | ⟨h_11, H⟩
       ·subst H
        exact fn [br h_6, br h_7, br h_8, br h_9, br h_10, br h_11]
       ·rcases ic H with ⟨h_12, H⟩ | ⟨h_12, H⟩
        ·subst H
         exact fn [br h_6, br h_7, br h_8, br h_9, br h_10, br h_11, br h_12]
        ·subst H
         exact fn [br h_6, br h_7, br h_8, br h_9, br h_10, br h_11, br h_12]
 rcases ie H with ⟨h_13, H⟩ | ⟨h_13, H⟩
 ·rcases ic H with ⟨h_14, H⟩ | ⟨h_14, H⟩
  ·subst H
   exact alloc_needs.F.run tb mixed [sc_ j_5, br h_13, br h_14, pT] rfl (by kernel_rfl)
  ·subst H
   exact alloc_needs.F.run tb mixed [sc_ j_5, br h_13, br h_14, pF] rfl (by kernel_rfl)
 ·obtain ⟨o_15, e_16, H⟩ := ltE H
  have j_17 : Rq alloc_needs.F 0 [1, 0, 1, 0, 1, 1, 0, 1] ⟨[(1, vi a_2), (2, .ref 0 0), (6, vi a_1.Op), (26, .v (.bool (decide (a_1.Op = 7))))], [.box (api_Ins.c a_1)], []⟩ ((fun _ => .normal : Bool → Ex) o_15) ((fun o_15 => ⟨[(1, vi a_2), (2, .ref 0 0), (26, .v (.bool o_15))], [.box (api_Ins.c a_1)], []⟩ : Bool → ASt) o_15) := by
   clear H
   have H := e_16
   clear e_16
   rcases ic H with ⟨h_18, H⟩ | ⟨h_18, H⟩
   ·subst H
    exact fn [br h_18]
   ·rcases ic H with ⟨h_19, H⟩ | ⟨h_19, H⟩
    ·subst H
     exact fn [br h_18, br h_19]
    ·rcases ic H with ⟨h_20, H⟩ | ⟨h_20, H⟩
     ·subst H
      exact fn [br h_18, br h_19, br h_20]
     ·rcases ic H with ⟨h_21, H⟩ | ⟨h_21, H⟩
      ·subst H
       exact fn [br h_18, br h_19, br h_20, br h_21]
      ·rcases ic H with ⟨h_22, H⟩ | ⟨h_22, H⟩
       ·subst H
        exact fn [br h_18, br h_19, br h_20, br h_21, br h_22]
       ·subst H
        exact fn [br h_18, br h_19, br h_20, br h_21, br h_22]
  rcases ie H with ⟨h_23, H⟩ | ⟨h_23, H⟩
  ·subst H
   exact alloc_needs.F.run tb mixed [sc_ j_5, br h_13, sc_ j_17, br h_23] rfl (by kernel_rfl)
  ·subst H
   exact alloc_needs.F.run tb mixed [sc_ j_5, br h_13, sc_ j_17, br h_23] rfl (by kernel_rfl)
noncomputable def alloc_spanOf.F : FI Try.prog 36 := fi Try.f36 41 Try.call36 Try.func36
def alloc_spanOf.l1 (a_1 : List api_Ins) (a_2 : Int) (s_8 : alloc_span × alloc_span × Int) : Option ((alloc_span × alloc_span × Int) ⊕ (alloc_span × alloc_span)) :=
 if s_8.2.2 < (a_1.length : Int) then (if 0 ≤ s_8.2.2 ∧ s_8.2.2 < (a_1.length : Int) then (letC (gi a_1 s_8.2.2) fun v_14 => letC (alloc_needs.m v_14 a_2) fun r_15 => if r_15 = true then (letC (wr .i64 (s_8.2.1.uses + 1)) fun v_18 => letC (if s_8.2.2 > s_8.2.1.to_ then s_8.2.2 else s_8.2.1.to_) fun v_19 => letC (wr .i64 (s_8.2.2 + 1)) fun v_20 => some (Sum.inl (s_8.1, (alloc_span.mk s_8.2.1.temp s_8.2.1.from_ v_19 v_18), v_20))) else (letC (wr .i64 (s_8.2.2 + 1)) fun v_21 => some (Sum.inl (s_8.1, s_8.2.1, v_21)))) else none) else (some (Sum.inr (s_8.1, s_8.2.1)))
def alloc_spanOf.m (a_1 : List api_Ins) (a_2 : Int) : Option (alloc_span × Bool) :=
 (slices_IndexFunc.m a_1 a_2).bind fun r_3 => if r_3 < 0 then (some ((alloc_span.mk 0 0 0 0), false)) else ((B.loop (alloc_spanOf.l1 a_1 a_2) (((alloc_span.mk 0 0 0 0), (alloc_span.mk a_2 r_3 r_3 0), 0) : alloc_span × alloc_span × Int)).bind fun o_9 => some (o_9.2, true))
noncomputable def alloc_spanOf.o (a_1 : List api_Ins) (a_2 : Int) (r : alloc_span × Bool) : Out := .ret (.tup [.agg (alloc_span.c r.1), .v (.bool r.2)]) [] []
theorem alloc_spanOf.ev {a_1 : List api_Ins} {a_2 : Int} {r : alloc_span × Bool} (H : alloc_spanOf.m a_1 a_2 = some r) : Ev Try.prog 36 [.ro false 8 a_1.length (a_1.map api_Ins.c), vi a_2] [] [] (alloc_spanOf.o a_1 a_2 r) := by
 unfold alloc_spanOf.m at H
 obtain ⟨r_3, e_4, H⟩ := bdE H
 rcases ic H with ⟨h_5, H⟩ | ⟨h_5, H⟩
 ·obtain rfl := sj H
  exact alloc_spanOf.F.run tb mixed [ca [0] (slices_IndexFunc.ev e_4), br h_5] rfl (by kernel_rfl)
 ·obtain ⟨o_9, e_10, H⟩ := bdE H
  have j_11 := Runs.loop (P := Try.prog) (N := alloc_spanOf.F.N) (m0 := 0) (c := sub_ alloc_spanOf.F.c [1, 1, 1, 1, 0, 1, 0, 0]) (f := (alloc_spanOf.l1 a_1 a_2)) (St := fun s_8 => ⟨[(3, .ref 0 0), (4, .ref 1 0), (7, .ref 2 0), (20, .ro false 8 a_1.length (a_1.map api_Ins.c)), (21, vi (a_1.length : Int)), (22, vi s_8.2.2)], [.box [vi a_2], .box (alloc_span.c s_8.1), .box (alloc_span.c s_8.2.1)], []⟩) (xo := (fun _ => (.exit 0) : (alloc_span × alloc_span) → Ex)) (So := (fun o_9 => ⟨[(4, .ref 1 0), (7, .ref 2 0)], [.dead, .box (alloc_span.c o_9.1), .box (alloc_span.c o_9.2)], []⟩ : (alloc_span × alloc_span) → ASt)) (by intro o; simp) (fun s_8 z H => by
   unfold alloc_spanOf.l1 at H
   rcases ic H with ⟨h_12, H⟩ | ⟨h_12, H⟩
   ·obtain ⟨g_13, H⟩ := gdE H
    let v_14 : api_Ins := gi a_1 s_8.2.2
    replace H := ltD H
    obtain ⟨r_15, e_16, H⟩ := ltE H
    rcases ie H with ⟨h_17, H⟩ | ⟨h_17, H⟩
    ·let v_18 : Int := wr .i64 (s_8.2.1.uses + 1)
     replace H := ltD H
     let v_19 : Int := if s_8.2.2 > s_8.2.1.to_ then s_8.2.2 else s_8.2.1.to_
     replace H := ltD H
     let v_20 : Int := wr .i64 (s_8.2.2 + 1)
     replace H := ltD H
     obtain rfl := sj H
     exact fn [br h_12, ix api_Ins.c g_13, ca [] (alloc_needs.ev e_16), br h_17]
    ·let v_21 : Int := wr .i64 (s_8.2.2 + 1)
     replace H := ltD H
     obtain rfl := sj H
     exact fn [br h_12, ix api_Ins.c g_13, ca [] (alloc_needs.ev e_16), br h_17]
   ·obtain rfl := sj H
    exact fn [br h_12] (by kernel_rfl)) e_10
  obtain rfl := sj H
  exact alloc_spanOf.F.run tb mixed [ca [0] (slices_IndexFunc.ev e_4), br h_5, su j_11] rfl (by kernel_rfl)
def alloc_spanOf.k1 (a_1 : List api_Ins) (a_2 : Int) (s_8 : alloc_span × alloc_span × Int) : Option ((alloc_span × alloc_span × Int) ⊕ (alloc_span × alloc_span)) :=
 if s_8.2.2 < (a_1.length : Int) then (if 0 ≤ s_8.2.2 ∧ s_8.2.2 < (a_1.length : Int) then (letK (gi a_1 s_8.2.2) fun v_14 => letK (alloc_needs.m v_14 a_2) fun r_15 => if r_15 = true then (letK (wr .i64 (s_8.2.1.uses + 1)) fun v_18 => letK (if s_8.2.2 > s_8.2.1.to_ then s_8.2.2 else s_8.2.1.to_) fun v_19 => letK (wr .i64 (s_8.2.2 + 1)) fun v_20 => some (Sum.inl (s_8.1, (alloc_span.mk s_8.2.1.temp s_8.2.1.from_ v_19 v_18), v_20))) else (letK (wr .i64 (s_8.2.2 + 1)) fun v_21 => some (Sum.inl (s_8.1, s_8.2.1, v_21)))) else none) else (some (Sum.inr (s_8.1, s_8.2.1)))
theorem alloc_spanOf.k1_le (a_1 : List api_Ins) (a_2 : Int) (s_8 : alloc_span × alloc_span × Int) : OLe (alloc_spanOf.k1 a_1 a_2 s_8) (alloc_spanOf.l1 a_1 a_2 s_8) := by
 unfold alloc_spanOf.k1 alloc_spanOf.l1
 repeat' with_reducible first | exact slices_IndexFunc.k_le .. | refine OLe.lt (fun _ => ?_) | refine OLe.lp (fun _ => ?_) | refine OLe.bind ?_ (fun _ => ?_) | refine OLe.ite ?_ ?_ | exact OLe.rfl' | split
def alloc_spanOf.k (a_1 : List api_Ins) (a_2 : Int) : Option (alloc_span × Bool) :=
 (slices_IndexFunc.k a_1 a_2).bind fun r_3 => if r_3 < 0 then (some ((alloc_span.mk 0 0 0 0), false)) else ((lpK (alloc_spanOf.k1 a_1 a_2) (((alloc_span.mk 0 0 0 0), (alloc_span.mk a_2 r_3 r_3 0), 0) : alloc_span × alloc_span × Int)).bind fun o_9 => some (o_9.2, true))
theorem alloc_spanOf.k_le (a_1 : List api_Ins) (a_2 : Int) : OLe (alloc_spanOf.k a_1 a_2) (alloc_spanOf.m a_1 a_2) := by
 unfold alloc_spanOf.k alloc_spanOf.m
 repeat' with_reducible first | exact alloc_spanOf.k1_le .. | exact slices_IndexFunc.k_le .. | refine OLe.lt (fun _ => ?_) | refine OLe.lp (fun _ => ?_) | refine OLe.bind ?_ (fun _ => ?_) | refine OLe.ite ?_ ?_ | exact OLe.rfl' | split
noncomputable def alloc_Homes_1.F : FI Try.prog 38 := fi Try.f38 9 Try.call38 Try.func38
def alloc_Homes_1.m (a_1 : alloc_span) (a_2 : alloc_span) : Unit :=
 ()
noncomputable def alloc_Homes_1.o (a_1 : alloc_span) (a_2 : alloc_span) (r : Unit) : Out := .ret (.v (.bool (decide (a_1.to_ < a_2.from_)))) [.box (alloc_span.c a_2)] []
theorem alloc_Homes_1.ev {a_1 : alloc_span} {a_2 : alloc_span} {r : Unit} (H : alloc_Homes_1.m a_1 a_2 = r) : Ev Try.prog 38 [.agg (alloc_span.c a_1), .ref 0 0] [.box (alloc_span.c a_2)] [] (alloc_Homes_1.o a_1 a_2 r) := by
 unfold alloc_Homes_1.m at H
 subst H
 exact alloc_Homes_1.F.run tb mixed [] rfl (by kernel_rfl)
noncomputable def slices_IndexFunc_2.F : FI Try.prog 81 := fi Try.f81 19 Try.call81 Try.func81
def slices_IndexFunc_2.l1 (a_1 : List alloc_span) (a_2 : alloc_span) (s_5 : Int) : Option (Int ⊕ (Int ⊕ Unit)) :=
 if s_5 < (a_1.length : Int) then (if 0 ≤ s_5 ∧ s_5 < (a_1.length : Int) then (letC (gi a_1 s_5) fun v_13 => letC (alloc_Homes_1.m v_13 a_2) fun r_14 => if v_13.to_ < a_2.from_ then (some (Sum.inr (Sum.inl s_5))) else (some (Sum.inl (wr .i64 (s_5 + 1))))) else none) else (some (Sum.inr (Sum.inr (()))))
def slices_IndexFunc_2.m (a_1 : List alloc_span) (a_2 : alloc_span) : Option (Int) :=
 (B.loop (slices_IndexFunc_2.l1 a_1 a_2) (0 : Int)).bind fun o_6 => match o_6 with | Sum.inl s_9 => (some s_9) | Sum.inr (s_10) => (some (-1))
noncomputable def slices_IndexFunc_2.o (a_1 : List alloc_span) (a_2 : alloc_span) (r : Int) : Out := .ret (vi r) [.arr true 110 4 a_1.length (a_1.map alloc_span.c), .box (alloc_span.c a_2)] []
theorem slices_IndexFunc_2.ev {a_1 : List alloc_span} {a_2 : alloc_span} {r : Int} (H : slices_IndexFunc_2.m a_1 a_2 = some r) : Ev Try.prog 81 [sL 0 a_1, .fn 38 [] [.ref 1 0]] [.arr true 110 4 a_1.length (a_1.map alloc_span.c), .box (alloc_span.c a_2)] [] (slices_IndexFunc_2.o a_1 a_2 r) := by
 unfold slices_IndexFunc_2.m at H
 obtain ⟨o_6, e_7, H⟩ := bdE H
 have j_8 := Runs.loop (P := Try.prog) (N := slices_IndexFunc_2.F.N) (m0 := 2) (c := sub_ slices_IndexFunc_2.F.c [1, 0, 1, 0, 0]) (f := (slices_IndexFunc_2.l1 a_1 a_2)) (St := fun s_5 => ⟨[(0, sL 0 a_1), (1, .fn 38 [] [.ref 1 0]), (7, vi (a_1.length : Int)), (8, vi s_5)], [.arr true 110 4 a_1.length (a_1.map alloc_span.c), .box (alloc_span.c a_2)], []⟩) (xo := (fun o => match o with | Sum.inl _ => .ret | Sum.inr (_) => (.exit 0) : (Int ⊕ Unit) → Ex)) (So := (fun o => match o with | Sum.inl s_9 => ⟨[(4, vi s_9)], [.arr true 110 4 a_1.length (a_1.map alloc_span.c), .box (alloc_span.c a_2)], []⟩ | Sum.inr (s_10) => ⟨[], [.arr true 110 4 a_1.length (a_1.map alloc_span.c), .box (alloc_span.c a_2)], []⟩ : (Int ⊕ Unit) → ASt)) (by intro o; rcases o with _ | _ <;> simp) (fun s_5 z H => by
  unfold slices_IndexFunc_2.l1 at H
  rcases ic H with ⟨h_11, H⟩ | ⟨h_11, H⟩
  ·obtain ⟨g_12, H⟩ := gdE H
   let v_13 : alloc_span := gi a_1 s_5
   replace H := ltD H
   obtain ⟨r_14, e_15, H⟩ := ltE H
   rcases ic H with ⟨h_16, H⟩ | ⟨h_16, H⟩
   ·obtain rfl := sj H
    exact fn [br h_11, pf g_12, el alloc_span.c g_12, ca [1] (alloc_Homes_1.ev e_15), br h_16]
   ·obtain rfl := sj H
    exact fn [br h_11, pf g_12, el alloc_span.c g_12, ca [1] (alloc_Homes_1.ev e_15), br h_16]
  ·obtain rfl := sj H
   exact fn [br h_11] (by kernel_rfl)) e_7
 rcases o_6 with s_9 | s_10
 ·obtain rfl := sj H
  exact slices_IndexFunc_2.F.run tb mixed [su j_8] rfl (by kernel_rfl)
 ·obtain rfl := sj H
  exact slices_IndexFunc_2.F.run tb mixed [su j_8] rfl (by kernel_rfl)
def slices_IndexFunc_2.k1 (a_1 : List alloc_span) (a_2 : alloc_span) (s_5 : Int) : Option (Int ⊕ (Int ⊕ Unit)) :=
 if s_5 < (a_1.length : Int) then (if 0 ≤ s_5 ∧ s_5 < (a_1.length : Int) then (letK (gi a_1 s_5) fun v_13 => letK (alloc_Homes_1.m v_13 a_2) fun r_14 => if v_13.to_ < a_2.from_ then (some (Sum.inr (Sum.inl s_5))) else (some (Sum.inl (wr .i64 (s_5 + 1))))) else none) else (some (Sum.inr (Sum.inr (()))))
theorem slices_IndexFunc_2.k1_le (a_1 : List alloc_span) (a_2 : alloc_span) (s_5 : Int) : OLe (slices_IndexFunc_2.k1 a_1 a_2 s_5) (slices_IndexFunc_2.l1 a_1 a_2 s_5) := by
 unfold slices_IndexFunc_2.k1 slices_IndexFunc_2.l1
 repeat' with_reducible first | refine OLe.lt (fun _ => ?_) | refine OLe.lp (fun _ => ?_) | refine OLe.bind ?_ (fun _ => ?_) | refine OLe.ite ?_ ?_ | exact OLe.rfl' | split
def slices_IndexFunc_2.k (a_1 : List alloc_span) (a_2 : alloc_span) : Option (Int) :=
 (lpK (slices_IndexFunc_2.k1 a_1 a_2) (0 : Int)).bind fun o_6 => match o_6 with | Sum.inl s_9 => (some s_9) | Sum.inr (s_10) => (some (-1))
theorem slices_IndexFunc_2.k_le (a_1 : List alloc_span) (a_2 : alloc_span) : OLe (slices_IndexFunc_2.k a_1 a_2) (slices_IndexFunc_2.m a_1 a_2) := by
 unfold slices_IndexFunc_2.k slices_IndexFunc_2.m
 repeat' with_reducible first | exact slices_IndexFunc_2.k1_le .. | refine OLe.lt (fun _ => ?_) | refine OLe.lp (fun _ => ?_) | refine OLe.bind ?_ (fun _ => ?_) | refine OLe.ite ?_ ?_ | exact OLe.rfl' | split
 all_goals (exfalso; simp_all)
noncomputable def slices_DeleteFunc.F : FI Try.prog 37 := fi Try.f37 42 Try.call37 Try.func37
def slices_DeleteFunc.l1 (a_1 : List alloc_span) (a_2 : alloc_span) (s_8 : (List alloc_span) × Int × Int) : Option (((List alloc_span) × Int × Int) ⊕ ((List alloc_span) × Int)) :=
 if s_8.2.2 < (a_1.length : Int) then (if 0 ≤ s_8.2.2 ∧ s_8.2.2 < (a_1.length : Int) then (if 0 ≤ s_8.2.2 ∧ s_8.2.2 < (s_8.1.length : Int) then (letC (gi s_8.1 s_8.2.2) fun v_15 => letC (alloc_Homes_1.m v_15 a_2) fun r_16 => if v_15.to_ < a_2.from_ then (letC (wr .i64 (s_8.2.2 + 1)) fun v_19 => some (Sum.inl (s_8.1, s_8.2.1, v_19))) else (if 0 ≤ s_8.2.1 ∧ s_8.2.1 < (a_1.length : Int) then (if 0 ≤ s_8.2.1 ∧ s_8.2.1 < (s_8.1.length : Int) then (letC (s_8.1.set s_8.2.1.toNat v_15) fun v_22 => letC (wr .i64 (s_8.2.1 + 1)) fun v_23 => letC (wr .i64 (s_8.2.2 + 1)) fun v_24 => some (Sum.inl (v_22, v_23, v_24))) else none) else none)) else none) else none) else (some (Sum.inr (s_8.1, s_8.2.1)))
def slices_DeleteFunc.m (a_1 : List alloc_span) (a_2 : alloc_span) : Option (List alloc_span) :=
 (slices_IndexFunc_2.m a_1 a_2).bind fun r_3 => if r_3 = -1 then (some (a_1.take a_1.length)) else ((B.loop (slices_DeleteFunc.l1 a_1 a_2) ((a_1, r_3, (wr .i64 (r_3 + 1))) : (List alloc_span) × Int × Int)).bind fun o_9 => if 0 ≤ o_9.2 ∧ o_9.2 ≤ (a_1.length : Int) ∧ (a_1.length : Int) ≤ (a_1.length : Int) then (letC (o_9.1.take (0 + o_9.2.toNat) ++ List.replicate ((a_1.length : Int).toNat - o_9.2.toNat) ((alloc_span.mk 0 0 0 0) : alloc_span) ++ o_9.1.drop ((0 + o_9.2.toNat) + ((a_1.length : Int).toNat - o_9.2.toNat))) fun v_26 => if 0 ≤ o_9.2 ∧ o_9.2 ≤ (a_1.length : Int) then (some (v_26.take o_9.2.toNat)) else none) else none)
noncomputable def slices_DeleteFunc.o (a_1 : List alloc_span) (a_2 : alloc_span) (r : List alloc_span) : Out := .ret (sL 2 r) [.dead, .box (alloc_span.c a_2), .arr true 110 4 r.length (r.map alloc_span.c)] []
theorem slices_DeleteFunc.ev {a_1 : List alloc_span} {a_2 : alloc_span} {r : List alloc_span} (H : slices_DeleteFunc.m a_1 a_2 = some r) : Ev Try.prog 37 [sL 0 a_1, .fn 38 [] [.ref 1 0]] [.arr true 110 4 a_1.length (a_1.map alloc_span.c), .box (alloc_span.c a_2)] [] (slices_DeleteFunc.o a_1 a_2 r) := by
 unfold slices_DeleteFunc.m at H
 obtain ⟨r_3, e_4, H⟩ := bdE H
 rcases ic H with ⟨h_5, H⟩ | ⟨h_5, H⟩
 ·obtain rfl := sj H
  exact slices_DeleteFunc.F.run tb mixed [ca [0, 1] (slices_IndexFunc_2.ev e_4), br h_5, cutn 4 alloc_span.c a_1 a_1.length] rfl (by kernel_rfl)
 ·obtain ⟨o_9, e_10, H⟩ := bdE H
  have j_11 := Runs.loop (P := Try.prog) (N := slices_DeleteFunc.F.N) (m0 := 2) (c := sub_ slices_DeleteFunc.F.c [1, 1, 1, 0, 1, 0, 0]) (f := (slices_DeleteFunc.l1 a_1 a_2)) (St := fun s_8 => ⟨[(0, sL 0 a_1), (1, .fn 38 [] [.ref 1 0]), (5, vi s_8.2.1), (6, vi s_8.2.2)], [.arr true 110 4 a_1.length (s_8.1.map alloc_span.c), .box (alloc_span.c a_2)], []⟩) (xo := (fun _ => (.exit 0) : ((List alloc_span) × Int) → Ex)) (So := (fun o_9 => ⟨[(0, sL 0 a_1), (5, vi o_9.2)], [.arr true 110 4 a_1.length (o_9.1.map alloc_span.c), .box (alloc_span.c a_2)], []⟩ : ((List alloc_span) × Int) → ASt)) (by intro o; simp) (fun s_8 z H => by
   unfold slices_DeleteFunc.l1 at H
   rcases ic H with ⟨h_12, H⟩ | ⟨h_12, H⟩
   ·obtain ⟨g_13, H⟩ := gdE H
    obtain ⟨g_14, H⟩ := gdE H
    let v_15 : alloc_span := gi s_8.1 s_8.2.2
    replace H := ltD H
    obtain ⟨r_16, e_17, H⟩ := ltE H
    rcases ic H with ⟨h_18, H⟩ | ⟨h_18, H⟩
    ·let v_19 : Int := wr .i64 (s_8.2.2 + 1)
     replace H := ltD H
     obtain rfl := sj H
     exact fn [br h_12, pf g_13, el alloc_span.c g_14, ca [1] (alloc_Homes_1.ev e_17), bn h_18]
    ·obtain ⟨g_20, H⟩ := gdE H
     obtain ⟨g_21, H⟩ := gdE H
     let v_22 : List alloc_span := s_8.1.set s_8.2.1.toNat v_15
     replace H := ltD H
     let v_23 : Int := wr .i64 (s_8.2.1 + 1)
     replace H := ltD H
     let v_24 : Int := wr .i64 (s_8.2.2 + 1)
     replace H := ltD H
     obtain rfl := sj H
     exact fn [br h_12, pf g_13, el alloc_span.c g_14, ca [1] (alloc_Homes_1.ev e_17), bn h_18, pf g_20, up alloc_span.c 0 [vi v_15.temp, vi v_15.from_, vi v_15.to_, vi v_15.uses] v_15 g_21 (by kernel_rfl)]
   ·obtain rfl := sj H
    exact fn [br h_12] (by kernel_rfl)) e_10
  obtain ⟨g_25, H⟩ := gdE H
  let v_26 : List alloc_span := o_9.1.take (0 + o_9.2.toNat) ++ List.replicate ((a_1.length : Int).toNat - o_9.2.toNat) ((alloc_span.mk 0 0 0 0) : alloc_span) ++ o_9.1.drop ((0 + o_9.2.toNat) + ((a_1.length : Int).toNat - o_9.2.toNat))
  replace H := ltD H
  obtain ⟨g_27, H⟩ := gdE H
  obtain rfl := sj H
  exact slices_DeleteFunc.F.run tb mixed [ca [0, 1] (slices_IndexFunc_2.ev e_4), br h_5, su j_11, pf g_25, cl alloc_span.c o_9.1 (0 + o_9.2.toNat) ((a_1.length : Int).toNat - o_9.2.toNat) ((alloc_span.mk 0 0 0 0) : alloc_span) (by omega : (0 + o_9.2.toNat) + ((a_1.length : Int).toNat - o_9.2.toNat) ≤ a_1.length), pf g_27, cutn 4 alloc_span.c v_26 o_9.2.toNat] rfl (by kernel_rfl)
def slices_DeleteFunc.k1 (a_1 : List alloc_span) (a_2 : alloc_span) (s_8 : (List alloc_span) × Int × Int) : Option (((List alloc_span) × Int × Int) ⊕ ((List alloc_span) × Int)) :=
 if s_8.2.2 < (a_1.length : Int) then (if 0 ≤ s_8.2.2 ∧ s_8.2.2 < (a_1.length : Int) then (if 0 ≤ s_8.2.2 ∧ s_8.2.2 < (s_8.1.length : Int) then (letK (gi s_8.1 s_8.2.2) fun v_15 => letK (alloc_Homes_1.m v_15 a_2) fun r_16 => if v_15.to_ < a_2.from_ then (letK (wr .i64 (s_8.2.2 + 1)) fun v_19 => some (Sum.inl (s_8.1, s_8.2.1, v_19))) else (if 0 ≤ s_8.2.1 ∧ s_8.2.1 < (a_1.length : Int) then (if 0 ≤ s_8.2.1 ∧ s_8.2.1 < (s_8.1.length : Int) then (letK (s_8.1.set s_8.2.1.toNat v_15) fun v_22 => letK (wr .i64 (s_8.2.1 + 1)) fun v_23 => letK (wr .i64 (s_8.2.2 + 1)) fun v_24 => some (Sum.inl (v_22, v_23, v_24))) else none) else none)) else none) else none) else (some (Sum.inr (s_8.1, s_8.2.1)))
theorem slices_DeleteFunc.k1_le (a_1 : List alloc_span) (a_2 : alloc_span) (s_8 : (List alloc_span) × Int × Int) : OLe (slices_DeleteFunc.k1 a_1 a_2 s_8) (slices_DeleteFunc.l1 a_1 a_2 s_8) := by
 unfold slices_DeleteFunc.k1 slices_DeleteFunc.l1
 repeat' with_reducible first | exact slices_IndexFunc_2.k_le .. | refine OLe.lt (fun _ => ?_) | refine OLe.lp (fun _ => ?_) | refine OLe.bind ?_ (fun _ => ?_) | refine OLe.ite ?_ ?_ | exact OLe.rfl' | split
def slices_DeleteFunc.k (a_1 : List alloc_span) (a_2 : alloc_span) : Option (List alloc_span) :=
 (slices_IndexFunc_2.k a_1 a_2).bind fun r_3 => if r_3 = -1 then (some (a_1.take a_1.length)) else ((lpK (slices_DeleteFunc.k1 a_1 a_2) ((a_1, r_3, (wr .i64 (r_3 + 1))) : (List alloc_span) × Int × Int)).bind fun o_9 => if 0 ≤ o_9.2 ∧ o_9.2 ≤ (a_1.length : Int) ∧ (a_1.length : Int) ≤ (a_1.length : Int) then (letK (o_9.1.take (0 + o_9.2.toNat) ++ List.replicate ((a_1.length : Int).toNat - o_9.2.toNat) ((alloc_span.mk 0 0 0 0) : alloc_span) ++ o_9.1.drop ((0 + o_9.2.toNat) + ((a_1.length : Int).toNat - o_9.2.toNat))) fun v_26 => if 0 ≤ o_9.2 ∧ o_9.2 ≤ (a_1.length : Int) then (some (v_26.take o_9.2.toNat)) else none) else none)
theorem slices_DeleteFunc.k_le (a_1 : List alloc_span) (a_2 : alloc_span) : OLe (slices_DeleteFunc.k a_1 a_2) (slices_DeleteFunc.m a_1 a_2) := by
 unfold slices_DeleteFunc.k slices_DeleteFunc.m
 repeat' with_reducible first | exact slices_DeleteFunc.k1_le .. | exact slices_IndexFunc_2.k_le .. | refine OLe.lt (fun _ => ?_) | refine OLe.lp (fun _ => ?_) | refine OLe.bind ?_ (fun _ => ?_) | refine OLe.ite ?_ ?_ | exact OLe.rfl' | split
noncomputable def slices_Clone_2.F : FI Try.prog 39 := fi Try.f39 8 Try.call39 Try.func39
def slices_Clone_2.m : Unit :=
 ()
noncomputable def slices_Clone_2.o (r : Unit) : Out := .ret (.v (.slice none 0 0)) [] []
theorem slices_Clone_2.ev {r : Unit} (H : slices_Clone_2.m = r) : Ev Try.prog 39 [.v (.slice none 0 0)] [] [] (slices_Clone_2.o r) := by
 unfold slices_Clone_2.m at H
 subst H
 exact slices_Clone_2.F.run tb mixed [au] rfl (by kernel_rfl)
noncomputable def slices_Clone_3.F : FI Try.prog 39 := fi Try.f39 8 Try.call39 Try.func39
def slices_Clone_3.m (a_1 : List alloc_span) : Option (List alloc_span) :=
 if (([] : List alloc_span).length + a_1.length) * 32 ≤ 140737488355328 then (letC (([] : List alloc_span) ++ a_1) fun v_3 => some v_3) else none
noncomputable def slices_Clone_3.o (a_1 : List alloc_span) (r : List alloc_span) : Out := .ret (sL 1 r) [.arr false 110 4 a_1.length (a_1.map alloc_span.c), .arr false 110 4 r.length (r.map alloc_span.c)] []
theorem slices_Clone_3.ev {a_1 : List alloc_span} {r : List alloc_span} (H : slices_Clone_3.m a_1 = some r) : Ev Try.prog 39 [sL 0 a_1] [.arr false 110 4 a_1.length (a_1.map alloc_span.c)] [] (slices_Clone_3.o a_1 r) := by
 unfold slices_Clone_3.m at H
 obtain ⟨g_2, H⟩ := gdE H
 let v_3 : List alloc_span := ([] : List alloc_span) ++ a_1
 replace H := ltD H
 obtain rfl := sj H
 exact slices_Clone_3.F.run tb mixed [au, apw alloc_span.c 32 false ([] : List alloc_span) a_1 g_2 (fun h => by cases h)] rfl (by kernel_rfl)
def slices_Clone_4.m (a_1 : List alloc_span) : Option (List alloc_span) := slices_Clone_3.m a_1
noncomputable def slices_Clone_4.o (a_1 : List alloc_span) (r : List alloc_span) : Out := .ret (sL 1 r) [.arr true 110 4 a_1.length (a_1.map alloc_span.c), .arr true 110 4 r.length (r.map alloc_span.c)] []
theorem slices_Clone_4.ev {a_1 : List alloc_span} {r : List alloc_span} (H : slices_Clone_4.m a_1 = some r) : Ev Try.prog 39 [sL 0 a_1] [.arr true 110 4 a_1.length (a_1.map alloc_span.c)] [] (slices_Clone_4.o a_1 r) := by
 refine Ev.nlr (z1 := false) (slices_Clone_2.ev (r := ()) rfl) (slices_Clone_3.ev H) (fun h => ?_)
 have h := List.map_eq_nil_iff.1 h
 subst h
 simp [slices_Clone_4.m, slices_Clone_3.m, letC] at H
 subst H
 exact ⟨rfl, rfl⟩
noncomputable def weight_Of.F : FI Try.prog 84 := fi Try.f84 10 Try.call84 Try.func84
def weight_Of.m (a_1 : Int) (a_2 : Int) : Nat :=
 letC (qf (flt (i2f a_1)) (flt (i2f a_2))) fun v_3 => v_3
noncomputable def weight_Of.o (a_1 : Int) (a_2 : Int) (r : Nat) : Out := .ret (.flt r) [] []
theorem weight_Of.ev {a_1 : Int} {a_2 : Int} {r : Nat} (H : weight_Of.m a_1 a_2 = r) : Ev Try.prog 84 [vi a_1, vi a_2] [] [] (weight_Of.o a_1 a_2 r) := by
 unfold weight_Of.m at H
 let v_3 : Nat := qf (flt (i2f a_1)) (flt (i2f a_2))
 replace H := ltD H
 subst H
 exact weight_Of.F.run tb mixed [] rfl (by kernel_rfl)
noncomputable def alloc_weightOf.F : FI Try.prog 41 := fi Try.f41 11 Try.call41 Try.func41
def alloc_weightOf.m (a_1 : alloc_span) : Nat :=
 letC (wr .i64 (a_1.to_ - a_1.from_)) fun v_2 => letC (weight_Of.m a_1.uses v_2) fun r_3 => r_3
noncomputable def alloc_weightOf.o (a_1 : alloc_span) (r : Nat) : Out := .ret (.flt r) [] []
theorem alloc_weightOf.ev {a_1 : alloc_span} {r : Nat} (H : alloc_weightOf.m a_1 = r) : Ev Try.prog 41 [.agg (alloc_span.c a_1)] [] [] (alloc_weightOf.o a_1 r) := by
 unfold alloc_weightOf.m at H
 let v_2 : Int := wr .i64 (a_1.to_ - a_1.from_)
 replace H := ltD H
 obtain ⟨r_3, e_4, H⟩ := ltE H
 subst H
 exact alloc_weightOf.F.run tb mixed [ca [] (weight_Of.ev e_4)] rfl (by kernel_rfl)
noncomputable def math_Signbit.F : FI Try.prog 91 := fi Try.f91 7 Try.call91 Try.func91
def math_Signbit.m (a_1 : Nat) : Option (Unit) :=
 if isnan a_1 = false then (some ()) else none
noncomputable def math_Signbit.o (a_1 : Nat) (r : Unit) : Out := .ret (.v (.bool (decide ((wr .i64 (a_1 : Int)) < 0)))) [] []
theorem math_Signbit.ev {a_1 : Nat} {r : Unit} (H : math_Signbit.m a_1 = some r) : Ev Try.prog 91 [.flt a_1] [] [] (math_Signbit.o a_1 r) := by
 unfold math_Signbit.m at H
 obtain ⟨g_2, H⟩ := gdE H
 obtain rfl := sj H
 exact math_Signbit.F.run tb mixed [ext (ext_f64bits Try.func60 (by kernel_rfl) (by kernel_rfl) (by kernel_rfl) (by kernel_rfl) g_2)] rfl (by kernel_rfl)
noncomputable def cmp_isNaN.F : FI Try.prog 93 := fi Try.f93 6 Try.call93 Try.func93
def cmp_isNaN.m (a_1 : Nat) : Unit :=
 ()
noncomputable def cmp_isNaN.o (a_1 : Nat) (r : Unit) : Out := .ret (.v (.bool (!(feq a_1 a_1)))) [] []
theorem cmp_isNaN.ev {a_1 : Nat} {r : Unit} (H : cmp_isNaN.m a_1 = r) : Ev Try.prog 93 [.flt a_1] [] [] (cmp_isNaN.o a_1 r) := by
 unfold cmp_isNaN.m at H
 subst H
 exact cmp_isNaN.F.run tb mixed [] rfl (by kernel_rfl)
noncomputable def cmp_Less.F : FI Try.prog 92 := fi Try.f92 17 Try.call92 Try.func92
def cmp_Less.m (a_1 : Nat) (a_2 : Nat) : Bool :=
 letC (cmp_isNaN.m a_1) fun r_3 => if (feq a_1 a_1) = true then ((fls a_1 a_2)) else (letC (cmp_isNaN.m a_2) fun r_6 => if (feq a_2 a_2) = true then (true) else ((fls a_1 a_2)))
noncomputable def cmp_Less.o (a_1 : Nat) (a_2 : Nat) (r : Bool) : Out := .ret (.v (.bool r)) [] []
theorem cmp_Less.ev {a_1 : Nat} {a_2 : Nat} {r : Bool} (H : cmp_Less.m a_1 a_2 = r) : Ev Try.prog 92 [.flt a_1, .flt a_2] [] [] (cmp_Less.o a_1 a_2 r) := by
 unfold cmp_Less.m at H
 obtain ⟨r_3, e_4, H⟩ := ltE H
 rcases ie H with ⟨h_5, H⟩ | ⟨h_5, H⟩
 ·subst H
  exact cmp_Less.F.run tb mixed [ca [] (cmp_isNaN.ev e_4), bn h_5, pF, au, pF] rfl (by kernel_rfl)
 ·obtain ⟨r_6, e_7, H⟩ := ltE H
  rcases ie H with ⟨h_8, H⟩ | ⟨h_8, H⟩
  ·subst H
   exact cmp_Less.F.run tb mixed [ca [] (cmp_isNaN.ev e_4), bn h_5, ca [] (cmp_isNaN.ev e_7), pT, bn (congrArg not h_8), pT] rfl (by kernel_rfl)
  ·subst H
   exact cmp_Less.F.run tb mixed [ca [] (cmp_isNaN.ev e_4), bn h_5, ca [] (cmp_isNaN.ev e_7), pT, bn (congrArg not h_8), pF] rfl (by kernel_rfl)
noncomputable def weight_Less.F : FI Try.prog 85 := fi Try.f85 21 Try.call85 Try.func85
def weight_Less.m (a_1 : Nat) (a_2 : Nat) : Option (Bool) :=
 (if (feq a_1 (flt 0)) = true then (some ((feq a_2 (flt 0)) : Bool)) else (some (false : Bool)) : Option Bool).bind fun o_3 => if o_3 = true then ((math_Signbit.m a_1).bind fun r_8 => if (wr .i64 (a_1 : Int)) < 0 then ((math_Signbit.m a_2).bind fun r_11 => some (!(decide ((wr .i64 (a_2 : Int)) < 0)))) else (some false)) else (letC (cmp_Less.m a_1 a_2) fun r_13 => some r_13)
noncomputable def weight_Less.o (a_1 : Nat) (a_2 : Nat) (r : Bool) : Out := .ret (.v (.bool r)) [] []
theorem weight_Less.ev {a_1 : Nat} {a_2 : Nat} {r : Bool} (H : weight_Less.m a_1 a_2 = some r) : Ev Try.prog 85 [.flt a_1, .flt a_2] [] [] (weight_Less.o a_1 a_2 r) := by
 unfold weight_Less.m at H
 obtain ⟨o_3, e_4, H⟩ := bdE H
 have j_5 : Rq weight_Less.F 0 [1, 0, 0] ⟨[(0, .flt a_1), (1, .flt a_2)], [], []⟩ ((fun _ => .normal : Bool → Ex) o_3) ((fun o_3 => ⟨[(0, .flt a_1), (1, .flt a_2), (10, .v (.bool o_3))], [], []⟩ : Bool → ASt) o_3) := by
  clear H
  have H := e_4
  clear e_4
  rcases ie H with ⟨h_6, H⟩ | ⟨h_6, H⟩
  ·obtain rfl := sj H
   exact fn [br h_6, pT]
  ·obtain rfl := sj H
   exact fn [br h_6, pF]
 rcases ie H with ⟨h_7, H⟩ | ⟨h_7, H⟩
 ·obtain ⟨r_8, e_9, H⟩ := bdE H
  rcases ic H with ⟨h_10, H⟩ | ⟨h_10, H⟩
  ·obtain ⟨r_11, e_12, H⟩ := bdE H
   obtain rfl := sj H
   exact weight_Less.F.run tb mixed [sg_ 1 j_5, br h_7, ca [] (math_Signbit.ev e_9), br h_10, ca [] (math_Signbit.ev e_12), pT] rfl (by kernel_rfl)
  ·obtain rfl := sj H
   exact weight_Less.F.run tb mixed [sg_ 1 j_5, br h_7, ca [] (math_Signbit.ev e_9), br h_10, pF] rfl (by kernel_rfl)
 ·obtain ⟨r_13, e_14, H⟩ := ltE H
  obtain rfl := sj H
  exact weight_Less.F.run tb mixed [sg_ 1 j_5, br h_7, ca [] (cmp_Less.ev e_14)] rfl (by kernel_rfl)
noncomputable def weight_Least.F : FI Try.prog 42 := fi Try.f42 26 Try.call42 Try.func42
def weight_Least.l1 (a_1 : List Nat) (a_2 : Nat) (s_5 : Int × Int) : Option ((Int × Int) ⊕ Int) :=
 if s_5.2 < (a_2 : Int) then (if s_5.1 < 0 then (letC (wr .i64 (s_5.2 + 1)) fun v_11 => some (Sum.inl (s_5.2, v_11))) else (if 0 ≤ s_5.2 ∧ s_5.2 < (a_2 : Int) then (if 0 ≤ s_5.2 ∧ s_5.2 < (a_1.length : Int) then (letC (gi a_1 s_5.2) fun v_14 => if 0 ≤ s_5.1 ∧ s_5.1 < (a_2 : Int) then (if 0 ≤ s_5.1 ∧ s_5.1 < (a_1.length : Int) then (letC (gi a_1 s_5.1) fun v_17 => (weight_Less.m v_14 v_17).bind fun r_18 => if r_18 = true then (letC (wr .i64 (s_5.2 + 1)) fun v_21 => some (Sum.inl (s_5.2, v_21))) else (letC (wr .i64 (s_5.2 + 1)) fun v_22 => some (Sum.inl (s_5.1, v_22)))) else none) else none) else none) else none)) else (some (Sum.inr s_5.1))
def weight_Least.m (a_1 : List Nat) (a_2 : Nat) : Option (Int) :=
 (B.loop (weight_Least.l1 a_1 a_2) (((-1), 0) : Int × Int)).bind fun o_6 => some o_6
noncomputable def weight_Least.o (a_1 : List Nat) (a_2 : Nat) (r : Int) : Out := .ret (vi r) [.arr false 83 1 a_2 (a_1.map cF)] []
theorem weight_Least.ev {a_1 : List Nat} {a_2 : Nat} {r : Int} (H : weight_Least.m a_1 a_2 = some r) : Ev Try.prog 42 [.sl 0 0 a_2 0 a_2] [.arr false 83 1 a_2 (a_1.map cF)] [] (weight_Least.o a_1 a_2 r) := by
 unfold weight_Least.m at H
 obtain ⟨o_6, e_7, H⟩ := bdE H
 have j_8 := Runs.loop (P := Try.prog) (N := weight_Least.F.N) (m0 := 1) (c := sub_ weight_Least.F.c [1, 1, 0, 1, 0, 0]) (f := (weight_Least.l1 a_1 a_2)) (St := fun s_5 => ⟨[(0, .sl 0 0 a_2 0 a_2), (3, vi s_5.1), (6, vi (a_2 : Int)), (7, vi s_5.2)], [.arr false 83 1 a_2 (a_1.map cF)], []⟩) (xo := (fun _ => (.exit 0) : Int → Ex)) (So := (fun o_6 => ⟨[(3, vi o_6)], [.arr false 83 1 a_2 (a_1.map cF)], []⟩ : Int → ASt)) (by intro o; simp) (fun s_5 z H => by
  unfold weight_Least.l1 at H
  rcases ic H with ⟨h_9, H⟩ | ⟨h_9, H⟩
  ·rcases ic H with ⟨h_10, H⟩ | ⟨h_10, H⟩
   ·let v_11 : Int := wr .i64 (s_5.2 + 1)
    replace H := ltD H
    obtain rfl := sj H
    exact fn [br h_9, br h_10, pT, au]
   ·obtain ⟨g_12, H⟩ := gdE H
    obtain ⟨g_13, H⟩ := gdE H
    let v_14 : Nat := gi a_1 s_5.2
    replace H := ltD H
    obtain ⟨g_15, H⟩ := gdE H
    obtain ⟨g_16, H⟩ := gdE H
    let v_17 : Nat := gi a_1 s_5.1
    replace H := ltD H
    obtain ⟨r_18, e_19, H⟩ := bdE H
    rcases ie H with ⟨h_20, H⟩ | ⟨h_20, H⟩
    ·let v_21 : Int := wr .i64 (s_5.2 + 1)
     replace H := ltD H
     obtain rfl := sj H
     exact fn [br h_9, br h_10, pf g_12, el cF g_13, pf g_15, el cF g_16, ca [] (weight_Less.ev e_19), pF, br h_20]
    ·let v_22 : Int := wr .i64 (s_5.2 + 1)
     replace H := ltD H
     obtain rfl := sj H
     exact fn [br h_9, br h_10, pf g_12, el cF g_13, pf g_15, el cF g_16, ca [] (weight_Less.ev e_19), pF, br h_20]
  ·obtain rfl := sj H
   exact fn [br h_9] (by kernel_rfl)) e_7
 obtain rfl := sj H
 exact weight_Least.F.run tb mixed [su j_8] rfl (by kernel_rfl)
def weight_Least.k1 (a_1 : List Nat) (a_2 : Nat) (s_5 : Int × Int) : Option ((Int × Int) ⊕ Int) :=
 if s_5.2 < (a_2 : Int) then (if s_5.1 < 0 then (letK (wr .i64 (s_5.2 + 1)) fun v_11 => some (Sum.inl (s_5.2, v_11))) else (if 0 ≤ s_5.2 ∧ s_5.2 < (a_2 : Int) then (if 0 ≤ s_5.2 ∧ s_5.2 < (a_1.length : Int) then (letK (gi a_1 s_5.2) fun v_14 => if 0 ≤ s_5.1 ∧ s_5.1 < (a_2 : Int) then (if 0 ≤ s_5.1 ∧ s_5.1 < (a_1.length : Int) then (letK (gi a_1 s_5.1) fun v_17 => (weight_Less.m v_14 v_17).bind fun r_18 => if r_18 = true then (letK (wr .i64 (s_5.2 + 1)) fun v_21 => some (Sum.inl (s_5.2, v_21))) else (letK (wr .i64 (s_5.2 + 1)) fun v_22 => some (Sum.inl (s_5.1, v_22)))) else none) else none) else none) else none)) else (some (Sum.inr s_5.1))
theorem weight_Least.k1_le (a_1 : List Nat) (a_2 : Nat) (s_5 : Int × Int) : OLe (weight_Least.k1 a_1 a_2 s_5) (weight_Least.l1 a_1 a_2 s_5) := by
 unfold weight_Least.k1 weight_Least.l1
 repeat' with_reducible first | refine OLe.lt (fun _ => ?_) | refine OLe.lp (fun _ => ?_) | refine OLe.bind ?_ (fun _ => ?_) | refine OLe.ite ?_ ?_ | exact OLe.rfl' | split
def weight_Least.k (a_1 : List Nat) (a_2 : Nat) : Option (Int) :=
 (lpK (weight_Least.k1 a_1 a_2) (((-1), 0) : Int × Int)).bind fun o_6 => some o_6
theorem weight_Least.k_le (a_1 : List Nat) (a_2 : Nat) : OLe (weight_Least.k a_1 a_2) (weight_Least.m a_1 a_2) := by
 unfold weight_Least.k weight_Least.m
 repeat' with_reducible first | exact weight_Least.k1_le .. | refine OLe.lt (fun _ => ?_) | refine OLe.lp (fun _ => ?_) | refine OLe.bind ?_ (fun _ => ?_) | refine OLe.ite ?_ ?_ | exact OLe.rfl' | split
noncomputable def slices_Delete.F : FI Try.prog 43 := fi Try.f43 33 Try.call43 Try.func43
def slices_Delete.m (a_1 : Int) (a_2 : Int) (a_3 : List alloc_span) : Option (List alloc_span) :=
 if 0 ≤ a_1 ∧ a_1 ≤ a_2 ∧ a_2 ≤ (a_3.length : Int) ∧ (a_3.length : Int) ≤ (a_3.length : Int) then (if a_1 = a_2 then (some (a_3.take a_3.length)) else (if 0 ≤ a_1 ∧ a_1 ≤ (a_3.length : Int) then (if 0 ≤ a_2 ∧ a_2 ≤ (a_3.length : Int) ∧ (a_3.length : Int) ≤ (a_3.length : Int) then (letC (a_3.take a_1.toNat ++ (a_3.drop (0 + a_2.toNat)).take ((a_3.length : Int).toNat - a_2.toNat) ++ a_3.drop (a_1.toNat + ((a_3.length : Int).toNat - a_2.toNat))) fun v_8 => if 0 ≤ (((a_1.toNat + ((a_3.length : Int).toNat - a_2.toNat)) : Nat) : Int) ∧ (((a_1.toNat + ((a_3.length : Int).toNat - a_2.toNat)) : Nat) : Int) ≤ (a_3.length : Int) ∧ (a_3.length : Int) ≤ (a_3.length : Int) then (letC (v_8.take (0 + (((a_1.toNat + ((a_3.length : Int).toNat - a_2.toNat)) : Nat) : Int).toNat) ++ List.replicate ((a_3.length : Int).toNat - (((a_1.toNat + ((a_3.length : Int).toNat - a_2.toNat)) : Nat) : Int).toNat) ((alloc_span.mk 0 0 0 0) : alloc_span) ++ v_8.drop ((0 + (((a_1.toNat + ((a_3.length : Int).toNat - a_2.toNat)) : Nat) : Int).toNat) + ((a_3.length : Int).toNat - (((a_1.toNat + ((a_3.length : Int).toNat - a_2.toNat)) : Nat) : Int).toNat))) fun v_10 => some (v_10.take (a_1.toNat + ((a_3.length : Int).toNat - a_2.toNat)))) else none) else none) else none)) else none
noncomputable def slices_Delete.o (a_1 : Int) (a_2 : Int) (a_3 : List alloc_span) (r : List alloc_span) : Out := .ret (sL 1 r) [.dead, .arr true 110 4 r.length (r.map alloc_span.c)] []
theorem slices_Delete.ev {a_1 : Int} {a_2 : Int} {a_3 : List alloc_span} {r : List alloc_span} (H : slices_Delete.m a_1 a_2 a_3 = some r) : Ev Try.prog 43 [sL 0 a_3, vi a_1, vi a_2] [.arr true 110 4 a_3.length (a_3.map alloc_span.c)] [] (slices_Delete.o a_1 a_2 a_3 r) := by
 unfold slices_Delete.m at H
 obtain ⟨g_4, H⟩ := gdE H
 rcases ic H with ⟨h_5, H⟩ | ⟨h_5, H⟩
 ·obtain rfl := sj H
  exact slices_Delete.F.run tb mixed [pf g_4, br h_5, cutn 6 alloc_span.c a_3 a_3.length] rfl (by kernel_rfl)
 ·obtain ⟨g_6, H⟩ := gdE H
  obtain ⟨g_7, H⟩ := gdE H
  let v_8 : List alloc_span := a_3.take a_1.toNat ++ (a_3.drop (0 + a_2.toNat)).take ((a_3.length : Int).toNat - a_2.toNat) ++ a_3.drop (a_1.toNat + ((a_3.length : Int).toNat - a_2.toNat))
  replace H := ltD H
  obtain ⟨g_9, H⟩ := gdE H
  let v_10 : List alloc_span := v_8.take (0 + (((a_1.toNat + ((a_3.length : Int).toNat - a_2.toNat)) : Nat) : Int).toNat) ++ List.replicate ((a_3.length : Int).toNat - (((a_1.toNat + ((a_3.length : Int).toNat - a_2.toNat)) : Nat) : Int).toNat) ((alloc_span.mk 0 0 0 0) : alloc_span) ++ v_8.drop ((0 + (((a_1.toNat + ((a_3.length : Int).toNat - a_2.toNat)) : Nat) : Int).toNat) + ((a_3.length : Int).toNat - (((a_1.toNat + ((a_3.length : Int).toNat - a_2.toNat)) : Nat) : Int).toNat))
  replace H := ltD H
  obtain rfl := sj H
  exact slices_Delete.F.run tb mixed [pf g_4, br h_5, pf g_6, pf g_7, aps alloc_span.c a_3 a_1.toNat (0 + a_2.toNat) ((a_3.length : Int).toNat - a_2.toNat) (by omega : a_1.toNat + ((a_3.length : Int).toNat - a_2.toNat) ≤ a_3.length), pf g_9, cl alloc_span.c v_8 (0 + (((a_1.toNat + ((a_3.length : Int).toNat - a_2.toNat)) : Nat) : Int).toNat) ((a_3.length : Int).toNat - (((a_1.toNat + ((a_3.length : Int).toNat - a_2.toNat)) : Nat) : Int).toNat) ((alloc_span.mk 0 0 0 0) : alloc_span) (by omega : (0 + (((a_1.toNat + ((a_3.length : Int).toNat - a_2.toNat)) : Nat) : Int).toNat) + ((a_3.length : Int).toNat - (((a_1.toNat + ((a_3.length : Int).toNat - a_2.toNat)) : Nat) : Int).toNat) ≤ a_3.length), cutn 6 alloc_span.c v_10 (a_1.toNat + ((a_3.length : Int).toNat - a_2.toNat))] rfl (by kernel_rfl)
noncomputable def alloc_least_1_2.F : FI Try.prog 83 := fi Try.f83 13 Try.call83 Try.func83
def alloc_least_1_2.m (a_1 : alloc_span) (a_2 : Int) (a_3 : List api_Home) (a_4 : Nat) : Option (Bool) :=
 if 0 ≤ a_1.temp ∧ a_1.temp < (a_4 : Int) then (if 0 ≤ a_1.temp ∧ a_1.temp < (a_3.length : Int) then (letC (gi a_3 a_1.temp) fun v_7 => some (decide (v_7.Reg = a_2))) else none) else none
noncomputable def alloc_least_1_2.o (a_1 : alloc_span) (a_2 : Int) (a_3 : List api_Home) (a_4 : Nat) (r : Bool) : Out := .ret (.v (.bool r)) [.box [.sl 0 2 a_4 0 a_4], .box [vi a_2], .arr true 79 2 a_4 (a_3.map api_Home.c)] []
theorem alloc_least_1_2.ev {a_1 : alloc_span} {a_2 : Int} {a_3 : List api_Home} {a_4 : Nat} {r : Bool} (H : alloc_least_1_2.m a_1 a_2 a_3 a_4 = some r) : Ev Try.prog 83 [.agg (alloc_span.c a_1), .ref 0 0, .ref 1 0] [.box [.sl 0 2 a_4 0 a_4], .box [vi a_2], .arr true 79 2 a_4 (a_3.map api_Home.c)] [] (alloc_least_1_2.o a_1 a_2 a_3 a_4 r) := by
 unfold alloc_least_1_2.m at H
 obtain ⟨g_5, H⟩ := gdE H
 obtain ⟨g_6, H⟩ := gdE H
 let v_7 : api_Home := gi a_3 a_1.temp
 replace H := ltD H
 obtain rfl := sj H
 exact alloc_least_1_2.F.run tb mixed [pf g_5, el api_Home.c g_6] rfl (by kernel_rfl)
noncomputable def slices_IndexFunc_4.F : FI Try.prog 81 := fi Try.f81 19 Try.call81 Try.func81
def slices_IndexFunc_4.l1 (a_1 : List alloc_span) (a_2 : Int) (a_3 : List api_Home) (a_4 : Nat) (s_7 : Int) : Option (Int ⊕ (Int ⊕ Unit)) :=
 if s_7 < (a_1.length : Int) then (if 0 ≤ s_7 ∧ s_7 < (a_1.length : Int) then (letC (gi a_1 s_7) fun v_15 => (alloc_least_1_2.m v_15 a_2 a_3 a_4).bind fun r_16 => if r_16 = true then (some (Sum.inr (Sum.inl s_7))) else (some (Sum.inl (wr .i64 (s_7 + 1))))) else none) else (some (Sum.inr (Sum.inr (()))))
def slices_IndexFunc_4.m (a_1 : List alloc_span) (a_2 : Int) (a_3 : List api_Home) (a_4 : Nat) : Option (Int) :=
 (B.loop (slices_IndexFunc_4.l1 a_1 a_2 a_3 a_4) (0 : Int)).bind fun o_8 => match o_8 with | Sum.inl s_11 => (some s_11) | Sum.inr (s_12) => (some (-1))
noncomputable def slices_IndexFunc_4.o (a_1 : List alloc_span) (a_2 : Int) (a_3 : List api_Home) (a_4 : Nat) (r : Int) : Out := .ret (vi r) [.arr true 110 4 a_1.length (a_1.map alloc_span.c), .box [.sl 0 3 a_4 0 a_4], .box [vi a_2], .arr true 79 2 a_4 (a_3.map api_Home.c)] []
theorem slices_IndexFunc_4.ev {a_1 : List alloc_span} {a_2 : Int} {a_3 : List api_Home} {a_4 : Nat} {r : Int} (H : slices_IndexFunc_4.m a_1 a_2 a_3 a_4 = some r) : Ev Try.prog 81 [sL 0 a_1, .fn 83 [] [.ref 1 0, .ref 2 0]] [.arr true 110 4 a_1.length (a_1.map alloc_span.c), .box [.sl 0 3 a_4 0 a_4], .box [vi a_2], .arr true 79 2 a_4 (a_3.map api_Home.c)] [] (slices_IndexFunc_4.o a_1 a_2 a_3 a_4 r) := by
 unfold slices_IndexFunc_4.m at H
 obtain ⟨o_8, e_9, H⟩ := bdE H
 have j_10 := Runs.loop (P := Try.prog) (N := slices_IndexFunc_4.F.N) (m0 := 4) (c := sub_ slices_IndexFunc_4.F.c [1, 0, 1, 0, 0]) (f := (slices_IndexFunc_4.l1 a_1 a_2 a_3 a_4)) (St := fun s_7 => ⟨[(0, sL 0 a_1), (1, .fn 83 [] [.ref 1 0, .ref 2 0]), (7, vi (a_1.length : Int)), (8, vi s_7)], [.arr true 110 4 a_1.length (a_1.map alloc_span.c), .box [.sl 0 3 a_4 0 a_4], .box [vi a_2], .arr true 79 2 a_4 (a_3.map api_Home.c)], []⟩) (xo := (fun o => match o with | Sum.inl _ => .ret | Sum.inr (_) => (.exit 0) : (Int ⊕ Unit) → Ex)) (So := (fun o => match o with | Sum.inl s_11 => ⟨[(4, vi s_11)], [.arr true 110 4 a_1.length (a_1.map alloc_span.c), .box [.sl 0 3 a_4 0 a_4], .box [vi a_2], .arr true 79 2 a_4 (a_3.map api_Home.c)], []⟩ | Sum.inr (s_12) => ⟨[], [.arr true 110 4 a_1.length (a_1.map alloc_span.c), .box [.sl 0 3 a_4 0 a_4], .box [vi a_2], .arr true 79 2 a_4 (a_3.map api_Home.c)], []⟩ : (Int ⊕ Unit) → ASt)) (by intro o; rcases o with _ | _ <;> simp) (fun s_7 z H => by
  unfold slices_IndexFunc_4.l1 at H
  rcases ic H with ⟨h_13, H⟩ | ⟨h_13, H⟩
  ·obtain ⟨g_14, H⟩ := gdE H
   let v_15 : alloc_span := gi a_1 s_7
   replace H := ltD H
   obtain ⟨r_16, e_17, H⟩ := bdE H
   rcases ie H with ⟨h_18, H⟩ | ⟨h_18, H⟩
   ·obtain rfl := sj H
    exact fn [br h_13, pf g_14, el alloc_span.c g_14, ca [1, 2, 3] (alloc_least_1_2.ev e_17), br h_18]
   ·obtain rfl := sj H
    exact fn [br h_13, pf g_14, el alloc_span.c g_14, ca [1, 2, 3] (alloc_least_1_2.ev e_17), br h_18]
  ·obtain rfl := sj H
   exact fn [br h_13] (by kernel_rfl)) e_9
 rcases o_8 with s_11 | s_12
 ·obtain rfl := sj H
  exact slices_IndexFunc_4.F.run tb mixed [su j_10] rfl (by kernel_rfl)
 ·obtain rfl := sj H
  exact slices_IndexFunc_4.F.run tb mixed [su j_10] rfl (by kernel_rfl)
def slices_IndexFunc_4.k1 (a_1 : List alloc_span) (a_2 : Int) (a_3 : List api_Home) (a_4 : Nat) (s_7 : Int) : Option (Int ⊕ (Int ⊕ Unit)) :=
 if s_7 < (a_1.length : Int) then (if 0 ≤ s_7 ∧ s_7 < (a_1.length : Int) then (letK (gi a_1 s_7) fun v_15 => (alloc_least_1_2.m v_15 a_2 a_3 a_4).bind fun r_16 => if r_16 = true then (some (Sum.inr (Sum.inl s_7))) else (some (Sum.inl (wr .i64 (s_7 + 1))))) else none) else (some (Sum.inr (Sum.inr (()))))
theorem slices_IndexFunc_4.k1_le (a_1 : List alloc_span) (a_2 : Int) (a_3 : List api_Home) (a_4 : Nat) (s_7 : Int) : OLe (slices_IndexFunc_4.k1 a_1 a_2 a_3 a_4 s_7) (slices_IndexFunc_4.l1 a_1 a_2 a_3 a_4 s_7) := by
 unfold slices_IndexFunc_4.k1 slices_IndexFunc_4.l1
 repeat' with_reducible first | refine OLe.lt (fun _ => ?_) | refine OLe.lp (fun _ => ?_) | refine OLe.bind ?_ (fun _ => ?_) | refine OLe.ite ?_ ?_ | exact OLe.rfl' | split
def slices_IndexFunc_4.k (a_1 : List alloc_span) (a_2 : Int) (a_3 : List api_Home) (a_4 : Nat) : Option (Int) :=
 (lpK (slices_IndexFunc_4.k1 a_1 a_2 a_3 a_4) (0 : Int)).bind fun o_8 => match o_8 with | Sum.inl s_11 => (some s_11) | Sum.inr (s_12) => (some (-1))
theorem slices_IndexFunc_4.k_le (a_1 : List alloc_span) (a_2 : Int) (a_3 : List api_Home) (a_4 : Nat) : OLe (slices_IndexFunc_4.k a_1 a_2 a_3 a_4) (slices_IndexFunc_4.m a_1 a_2 a_3 a_4) := by
 unfold slices_IndexFunc_4.k slices_IndexFunc_4.m
 repeat' with_reducible first | exact slices_IndexFunc_4.k1_le .. | refine OLe.lt (fun _ => ?_) | refine OLe.lp (fun _ => ?_) | refine OLe.bind ?_ (fun _ => ?_) | refine OLe.ite ?_ ?_ | exact OLe.rfl' | split
 all_goals (exfalso; simp_all)
noncomputable def slices_ContainsFunc_2.F : FI Try.prog 82 := fi Try.f82 9 Try.call82 Try.func82
def slices_ContainsFunc_2.m (a_1 : List alloc_span) (a_2 : Int) (a_3 : List api_Home) (a_4 : Nat) : Option (Bool) :=
 (slices_IndexFunc_4.m a_1 a_2 a_3 a_4).bind fun r_5 => some (decide (r_5 ≥ 0))
noncomputable def slices_ContainsFunc_2.o (a_1 : List alloc_span) (a_2 : Int) (a_3 : List api_Home) (a_4 : Nat) (r : Bool) : Out := .ret (.v (.bool r)) [.arr true 110 4 a_1.length (a_1.map alloc_span.c), .box [.sl 0 3 a_4 0 a_4], .box [vi a_2], .arr true 79 2 a_4 (a_3.map api_Home.c)] []
theorem slices_ContainsFunc_2.ev {a_1 : List alloc_span} {a_2 : Int} {a_3 : List api_Home} {a_4 : Nat} {r : Bool} (H : slices_ContainsFunc_2.m a_1 a_2 a_3 a_4 = some r) : Ev Try.prog 82 [sL 0 a_1, .fn 83 [] [.ref 1 0, .ref 2 0]] [.arr true 110 4 a_1.length (a_1.map alloc_span.c), .box [.sl 0 3 a_4 0 a_4], .box [vi a_2], .arr true 79 2 a_4 (a_3.map api_Home.c)] [] (slices_ContainsFunc_2.o a_1 a_2 a_3 a_4 r) := by
 unfold slices_ContainsFunc_2.m at H
 obtain ⟨r_5, e_6, H⟩ := bdE H
 obtain rfl := sj H
 exact slices_ContainsFunc_2.F.run tb mixed [ca [0, 1, 2, 3] (slices_IndexFunc_4.ev e_6)] rfl (by kernel_rfl)
def slices_ContainsFunc_2.k (a_1 : List alloc_span) (a_2 : Int) (a_3 : List api_Home) (a_4 : Nat) : Option (Bool) :=
 (slices_IndexFunc_4.k a_1 a_2 a_3 a_4).bind fun r_5 => some (decide (r_5 ≥ 0))
theorem slices_ContainsFunc_2.k_le (a_1 : List alloc_span) (a_2 : Int) (a_3 : List api_Home) (a_4 : Nat) : OLe (slices_ContainsFunc_2.k a_1 a_2 a_3 a_4) (slices_ContainsFunc_2.m a_1 a_2 a_3 a_4) := by
 unfold slices_ContainsFunc_2.k slices_ContainsFunc_2.m
 repeat' with_reducible first | exact slices_IndexFunc_4.k_le .. | refine OLe.lt (fun _ => ?_) | refine OLe.lp (fun _ => ?_) | refine OLe.bind ?_ (fun _ => ?_) | refine OLe.ite ?_ ?_ | exact OLe.rfl' | split
noncomputable def alloc_least_2.F : FI Try.prog 40 := fi Try.f40 14 Try.call40 Try.func40
def alloc_least_2.l1 (a_1 : List alloc_span) (a_2 : List api_Home) (a_3 : Nat) (s_6 : Int) : Option (Int ⊕ Int) :=
 (slices_ContainsFunc_2.m a_1 s_6 a_2 a_3).bind fun r_10 => if r_10 = true then (some (Sum.inl (wr .i64 (s_6 + 1)))) else (some (Sum.inr s_6))
def alloc_least_2.m (a_1 : List alloc_span) (a_2 : List api_Home) (a_3 : Nat) : Option (Int) :=
 (B.loop (alloc_least_2.l1 a_1 a_2 a_3) (0 : Int)).bind fun o_7 => some o_7
noncomputable def alloc_least_2.o (a_1 : List alloc_span) (a_2 : List api_Home) (a_3 : Nat) (r : Int) : Out := .ret (vi r) [.arr true 110 4 a_1.length (a_1.map alloc_span.c), .arr true 79 2 a_3 (a_2.map api_Home.c)] []
theorem alloc_least_2.ev {a_1 : List alloc_span} {a_2 : List api_Home} {a_3 : Nat} {r : Int} (H : alloc_least_2.m a_1 a_2 a_3 = some r) : Ev Try.prog 40 [sL 0 a_1, .sl 0 1 a_3 0 a_3] [.arr true 110 4 a_1.length (a_1.map alloc_span.c), .arr true 79 2 a_3 (a_2.map api_Home.c)] [] (alloc_least_2.o a_1 a_2 a_3 r) := by
 unfold alloc_least_2.m at H
 obtain ⟨o_7, e_8, H⟩ := bdE H
 have j_9 := Runs.loop (P := Try.prog) (N := alloc_least_2.F.N) (m0 := 2) (c := sub_ alloc_least_2.F.c [1, 1, 0, 0]) (f := (alloc_least_2.l1 a_1 a_2 a_3)) (St := fun s_6 => ⟨[(0, sL 0 a_1), (3, .ref 2 0), (5, .ref 3 0)], [.arr true 110 4 a_1.length (a_1.map alloc_span.c), .arr true 79 2 a_3 (a_2.map api_Home.c), .box [.sl 0 1 a_3 0 a_3], .box [vi s_6]], []⟩) (xo := (fun _ => .ret : Int → Ex)) (So := (fun o_7 => ⟨[(4, vi o_7)], [.arr true 110 4 a_1.length (a_1.map alloc_span.c), .arr true 79 2 a_3 (a_2.map api_Home.c)], []⟩ : Int → ASt)) (by intro o; simp) (fun s_6 z H => by
  unfold alloc_least_2.l1 at H
  obtain ⟨r_10, e_11, H⟩ := bdE H
  rcases ie H with ⟨h_12, H⟩ | ⟨h_12, H⟩
  ·obtain rfl := sj H
   exact fn [ca [0, 2, 3, 1] (slices_ContainsFunc_2.ev e_11), bn h_12, rn [0, 1, 2, 4] [0, 3, 5]]
  ·obtain rfl := sj H
   exact fn [ca [0, 2, 3, 1] (slices_ContainsFunc_2.ev e_11), bn h_12] (by kernel_rfl)) e_8
 obtain rfl := sj H
 exact alloc_least_2.F.run tb mixed [su j_9] rfl (by kernel_rfl)
def alloc_least_2.k1 (a_1 : List alloc_span) (a_2 : List api_Home) (a_3 : Nat) (s_6 : Int) : Option (Int ⊕ Int) :=
 (slices_ContainsFunc_2.k a_1 s_6 a_2 a_3).bind fun r_10 => if r_10 = true then (some (Sum.inl (wr .i64 (s_6 + 1)))) else (some (Sum.inr s_6))
theorem alloc_least_2.k1_le (a_1 : List alloc_span) (a_2 : List api_Home) (a_3 : Nat) (s_6 : Int) : OLe (alloc_least_2.k1 a_1 a_2 a_3 s_6) (alloc_least_2.l1 a_1 a_2 a_3 s_6) := by
 unfold alloc_least_2.k1 alloc_least_2.l1
 repeat' with_reducible first | exact slices_ContainsFunc_2.k_le .. | refine OLe.lt (fun _ => ?_) | refine OLe.lp (fun _ => ?_) | refine OLe.bind ?_ (fun _ => ?_) | refine OLe.ite ?_ ?_ | exact OLe.rfl' | split
def alloc_least_2.k (a_1 : List alloc_span) (a_2 : List api_Home) (a_3 : Nat) : Option (Int) :=
 (lpK (alloc_least_2.k1 a_1 a_2 a_3) (0 : Int)).bind fun o_7 => some o_7
theorem alloc_least_2.k_le (a_1 : List alloc_span) (a_2 : List api_Home) (a_3 : Nat) : OLe (alloc_least_2.k a_1 a_2 a_3) (alloc_least_2.m a_1 a_2 a_3) := by
 unfold alloc_least_2.k alloc_least_2.m
 repeat' with_reducible first | exact alloc_least_2.k1_le .. | exact slices_ContainsFunc_2.k_le .. | refine OLe.lt (fun _ => ?_) | refine OLe.lp (fun _ => ?_) | refine OLe.bind ?_ (fun _ => ?_) | refine OLe.ite ?_ ?_ | exact OLe.rfl' | split
noncomputable def alloc_Homes.F : FI Try.prog 20 := fi Try.f20 124 Try.call20 Try.func20
def alloc_Homes.l3 (v_41 : List alloc_span) (s_53 : (List Nat) × Int) : Option (((List Nat) × Int) ⊕ (List Nat)) :=
 if s_53.2 < (v_41.length : Int) then (if 0 ≤ s_53.2 ∧ s_53.2 < (v_41.length : Int) then (letC (gi v_41 s_53.2) fun v_59 => letC (alloc_weightOf.m v_59) fun r_60 => if 0 ≤ s_53.2 ∧ s_53.2 < (((v_41.length : Int).toNat : Nat) : Int) then (if 0 ≤ s_53.2 ∧ s_53.2 < (s_53.1.length : Int) then (letC (s_53.1.set s_53.2.toNat r_60) fun v_64 => letC (wr .i64 (s_53.2 + 1)) fun v_65 => some (Sum.inl (v_64, v_65))) else none) else none) else none) else (some (Sum.inr s_53.1))
def alloc_Homes.l2 (v_20 : api_Ins) (s_26 : (List api_Home) × Nat) : Option (((List api_Home) × Nat) ⊕ ((List api_Home) × Nat)) :=
 if (s_26.2 : Int) ≤ v_20.D then (if s_26.1.length = s_26.2 then (if (s_26.2 + ([(api_Home.mk (-1) (-1))] : List api_Home).length) * 16 ≤ 140737488355328 then (letC (s_26.1 ++ ([(api_Home.mk (-1) (-1))] : List api_Home)) fun v_33 => some (Sum.inl (v_33, v_33.length))) else none) else none) else (some (Sum.inr (s_26.1, s_26.2)))
def alloc_Homes.l1 (a_1 : List api_Ins) (a_3 : Int) (s_14 : (List api_Home) × Nat × (List alloc_span) × Int × Int) : Option (((List api_Home) × Nat × (List alloc_span) × Int × Int) ⊕ ((List api_Home) × Nat)) :=
 if s_14.2.2.2.2 < (a_1.length : Int) then (if 0 ≤ s_14.2.2.2.2 ∧ s_14.2.2.2.2 < (a_1.length : Int) then (letC (gi a_1 s_14.2.2.2.2) fun v_20 => letC (alloc_makes.m v_20) fun r_21 => if r_21 = true then ((B.loop (alloc_Homes.l2 v_20) ((s_14.1, s_14.2.1) : (List api_Home) × Nat)).bind fun o_27 => (alloc_spanOf.m a_1 v_20.D).bind fun r_34 => (slices_DeleteFunc.m s_14.2.2.1 r_34.1).bind fun r_36 => (slices_Clone_4.m r_36).bind fun r_38 => if (r_38.length + ([r_34.1] : List alloc_span).length) * 32 ≤ 140737488355328 then (letC (r_38 ++ ([r_34.1] : List alloc_span)) fun v_41 => if (r_36.length : Int) < a_3 then ((alloc_least_2.m r_36 o_27.1 o_27.2).bind fun r_43 => if 0 ≤ r_34.1.temp ∧ r_34.1.temp < (o_27.2 : Int) then (if 0 ≤ r_34.1.temp ∧ r_34.1.temp < (o_27.1.length : Int) then (letC (o_27.1.set r_34.1.temp.toNat (api_Home.mk r_43 0)) fun v_47 => letC (wr .i64 (s_14.2.2.2.2 + 1)) fun v_48 => some (Sum.inl (v_47, o_27.2, v_41, s_14.2.2.2.1, v_48))) else none) else none) else (if 0 ≤ (v_41.length : Int) ∧ (v_41.length : Int) ≤ (v_41.length : Int) ∧ (v_41.length : Int) * (8 : Nat) ≤ 140737488355328 then (letC (List.replicate (v_41.length : Int).toNat (0 : Nat)) fun v_50 => (B.loop (alloc_Homes.l3 v_41) ((v_50, 0) : (List Nat) × Int)).bind fun o_54 => (weight_Least.m o_54 ((v_41.length : Int).toNat)).bind fun r_66 => if 0 ≤ r_66 ∧ r_66 < (v_41.length : Int) then (letC (gi v_41 r_66) fun v_69 => if 0 ≤ v_69.temp ∧ v_69.temp < (o_27.2 : Int) then (if 0 ≤ v_69.temp ∧ v_69.temp < (o_27.1.length : Int) then (letC (gi o_27.1 v_69.temp) fun v_72 => if 0 ≤ r_34.1.temp ∧ r_34.1.temp < (o_27.2 : Int) then (if 0 ≤ r_34.1.temp ∧ r_34.1.temp < (o_27.1.length : Int) then (letC (o_27.1.set r_34.1.temp.toNat v_72) fun v_75 => letC (gi v_41 r_66) fun v_76 => if 0 ≤ v_76.temp ∧ v_76.temp < (o_27.2 : Int) then (if 0 ≤ v_76.temp ∧ v_76.temp < (v_75.length : Int) then (letC (v_75.set v_76.temp.toNat (api_Home.mk (-1) s_14.2.2.2.1)) fun v_79 => letC (wr .i64 (s_14.2.2.2.1 + 1)) fun v_80 => (slices_Delete.m r_66 (wr .i64 (r_66 + 1)) v_41).bind fun r_81 => letC (wr .i64 (s_14.2.2.2.2 + 1)) fun v_83 => some (Sum.inl (v_79, o_27.2, r_81, v_80, v_83))) else none) else none) else none) else none) else none) else none) else none) else none)) else none) else (letC (wr .i64 (s_14.2.2.2.2 + 1)) fun v_84 => some (Sum.inl (s_14.1, s_14.2.1, s_14.2.2.1, s_14.2.2.2.1, v_84)))) else none) else (some (Sum.inr (s_14.1, s_14.2.1)))
def alloc_Homes.m (a_1 : List api_Ins) (a_2 : List api_Loc) (a_3 : Int) : Option (Int ⊕ ((List api_Home) × Nat)) :=
 (tree_Right.m a_1 a_2).bind fun r_4 => if r_4 = true then ((if a_3 < 1 then (some (true : Bool)) else (some ((decide (a_3 > 8)) : Bool)) : Option Bool).bind fun o_7 => if o_7 = true then (some (Sum.inl 1)) else ((B.loop (alloc_Homes.l1 a_1 a_3) ((([] : List api_Home), ([] : List api_Home).length, ([] : List alloc_span), 0, 0) : (List api_Home) × Nat × (List alloc_span) × Int × Int)).bind fun o_15 => some (Sum.inr ((o_15.1, o_15.2))))) else (some (Sum.inl 3))
noncomputable def alloc_Homes.o (a_1 : List api_Ins) (a_2 : List api_Loc) (a_3 : Int) (r : Int ⊕ ((List api_Home) × Nat)) : Out := match r with | Sum.inl r => .ret (.tup [.v (.slice none 0 0), vi r]) [] [] | Sum.inr (r) => .ret (.tup [.sl 0 0 r.2 0 r.2, vi 0]) [.arr true 79 2 r.2 (r.1.map api_Home.c)] []
theorem alloc_Homes.ev {a_1 : List api_Ins} {a_2 : List api_Loc} {a_3 : Int} {r : Int ⊕ ((List api_Home) × Nat)} (H : alloc_Homes.m a_1 a_2 a_3 = some r) : Ev Try.prog 20 [.ro false 8 a_1.length (a_1.map api_Ins.c), .ro false 2 a_2.length (a_2.map api_Loc.c), vi a_3] [] [] (alloc_Homes.o a_1 a_2 a_3 r) := by
 unfold alloc_Homes.m at H
 obtain ⟨r_4, e_5, H⟩ := bdE H
 rcases ie H with ⟨h_6, H⟩ | ⟨h_6, H⟩
 ·obtain ⟨o_7, e_8, H⟩ := bdE H
  have j_9 : Rq alloc_Homes.F 0 [1, 1, 0, 0] ⟨[(0, .ro false 8 a_1.length (a_1.map api_Ins.c)), (2, vi a_3)], [], []⟩ ((fun _ => .normal : Bool → Ex) o_7) ((fun o_7 => ⟨[(0, .ro false 8 a_1.length (a_1.map api_Ins.c)), (2, vi a_3), (29, .v (.bool o_7))], [], []⟩ : Bool → ASt) o_7) := by
   clear H
   have H := e_8
   clear e_8
   rcases ic H with ⟨h_10, H⟩ | ⟨h_10, H⟩
   ·obtain rfl := sj H
    exact fn [br h_10, pT]
   ·obtain rfl := sj H
    exact fn [br h_10, pF]
  rcases ie H with ⟨h_11, H⟩ | ⟨h_11, H⟩
  ·obtain rfl := sj H
   exact alloc_Homes.F.run tb mixed [ca [] (tree_Right.ev e_5), bn h_6, sg_ 3 j_9, br h_11] rfl (by kernel_rfl)
  ·obtain ⟨o_15, e_16, H⟩ := bdE H
   have j_17 := Runs.loop (P := Try.prog) (N := alloc_Homes.F.N) (m0 := 0) (c := sub_ alloc_Homes.F.c [1, 1, 1, 1, 1, 1, 0, 1, 0, 0]) (f := (alloc_Homes.l1 a_1 a_3)) (St := fun s_14 => ⟨[(0, .ro false 8 a_1.length (a_1.map api_Ins.c)), (2, vi a_3), (8, .sl 0 0 s_14.2.1 0 s_14.2.1), (9, sL 1 s_14.2.2.1), (10, vi s_14.2.2.2.1), (30, .ro false 8 a_1.length (a_1.map api_Ins.c)), (31, vi (a_1.length : Int)), (32, vi s_14.2.2.2.2)], [.arr true 79 2 s_14.2.1 (s_14.1.map api_Home.c), .arr true 110 4 s_14.2.2.1.length (s_14.2.2.1.map alloc_span.c)], []⟩) (xo := (fun _ => (.exit 0) : ((List api_Home) × Nat) → Ex)) (So := (fun o_15 => ⟨[(8, .sl 0 0 o_15.2 0 o_15.2)], [.arr true 79 2 o_15.2 (o_15.1.map api_Home.c)], []⟩ : ((List api_Home) × Nat) → ASt)) (by intro o; simp) (fun s_14 z H => by
    unfold alloc_Homes.l1 at H
    rcases ic H with ⟨h_18, H⟩ | ⟨h_18, H⟩
    ·obtain ⟨g_19, H⟩ := gdE H
     let v_20 : api_Ins := gi a_1 s_14.2.2.2.2
     replace H := ltD H
     obtain ⟨r_21, e_22, H⟩ := ltE H
     rcases ie H with ⟨h_23, H⟩ | ⟨h_23, H⟩
     ·obtain ⟨o_27, e_28, H⟩ := bdE H
      have j_29 := Runs.loop (P := Try.prog) (N := alloc_Homes.F.N) (m0 := 0) (c := sub_ alloc_Homes.F.c [1, 1, 1, 1, 1, 1, 0, 1, 0, 0, 1, 1, 0, 0, 1, 1, 0, 0, 0]) (f := (alloc_Homes.l2 v_20)) (St := fun s_26 => ⟨[(0, .ro false 8 a_1.length (a_1.map api_Ins.c)), (2, vi a_3), (8, .sl 0 0 s_26.2 0 s_26.2), (9, sL 1 s_14.2.2.1), (10, vi s_14.2.2.2.1), (12, .ref 2 0), (30, .ro false 8 a_1.length (a_1.map api_Ins.c)), (31, vi (a_1.length : Int)), (32, vi s_14.2.2.2.2)], [.arr true 79 2 s_26.2 (s_26.1.map api_Home.c), .arr true 110 4 s_14.2.2.1.length (s_14.2.2.1.map alloc_span.c), .box (api_Ins.c v_20)], []⟩) (xo := (fun _ => (.exit 2) : ((List api_Home) × Nat) → Ex)) (So := (fun o_27 => ⟨[(0, .ro false 8 a_1.length (a_1.map api_Ins.c)), (2, vi a_3), (8, .sl 0 0 o_27.2 0 o_27.2), (9, sL 1 s_14.2.2.1), (10, vi s_14.2.2.2.1), (12, .ref 2 0), (30, .ro false 8 a_1.length (a_1.map api_Ins.c)), (31, vi (a_1.length : Int)), (32, vi s_14.2.2.2.2)], [.arr true 79 2 o_27.2 (o_27.1.map api_Home.c), .arr true 110 4 s_14.2.2.1.length (s_14.2.2.1.map alloc_span.c), .box (api_Ins.c v_20)], []⟩ : ((List api_Home) × Nat) → ASt)) (by intro o; simp) (fun s_26 z H => by
       unfold alloc_Homes.l2 at H
       rcases ic H with ⟨h_30, H⟩ | ⟨h_30, H⟩
       ·obtain ⟨g_31, H⟩ := gdE H
        obtain ⟨g_32, H⟩ := gdE H
        let v_33 : List api_Home := s_26.1 ++ ([(api_Home.mk (-1) (-1))] : List api_Home)
        replace H := ltD H
        obtain rfl := sj H
        exact fn [br h_30, apn api_Home.c 16 false s_26.1 ([(api_Home.mk (-1) (-1))] : List api_Home) s_26.2 g_31 g_32 (fun h => by cases h)]
       ·obtain rfl := sj H
        exact fn [br h_30] (by kernel_rfl)) e_28
      obtain ⟨r_34, e_35, H⟩ := bdE H
      obtain ⟨r_36, e_37, H⟩ := bdE H
      obtain ⟨r_38, e_39, H⟩ := bdE H
      obtain ⟨g_40, H⟩ := gdE H
      let v_41 : List alloc_span := r_38 ++ ([r_34.1] : List alloc_span)
      replace H := ltD H
      rcases ic H with ⟨h_42, H⟩ | ⟨h_42, H⟩
      ·obtain ⟨r_43, e_44, H⟩ := bdE H
       obtain ⟨g_45, H⟩ := gdE H
       obtain ⟨g_46, H⟩ := gdE H
       let v_47 : List api_Home := o_27.1.set r_34.1.temp.toNat (api_Home.mk r_43 0)
       replace H := ltD H
       let v_48 : Int := wr .i64 (s_14.2.2.2.2 + 1)
       replace H := ltD H
       obtain rfl := sj H
       exact fn [br h_18, ix api_Ins.c g_19, ca [] (alloc_makes.ev e_22), bn h_23, su j_29, ca [] (alloc_spanOf.ev e_35), ca [1, 3] (slices_DeleteFunc.ev e_37), kp [4] [.arr true 110 4 r_36.length (r_36.map alloc_span.c)] (ca [4] (slices_Clone_4.ev e_39)), ap alloc_span.c 32 false r_38 ([r_34.1] : List alloc_span) g_40 (fun h => by cases h), br h_42, kp [4, 0] [.arr true 110 4 r_36.length (r_36.map alloc_span.c), .arr true 79 2 o_27.2 (o_27.1.map api_Home.c)] (ca [4, 0] (alloc_least_2.ev e_44)), pf g_45, up api_Home.c 0 [vi r_43, vi 0] (api_Home.mk r_43 0) g_46 (by kernel_rfl), rn [0, 5] [0, 2, 8, 9, 10, 30, 31, 32]]
      ·obtain ⟨g_49, H⟩ := gdE H
       let v_50 : List Nat := List.replicate (v_41.length : Int).toNat (0 : Nat)
       replace H := ltD H
       obtain ⟨o_54, e_55, H⟩ := bdE H
       have j_56 := Runs.loop (P := Try.prog) (N := alloc_Homes.F.N) (m0 := 0) (c := sub_ alloc_Homes.F.c [1, 1, 1, 1, 1, 1, 0, 1, 0, 0, 1, 1, 0, 0, 1, 1, 1, 1, 1, 1, 1, 1, 0, 1, 0, 0]) (f := (alloc_Homes.l3 v_41)) (St := fun s_53 => ⟨[(0, .ro false 8 a_1.length (a_1.map api_Ins.c)), (2, vi a_3), (8, .sl 0 0 o_27.2 0 o_27.2), (10, vi s_14.2.2.2.1), (13, .ref 3 0), (15, sL 5 v_41), (16, .sl 0 7 ((v_41.length : Int).toNat) 0 ((v_41.length : Int).toNat)), (30, .ro false 8 a_1.length (a_1.map api_Ins.c)), (31, vi (a_1.length : Int)), (32, vi s_14.2.2.2.2), (79, sL 5 v_41), (80, vi (v_41.length : Int)), (81, vi s_53.2)], [.arr true 79 2 o_27.2 (o_27.1.map api_Home.c), .dead, .dead, .box (alloc_span.c r_34.1), .dead, .arr true 110 4 v_41.length (v_41.map alloc_span.c), .dead, .arr false 83 1 ((v_41.length : Int).toNat) (s_53.1.map cF)], []⟩) (xo := (fun _ => (.exit 4) : (List Nat) → Ex)) (So := (fun o_54 => ⟨[(0, .ro false 8 a_1.length (a_1.map api_Ins.c)), (2, vi a_3), (8, .sl 0 0 o_27.2 0 o_27.2), (10, vi s_14.2.2.2.1), (13, .ref 3 0), (15, sL 5 v_41), (16, .sl 0 7 ((v_41.length : Int).toNat) 0 ((v_41.length : Int).toNat)), (30, .ro false 8 a_1.length (a_1.map api_Ins.c)), (31, vi (a_1.length : Int)), (32, vi s_14.2.2.2.2)], [.arr true 79 2 o_27.2 (o_27.1.map api_Home.c), .dead, .dead, .box (alloc_span.c r_34.1), .dead, .arr true 110 4 v_41.length (v_41.map alloc_span.c), .dead, .arr false 83 1 ((v_41.length : Int).toNat) (o_54.map cF)], []⟩ : (List Nat) → ASt)) (by intro o; simp) (fun s_53 z H => by
        unfold alloc_Homes.l3 at H
        rcases ic H with ⟨h_57, H⟩ | ⟨h_57, H⟩
        ·obtain ⟨g_58, H⟩ := gdE H
         let v_59 : alloc_span := gi v_41 s_53.2
         replace H := ltD H
         obtain ⟨r_60, e_61, H⟩ := ltE H
         obtain ⟨g_62, H⟩ := gdE H
         obtain ⟨g_63, H⟩ := gdE H
         let v_64 : List Nat := s_53.1.set s_53.2.toNat r_60
         replace H := ltD H
         let v_65 : Int := wr .i64 (s_53.2 + 1)
         replace H := ltD H
         obtain rfl := sj H
         exact fn [br h_57, pf g_58, el alloc_span.c g_58, ca [] (alloc_weightOf.ev e_61), pf g_62, up cF 0 [.flt r_60] r_60 g_63 (by kernel_rfl)]
        ·obtain rfl := sj H
         exact fn [br h_57] (by kernel_rfl)) e_55
       obtain ⟨r_66, e_67, H⟩ := bdE H
       obtain ⟨g_68, H⟩ := gdE H
       let v_69 : alloc_span := gi v_41 r_66
       replace H := ltD H
       obtain ⟨g_70, H⟩ := gdE H
       obtain ⟨g_71, H⟩ := gdE H
       let v_72 : api_Home := gi o_27.1 v_69.temp
       replace H := ltD H
       obtain ⟨g_73, H⟩ := gdE H
       obtain ⟨g_74, H⟩ := gdE H
       let v_75 : List api_Home := o_27.1.set r_34.1.temp.toNat v_72
       replace H := ltD H
       let v_76 : alloc_span := gi v_41 r_66
       replace H := ltD H
       obtain ⟨g_77, H⟩ := gdE H
       obtain ⟨g_78, H⟩ := gdE H
       let v_79 : List api_Home := v_75.set v_76.temp.toNat (api_Home.mk (-1) s_14.2.2.2.1)
       replace H := ltD H
       let v_80 : Int := wr .i64 (s_14.2.2.2.1 + 1)
       replace H := ltD H
       obtain ⟨r_81, e_82, H⟩ := bdE H
       let v_83 : Int := wr .i64 (s_14.2.2.2.2 + 1)
       replace H := ltD H
       obtain rfl := sj H
       exact fn [br h_18, ix api_Ins.c g_19, ca [] (alloc_makes.ev e_22), bn h_23, su j_29, ca [] (alloc_spanOf.ev e_35), ca [1, 3] (slices_DeleteFunc.ev e_37), kp [4] [.arr true 110 4 r_36.length (r_36.map alloc_span.c)] (ca [4] (slices_Clone_4.ev e_39)), ap alloc_span.c 32 false r_38 ([r_34.1] : List alloc_span) g_40 (fun h => by cases h), br h_42, mk cF (0 : Nat) (cF 0) 8 (v_41.length : Int) (v_41.length : Int) g_49 rfl, su j_56, ca [7] (weight_Least.ev e_67), pf g_68, el alloc_span.c g_68, pf g_70, el api_Home.c g_71, pf g_73, up api_Home.c 0 [vi v_72.Reg, vi v_72.Slot] v_72 g_74 (by kernel_rfl), pf g_68, el alloc_span.c g_68, pf g_77, up api_Home.c 0 [vi (-1), vi s_14.2.2.2.1] (api_Home.mk (-1) s_14.2.2.2.1) g_78 (by kernel_rfl), ca [5] (slices_Delete.ev e_82), rn [0, 8] [0, 2, 8, 9, 10, 30, 31, 32]]
     ·let v_84 : Int := wr .i64 (s_14.2.2.2.2 + 1)
      replace H := ltD H
      obtain rfl := sj H
      exact fn [br h_18, ix api_Ins.c g_19, ca [] (alloc_makes.ev e_22), bn h_23]
    ·obtain rfl := sj H
     exact fn [br h_18] (by kernel_rfl)) e_16
   obtain rfl := sj H
   exact alloc_Homes.F.run tb mixed [ca [] (tree_Right.ev e_5), bn h_6, sg_ 3 j_9, br h_11, su j_17, adL 8 (some 79) 2, adL 9 (some 110) 4] rfl (by kernel_rfl)
 ·obtain rfl := sj H
  exact alloc_Homes.F.run tb mixed [ca [] (tree_Right.ev e_5), bn h_6] rfl (by kernel_rfl)
def alloc_Homes.k3 (v_41 : List alloc_span) (s_53 : (List Nat) × Int) : Option (((List Nat) × Int) ⊕ (List Nat)) :=
 if s_53.2 < (v_41.length : Int) then (if 0 ≤ s_53.2 ∧ s_53.2 < (v_41.length : Int) then (letK (gi v_41 s_53.2) fun v_59 => letK (alloc_weightOf.m v_59) fun r_60 => if 0 ≤ s_53.2 ∧ s_53.2 < (((v_41.length : Int).toNat : Nat) : Int) then (if 0 ≤ s_53.2 ∧ s_53.2 < (s_53.1.length : Int) then (letK (s_53.1.set s_53.2.toNat r_60) fun v_64 => letK (wr .i64 (s_53.2 + 1)) fun v_65 => some (Sum.inl (v_64, v_65))) else none) else none) else none) else (some (Sum.inr s_53.1))
theorem alloc_Homes.k3_le (v_41 : List alloc_span) (s_53 : (List Nat) × Int) : OLe (alloc_Homes.k3 v_41 s_53) (alloc_Homes.l3 v_41 s_53) := by
 unfold alloc_Homes.k3 alloc_Homes.l3
 repeat' with_reducible first | exact tree_Right.k_le .. | exact alloc_spanOf.k_le .. | exact slices_DeleteFunc.k_le .. | exact alloc_least_2.k_le .. | exact weight_Least.k_le .. | refine OLe.lt (fun _ => ?_) | refine OLe.lp (fun _ => ?_) | refine OLe.bind ?_ (fun _ => ?_) | refine OLe.ite ?_ ?_ | exact OLe.rfl' | split
def alloc_Homes.k2 (v_20 : api_Ins) (s_26 : (List api_Home) × Nat) : Option (((List api_Home) × Nat) ⊕ ((List api_Home) × Nat)) :=
 if (s_26.2 : Int) ≤ v_20.D then (if s_26.1.length = s_26.2 then (if (s_26.2 + ([(api_Home.mk (-1) (-1))] : List api_Home).length) * 16 ≤ 140737488355328 then (letK (s_26.1 ++ ([(api_Home.mk (-1) (-1))] : List api_Home)) fun v_33 => some (Sum.inl (v_33, v_33.length))) else none) else none) else (some (Sum.inr (s_26.1, s_26.2)))
theorem alloc_Homes.k2_le (v_20 : api_Ins) (s_26 : (List api_Home) × Nat) : OLe (alloc_Homes.k2 v_20 s_26) (alloc_Homes.l2 v_20 s_26) := by
 unfold alloc_Homes.k2 alloc_Homes.l2
 repeat' with_reducible first | exact alloc_Homes.k3_le .. | exact tree_Right.k_le .. | exact alloc_spanOf.k_le .. | exact slices_DeleteFunc.k_le .. | exact alloc_least_2.k_le .. | exact weight_Least.k_le .. | refine OLe.lt (fun _ => ?_) | refine OLe.lp (fun _ => ?_) | refine OLe.bind ?_ (fun _ => ?_) | refine OLe.ite ?_ ?_ | exact OLe.rfl' | split
def alloc_Homes.k1 (a_1 : List api_Ins) (a_3 : Int) (s_14 : (List api_Home) × Nat × (List alloc_span) × Int × Int) : Option (((List api_Home) × Nat × (List alloc_span) × Int × Int) ⊕ ((List api_Home) × Nat)) :=
 if s_14.2.2.2.2 < (a_1.length : Int) then (if 0 ≤ s_14.2.2.2.2 ∧ s_14.2.2.2.2 < (a_1.length : Int) then (letK (gi a_1 s_14.2.2.2.2) fun v_20 => letK (alloc_makes.m v_20) fun r_21 => if r_21 = true then ((lpK (alloc_Homes.k2 v_20) ((s_14.1, s_14.2.1) : (List api_Home) × Nat)).bind fun o_27 => (alloc_spanOf.k a_1 v_20.D).bind fun r_34 => (slices_DeleteFunc.k s_14.2.2.1 r_34.1).bind fun r_36 => (slices_Clone_4.m r_36).bind fun r_38 => if (r_38.length + ([r_34.1] : List alloc_span).length) * 32 ≤ 140737488355328 then (letK (r_38 ++ ([r_34.1] : List alloc_span)) fun v_41 => if (r_36.length : Int) < a_3 then ((alloc_least_2.k r_36 o_27.1 o_27.2).bind fun r_43 => if 0 ≤ r_34.1.temp ∧ r_34.1.temp < (o_27.2 : Int) then (if 0 ≤ r_34.1.temp ∧ r_34.1.temp < (o_27.1.length : Int) then (letK (o_27.1.set r_34.1.temp.toNat (api_Home.mk r_43 0)) fun v_47 => letK (wr .i64 (s_14.2.2.2.2 + 1)) fun v_48 => some (Sum.inl (v_47, o_27.2, v_41, s_14.2.2.2.1, v_48))) else none) else none) else (if 0 ≤ (v_41.length : Int) ∧ (v_41.length : Int) ≤ (v_41.length : Int) ∧ (v_41.length : Int) * (8 : Nat) ≤ 140737488355328 then (letK (List.replicate (v_41.length : Int).toNat (0 : Nat)) fun v_50 => (lpK (alloc_Homes.k3 v_41) ((v_50, 0) : (List Nat) × Int)).bind fun o_54 => (weight_Least.k o_54 ((v_41.length : Int).toNat)).bind fun r_66 => if 0 ≤ r_66 ∧ r_66 < (v_41.length : Int) then (letK (gi v_41 r_66) fun v_69 => if 0 ≤ v_69.temp ∧ v_69.temp < (o_27.2 : Int) then (if 0 ≤ v_69.temp ∧ v_69.temp < (o_27.1.length : Int) then (letK (gi o_27.1 v_69.temp) fun v_72 => if 0 ≤ r_34.1.temp ∧ r_34.1.temp < (o_27.2 : Int) then (if 0 ≤ r_34.1.temp ∧ r_34.1.temp < (o_27.1.length : Int) then (letK (o_27.1.set r_34.1.temp.toNat v_72) fun v_75 => letK (gi v_41 r_66) fun v_76 => if 0 ≤ v_76.temp ∧ v_76.temp < (o_27.2 : Int) then (if 0 ≤ v_76.temp ∧ v_76.temp < (v_75.length : Int) then (letK (v_75.set v_76.temp.toNat (api_Home.mk (-1) s_14.2.2.2.1)) fun v_79 => letK (wr .i64 (s_14.2.2.2.1 + 1)) fun v_80 => (slices_Delete.m r_66 (wr .i64 (r_66 + 1)) v_41).bind fun r_81 => letK (wr .i64 (s_14.2.2.2.2 + 1)) fun v_83 => some (Sum.inl (v_79, o_27.2, r_81, v_80, v_83))) else none) else none) else none) else none) else none) else none) else none) else none)) else none) else (letK (wr .i64 (s_14.2.2.2.2 + 1)) fun v_84 => some (Sum.inl (s_14.1, s_14.2.1, s_14.2.2.1, s_14.2.2.2.1, v_84)))) else none) else (some (Sum.inr (s_14.1, s_14.2.1)))
theorem alloc_Homes.k1_le (a_1 : List api_Ins) (a_3 : Int) (s_14 : (List api_Home) × Nat × (List alloc_span) × Int × Int) : OLe (alloc_Homes.k1 a_1 a_3 s_14) (alloc_Homes.l1 a_1 a_3 s_14) := by
 unfold alloc_Homes.k1 alloc_Homes.l1
 repeat' with_reducible first | exact alloc_Homes.k3_le .. | exact alloc_Homes.k2_le .. | exact tree_Right.k_le .. | exact alloc_spanOf.k_le .. | exact slices_DeleteFunc.k_le .. | exact alloc_least_2.k_le .. | exact weight_Least.k_le .. | refine OLe.lt (fun _ => ?_) | refine OLe.lp (fun _ => ?_) | refine OLe.bind ?_ (fun _ => ?_) | refine OLe.ite ?_ ?_ | exact OLe.rfl' | split
def alloc_Homes.k (a_1 : List api_Ins) (a_2 : List api_Loc) (a_3 : Int) : Option (Int ⊕ ((List api_Home) × Nat)) :=
 (tree_Right.k a_1 a_2).bind fun r_4 => if r_4 = true then ((if a_3 < 1 then (some (true : Bool)) else (some ((decide (a_3 > 8)) : Bool)) : Option Bool).bind fun o_7 => if o_7 = true then (some (Sum.inl 1)) else ((lpK (alloc_Homes.k1 a_1 a_3) ((([] : List api_Home), ([] : List api_Home).length, ([] : List alloc_span), 0, 0) : (List api_Home) × Nat × (List alloc_span) × Int × Int)).bind fun o_15 => some (Sum.inr ((o_15.1, o_15.2))))) else (some (Sum.inl 3))
theorem alloc_Homes.k_le (a_1 : List api_Ins) (a_2 : List api_Loc) (a_3 : Int) : OLe (alloc_Homes.k a_1 a_2 a_3) (alloc_Homes.m a_1 a_2 a_3) := by
 unfold alloc_Homes.k alloc_Homes.m
 repeat' with_reducible first | exact alloc_Homes.k3_le .. | exact alloc_Homes.k2_le .. | exact alloc_Homes.k1_le .. | exact tree_Right.k_le .. | exact alloc_spanOf.k_le .. | exact slices_DeleteFunc.k_le .. | exact alloc_least_2.k_le .. | exact weight_Least.k_le .. | refine OLe.lt (fun _ => ?_) | refine OLe.lp (fun _ => ?_) | refine OLe.bind ?_ (fun _ => ?_) | refine OLe.ite ?_ ?_ | exact OLe.rfl' | split
noncomputable def emit_writer_add_4.F : FI Try.prog 48 := fi Try.f48 27 Try.call48 Try.func48
def emit_writer_add_4.m (a_1 : Int) (a_2 : Int) (a_3 : Int) (a_4 : Int) (a_5 : Int) (a_6 : List api_Inst) (a_7 : List Int) : Option (List api_Inst) :=
 if (a_6.length + ([(api_Inst.mk a_1 a_2 a_3 a_4 a_5)] : List api_Inst).length) * 40 ≤ 140737488355328 then (letC (a_6 ++ ([(api_Inst.mk a_1 a_2 a_3 a_4 a_5)] : List api_Inst)) fun v_9 => some v_9) else none
noncomputable def emit_writer_add_4.o (a_1 : Int) (a_2 : Int) (a_3 : Int) (a_4 : Int) (a_5 : Int) (a_6 : List api_Inst) (a_7 : List Int) (r : List api_Inst) : Out := .ret (.tup []) [.box [.v (.slice none 0 0), sL 1 r, sL 2 a_7, .v (.slice none 0 0)], .arr true 39 5 r.length (r.map api_Inst.c), .arr true 3 1 a_7.length (a_7.map (cI .i64))] []
theorem emit_writer_add_4.ev {a_1 : Int} {a_2 : Int} {a_3 : Int} {a_4 : Int} {a_5 : Int} {a_6 : List api_Inst} {a_7 : List Int} {r : List api_Inst} (H : emit_writer_add_4.m a_1 a_2 a_3 a_4 a_5 a_6 a_7 = some r) : Ev Try.prog 48 [.ref 0 0, vi a_1, vi a_2, vi a_3, vi a_4, vi a_5] [.box [.v (.slice none 0 0), sL 1 a_6, sL 2 a_7, .v (.slice none 0 0)], .arr true 39 5 a_6.length (a_6.map api_Inst.c), .arr true 3 1 a_7.length (a_7.map (cI .i64))] [] (emit_writer_add_4.o a_1 a_2 a_3 a_4 a_5 a_6 a_7 r) := by
 unfold emit_writer_add_4.m at H
 obtain ⟨g_8, H⟩ := gdE H
 let v_9 : List api_Inst := a_6 ++ ([(api_Inst.mk a_1 a_2 a_3 a_4 a_5)] : List api_Inst)
 replace H := ltD H
 obtain rfl := sj H
 exact emit_writer_add_4.F.run tb mixed [ap api_Inst.c 40 false a_6 ([(api_Inst.mk a_1 a_2 a_3 a_4 a_5)] : List api_Inst) g_8 (fun h => by cases h)] rfl (by kernel_rfl)
noncomputable def emit_writer_call_3.F : FI Try.prog 52 := fi Try.f52 9 Try.call52 Try.func52
def emit_writer_call_3.m (a_1 : Int) (a_2 : List api_Inst) (a_3 : List Int) : Option (List api_Inst) :=
 (emit_writer_add_4.m 1 0 0 0 a_1 a_2 a_3).bind fun r_4 => (emit_writer_add_4.m 23 0 0 0 0 r_4 a_3).bind fun r_6 => some r_6
noncomputable def emit_writer_call_3.o (a_1 : Int) (a_2 : List api_Inst) (a_3 : List Int) (r : List api_Inst) : Out := .ret (.tup []) [.box [.v (.slice none 0 0), sL 1 r, sL 2 a_3, .v (.slice none 0 0)], .arr true 39 5 r.length (r.map api_Inst.c), .arr true 3 1 a_3.length (a_3.map (cI .i64))] []
theorem emit_writer_call_3.ev {a_1 : Int} {a_2 : List api_Inst} {a_3 : List Int} {r : List api_Inst} (H : emit_writer_call_3.m a_1 a_2 a_3 = some r) : Ev Try.prog 52 [.ref 0 0, vi a_1] [.box [.v (.slice none 0 0), sL 1 a_2, sL 2 a_3, .v (.slice none 0 0)], .arr true 39 5 a_2.length (a_2.map api_Inst.c), .arr true 3 1 a_3.length (a_3.map (cI .i64))] [] (emit_writer_call_3.o a_1 a_2 a_3 r) := by
 unfold emit_writer_call_3.m at H
 obtain ⟨r_4, e_5, H⟩ := bdE H
 obtain ⟨r_6, e_7, H⟩ := bdE H
 obtain rfl := sj H
 exact emit_writer_call_3.F.run tb mixed [ca [0, 1, 2] (emit_writer_add_4.ev e_5), ca [0, 1, 2] (emit_writer_add_4.ev e_7)] rfl (by kernel_rfl)
noncomputable def emit_writer_piece_3.F : FI Try.prog 21 := fi Try.f21 151 Try.call21 Try.func21
def emit_writer_piece_3.m (a_1 : api_Ins) (a_2 : List api_Inst) (a_3 : List Int) : Option (List api_Inst) :=
 if a_1.Op = 1 then (none) else ((if a_1.Op = 2 then (some (true : Bool)) else (if a_1.Op = 3 then (some (true : Bool)) else (if a_1.Op = 4 then (some (true : Bool)) else (some ((decide (a_1.Op = 5)) : Bool)))) : Option Bool).bind fun o_5 => if o_5 = true then (none) else (if a_1.Op = 6 then (none) else (if a_1.Op = 7 then (none) else (if a_1.Op = 13 then (none) else (if a_1.Op = 14 then (none) else (if a_1.Op = 15 then (none) else ((if a_1.Op = 16 then (some (true : Bool)) else (some ((decide (a_1.Op = 17)) : Bool)) : Option Bool).bind fun o_17 => if o_17 = true then (none) else (if a_1.Op = 18 then ((emit_writer_call_3.m 0 a_2 a_3).bind fun r_23 => some r_23) else (none)))))))))
noncomputable def emit_writer_piece_3.o (a_1 : api_Ins) (a_2 : List api_Inst) (a_3 : List Int) (r : List api_Inst) : Out := .ret (.tup []) [.box [.v (.slice none 0 0), sL 1 r, sL 2 a_3, .v (.slice none 0 0)], .arr true 39 5 r.length (r.map api_Inst.c), .arr true 3 1 a_3.length (a_3.map (cI .i64))] []
theorem emit_writer_piece_3.ev {a_1 : api_Ins} {a_2 : List api_Inst} {a_3 : List Int} {r : List api_Inst} (H : emit_writer_piece_3.m a_1 a_2 a_3 = some r) : Ev Try.prog 21 [.ref 0 0, .agg (api_Ins.c a_1)] [.box [.v (.slice none 0 0), sL 1 a_2, sL 2 a_3, .v (.slice none 0 0)], .arr true 39 5 a_2.length (a_2.map api_Inst.c), .arr true 3 1 a_3.length (a_3.map (cI .i64))] [] (emit_writer_piece_3.o a_1 a_2 a_3 r) := by
 unfold emit_writer_piece_3.m at H
 rcases ic H with ⟨h_4, H⟩ | ⟨h_4, H⟩
 ·cases H
 ·obtain ⟨o_5, e_6, H⟩ := bdE H
  have j_7 : Rq emit_writer_piece_3.F 3 [1, 1, 0, 1, 1, 0, 1] ⟨[(0, .ref 0 0), (3, .ref 3 0), (7, vi a_1.Op), (25, .v (.bool (decide (a_1.Op = 2))))], [.box [.v (.slice none 0 0), sL 1 a_2, sL 2 a_3, .v (.slice none 0 0)], .arr true 39 5 a_2.length (a_2.map api_Inst.c), .arr true 3 1 a_3.length (a_3.map (cI .i64)), .box (api_Ins.c a_1)], []⟩ ((fun _ => .normal : Bool → Ex) o_5) ((fun o_5 => ⟨[(0, .ref 0 0), (3, .ref 3 0), (7, vi a_1.Op), (25, .v (.bool o_5))], [.box [.v (.slice none 0 0), sL 1 a_2, sL 2 a_3, .v (.slice none 0 0)], .arr true 39 5 a_2.length (a_2.map api_Inst.c), .arr true 3 1 a_3.length (a_3.map (cI .i64)), .box (api_Ins.c a_1)], []⟩ : Bool → ASt) o_5) := by
   clear H
   have H := e_6
   clear e_6
   rcases ic H with ⟨h_8, H⟩ | ⟨h_8, H⟩
   ·obtain rfl := sj H
    exact fn [br h_8]
   ·rcases ic H with ⟨h_9, H⟩ | ⟨h_9, H⟩
    ·obtain rfl := sj H
     exact fn [br h_8, br h_9]
    ·rcases ic H with ⟨h_10, H⟩ | ⟨h_10, H⟩
     ·obtain rfl := sj H
      exact fn [br h_8, br h_9, br h_10]
     ·obtain rfl := sj H
      exact fn [br h_8, br h_9, br h_10]
  rcases ie H with ⟨h_11, H⟩ | ⟨h_11, H⟩
  ·cases H
  ·rcases ic H with ⟨h_12, H⟩ | ⟨h_12, H⟩
   ·cases H
   ·rcases ic H with ⟨h_13, H⟩ | ⟨h_13, H⟩
    ·cases H
    ·rcases ic H with ⟨h_14, H⟩ | ⟨h_14, H⟩
     ·cases H
     ·rcases ic H with ⟨h_15, H⟩ | ⟨h_15, H⟩
      ·cases H
      ·rcases ic H with ⟨h_16, H⟩ | ⟨h_16, H⟩
       ·cases H
       ·obtain ⟨o_17, e_18, H⟩ := bdE H
        have j_19 : Rq emit_writer_piece_3.F 3 [1, 1, 0, 1, 1, 1, 1, 1, 1, 1, 1, 1, 1, 1, 1, 1, 1, 0, 1] ⟨[(0, .ref 0 0), (3, .ref 3 0), (7, vi a_1.Op), (123, .v (.bool (decide (a_1.Op = 16))))], [.box [.v (.slice none 0 0), sL 1 a_2, sL 2 a_3, .v (.slice none 0 0)], .arr true 39 5 a_2.length (a_2.map api_Inst.c), .arr true 3 1 a_3.length (a_3.map (cI .i64)), .box (api_Ins.c a_1)], []⟩ ((fun _ => .normal : Bool → Ex) o_17) ((fun o_17 => ⟨[(0, .ref 0 0), (3, .ref 3 0), (7, vi a_1.Op), (123, .v (.bool o_17))], [.box [.v (.slice none 0 0), sL 1 a_2, sL 2 a_3, .v (.slice none 0 0)], .arr true 39 5 a_2.length (a_2.map api_Inst.c), .arr true 3 1 a_3.length (a_3.map (cI .i64)), .box (api_Ins.c a_1)], []⟩ : Bool → ASt) o_17) := by
         clear H
         have H := e_18
         clear e_18
         rcases ic H with ⟨h_20, H⟩ | ⟨h_20, H⟩
         ·obtain rfl := sj H
          exact fn [br h_20]
         ·obtain rfl := sj H
          exact fn [br h_20]
        rcases ie H with ⟨h_21, H⟩ | ⟨h_21, H⟩
        ·cases H
        ·rcases ic H with ⟨h_22, H⟩ | ⟨h_22, H⟩
         ·obtain ⟨r_23, e_24, H⟩ := bdE H
          obtain rfl := sj H
          exact emit_writer_piece_3.F.run tb mixed [br h_4, sc_ j_7, br h_11, br h_12, br h_13, br h_14, br h_15, br h_16, sc_ j_19, br h_21, br h_22, ca [0, 1, 2] (emit_writer_call_3.ev e_24)] rfl (by kernel_rfl)
         ·cases H
noncomputable def emit_writer_target_8.F : FI Try.prog 45 := fi Try.f45 19 Try.call45 Try.func45
def emit_writer_target_8.m (a_1 : Int) (a_2 : List api_Home) (a_3 : Nat) (a_4 : List api_Inst) (a_5 : List Int) (a_6 : List emit_jump) : Option (Int) :=
 if 0 ≤ a_1 ∧ a_1 < (a_3 : Int) then (if 0 ≤ a_1 ∧ a_1 < (a_2.length : Int) then (letC (gi a_2 a_1) fun v_9 => if v_9.Reg ≥ 0 then (letC (wr .i64 ((14 : Int) + v_9.Reg)) fun v_11 => some v_11) else (some 11)) else none) else none
noncomputable def emit_writer_target_8.o (a_1 : Int) (a_2 : List api_Home) (a_3 : Nat) (a_4 : List api_Inst) (a_5 : List Int) (a_6 : List emit_jump) (r : Int) : Out := .ret (vi r) [.box [.sl 0 1 a_3 0 a_3, sL 2 a_4, sL 3 a_5, sL 4 a_6], .arr true 79 2 a_3 (a_2.map api_Home.c), .arr true 39 5 a_4.length (a_4.map api_Inst.c), .arr true 3 1 a_5.length (a_5.map (cI .i64)), .arr true 74 2 a_6.length (a_6.map emit_jump.c)] []
theorem emit_writer_target_8.ev {a_1 : Int} {a_2 : List api_Home} {a_3 : Nat} {a_4 : List api_Inst} {a_5 : List Int} {a_6 : List emit_jump} {r : Int} (H : emit_writer_target_8.m a_1 a_2 a_3 a_4 a_5 a_6 = some r) : Ev Try.prog 45 [.ref 0 0, vi a_1] [.box [.sl 0 1 a_3 0 a_3, sL 2 a_4, sL 3 a_5, sL 4 a_6], .arr true 79 2 a_3 (a_2.map api_Home.c), .arr true 39 5 a_4.length (a_4.map api_Inst.c), .arr true 3 1 a_5.length (a_5.map (cI .i64)), .arr true 74 2 a_6.length (a_6.map emit_jump.c)] [] (emit_writer_target_8.o a_1 a_2 a_3 a_4 a_5 a_6 r) := by
 unfold emit_writer_target_8.m at H
 obtain ⟨g_7, H⟩ := gdE H
 obtain ⟨g_8, H⟩ := gdE H
 let v_9 : api_Home := gi a_2 a_1
 replace H := ltD H
 rcases ic H with ⟨h_10, H⟩ | ⟨h_10, H⟩
 ·let v_11 : Int := wr .i64 ((14 : Int) + v_9.Reg)
  replace H := ltD H
  obtain rfl := sj H
  exact emit_writer_target_8.F.run tb mixed [pf g_7, el api_Home.c g_8, br h_10] rfl (by kernel_rfl)
 ·obtain rfl := sj H
  exact emit_writer_target_8.F.run tb mixed [pf g_7, el api_Home.c g_8, br h_10] rfl (by kernel_rfl)
noncomputable def emit_writer_add_12.F : FI Try.prog 48 := fi Try.f48 27 Try.call48 Try.func48
def emit_writer_add_12.m (a_1 : Int) (a_2 : Int) (a_3 : Int) (a_4 : Int) (a_5 : Int) (a_6 : List api_Home) (a_7 : Nat) (a_8 : List api_Inst) (a_9 : List Int) (a_10 : List emit_jump) : Option (List api_Inst) :=
 if (a_8.length + ([(api_Inst.mk a_1 a_2 a_3 a_4 a_5)] : List api_Inst).length) * 40 ≤ 140737488355328 then (letC (a_8 ++ ([(api_Inst.mk a_1 a_2 a_3 a_4 a_5)] : List api_Inst)) fun v_12 => some v_12) else none
noncomputable def emit_writer_add_12.o (a_1 : Int) (a_2 : Int) (a_3 : Int) (a_4 : Int) (a_5 : Int) (a_6 : List api_Home) (a_7 : Nat) (a_8 : List api_Inst) (a_9 : List Int) (a_10 : List emit_jump) (r : List api_Inst) : Out := .ret (.tup []) [.box [.sl 0 1 a_7 0 a_7, sL 2 r, sL 3 a_9, sL 4 a_10], .arr true 79 2 a_7 (a_6.map api_Home.c), .arr true 39 5 r.length (r.map api_Inst.c), .arr true 3 1 a_9.length (a_9.map (cI .i64)), .arr true 74 2 a_10.length (a_10.map emit_jump.c)] []
theorem emit_writer_add_12.ev {a_1 : Int} {a_2 : Int} {a_3 : Int} {a_4 : Int} {a_5 : Int} {a_6 : List api_Home} {a_7 : Nat} {a_8 : List api_Inst} {a_9 : List Int} {a_10 : List emit_jump} {r : List api_Inst} (H : emit_writer_add_12.m a_1 a_2 a_3 a_4 a_5 a_6 a_7 a_8 a_9 a_10 = some r) : Ev Try.prog 48 [.ref 0 0, vi a_1, vi a_2, vi a_3, vi a_4, vi a_5] [.box [.sl 0 1 a_7 0 a_7, sL 2 a_8, sL 3 a_9, sL 4 a_10], .arr true 79 2 a_7 (a_6.map api_Home.c), .arr true 39 5 a_8.length (a_8.map api_Inst.c), .arr true 3 1 a_9.length (a_9.map (cI .i64)), .arr true 74 2 a_10.length (a_10.map emit_jump.c)] [] (emit_writer_add_12.o a_1 a_2 a_3 a_4 a_5 a_6 a_7 a_8 a_9 a_10 r) := by
 unfold emit_writer_add_12.m at H
 obtain ⟨g_11, H⟩ := gdE H
 let v_12 : List api_Inst := a_8 ++ ([(api_Inst.mk a_1 a_2 a_3 a_4 a_5)] : List api_Inst)
 replace H := ltD H
 obtain rfl := sj H
 exact emit_writer_add_12.F.run tb mixed [ap api_Inst.c 40 false a_8 ([(api_Inst.mk a_1 a_2 a_3 a_4 a_5)] : List api_Inst) g_11 (fun h => by cases h)] rfl (by kernel_rfl)
noncomputable def emit_writer_number32_4.F : FI Try.prog 86 := fi Try.f86 19 Try.call86 Try.func86
def emit_writer_number32_4.m (a_1 : Int) (a_2 : Int) (a_3 : List api_Home) (a_4 : Nat) (a_5 : List api_Inst) (a_6 : List Int) (a_7 : List emit_jump) : Option (List api_Inst) :=
 letC (a_2 / 2 ^ (min (16 : Int).toNat 64)) fun v_8 => (emit_writer_add_12.m 2 a_1 0 0 (wr .i64 (wr .i16 v_8)) a_3 a_4 a_5 a_6 a_7).bind fun r_9 => letC (bits .and .i64 a_2 (65535 : Int)) fun v_11 => (emit_writer_add_12.m 3 a_1 a_1 0 v_11 a_3 a_4 r_9 a_6 a_7).bind fun r_12 => some r_12
noncomputable def emit_writer_number32_4.o (a_1 : Int) (a_2 : Int) (a_3 : List api_Home) (a_4 : Nat) (a_5 : List api_Inst) (a_6 : List Int) (a_7 : List emit_jump) (r : List api_Inst) : Out := .ret (.tup []) [.box [.sl 0 1 a_4 0 a_4, sL 2 r, sL 3 a_6, sL 4 a_7], .arr true 79 2 a_4 (a_3.map api_Home.c), .arr true 39 5 r.length (r.map api_Inst.c), .arr true 3 1 a_6.length (a_6.map (cI .i64)), .arr true 74 2 a_7.length (a_7.map emit_jump.c)] []
theorem emit_writer_number32_4.ev {a_1 : Int} {a_2 : Int} {a_3 : List api_Home} {a_4 : Nat} {a_5 : List api_Inst} {a_6 : List Int} {a_7 : List emit_jump} {r : List api_Inst} (H : emit_writer_number32_4.m a_1 a_2 a_3 a_4 a_5 a_6 a_7 = some r) : Ev Try.prog 86 [.ref 0 0, vi a_1, vi a_2] [.box [.sl 0 1 a_4 0 a_4, sL 2 a_5, sL 3 a_6, sL 4 a_7], .arr true 79 2 a_4 (a_3.map api_Home.c), .arr true 39 5 a_5.length (a_5.map api_Inst.c), .arr true 3 1 a_6.length (a_6.map (cI .i64)), .arr true 74 2 a_7.length (a_7.map emit_jump.c)] [] (emit_writer_number32_4.o a_1 a_2 a_3 a_4 a_5 a_6 a_7 r) := by
 unfold emit_writer_number32_4.m at H
 let v_8 : Int := a_2 / 2 ^ (min (16 : Int).toNat 64)
 replace H := ltD H
 obtain ⟨r_9, e_10, H⟩ := bdE H
 let v_11 : Int := bits .and .i64 a_2 (65535 : Int)
 replace H := ltD H
 obtain ⟨r_12, e_13, H⟩ := bdE H
 obtain rfl := sj H
 exact emit_writer_number32_4.F.run tb mixed [pf (by decide : 0 ≤ (16 : Int)), ca [0, 1, 2, 3, 4] (emit_writer_add_12.ev e_10), ca [0, 1, 2, 3, 4] (emit_writer_add_12.ev e_13)] rfl (by kernel_rfl)
noncomputable def emit_writer_number_4.F : FI Try.prog 44 := fi Try.f44 48 Try.call44 Try.func44
def emit_writer_number_4.m (a_1 : Int) (a_2 : Int) (a_3 : List api_Home) (a_4 : Nat) (a_5 : List api_Inst) (a_6 : List Int) (a_7 : List emit_jump) : Option (List api_Inst) :=
 (if a_2 ≥ -32768 then (some ((decide (a_2 ≤ 32767)) : Bool)) else (some (false : Bool)) : Option Bool).bind fun o_8 => if o_8 = true then ((emit_writer_add_12.m 1 a_1 0 0 a_2 a_3 a_4 a_5 a_6 a_7).bind fun r_13 => some r_13) else ((if a_2 < -2147483648 then (some (true : Bool)) else (some ((decide (a_2 ≥ 2147483648)) : Bool)) : Option Bool).bind fun o_15 => if o_15 = true then (letC (a_2 / 2 ^ (min (32 : Int).toNat 64)) fun v_20 => (emit_writer_number32_4.m a_1 v_20 a_3 a_4 a_5 a_6 a_7).bind fun r_21 => (emit_writer_add_12.m 5 a_1 a_1 0 32 a_3 a_4 r_21 a_6 a_7).bind fun r_23 => letC (a_2 / 2 ^ (min (16 : Int).toNat 64)) fun v_25 => letC (bits .and .i64 v_25 (65535 : Int)) fun v_26 => (emit_writer_add_12.m 4 a_1 a_1 0 v_26 a_3 a_4 r_23 a_6 a_7).bind fun r_27 => letC (bits .and .i64 a_2 (65535 : Int)) fun v_29 => (emit_writer_add_12.m 3 a_1 a_1 0 v_29 a_3 a_4 r_27 a_6 a_7).bind fun r_30 => some r_30) else ((emit_writer_number32_4.m a_1 a_2 a_3 a_4 a_5 a_6 a_7).bind fun r_32 => some r_32))
noncomputable def emit_writer_number_4.o (a_1 : Int) (a_2 : Int) (a_3 : List api_Home) (a_4 : Nat) (a_5 : List api_Inst) (a_6 : List Int) (a_7 : List emit_jump) (r : List api_Inst) : Out := .ret (.tup []) [.box [.sl 0 1 a_4 0 a_4, sL 2 r, sL 3 a_6, sL 4 a_7], .arr true 79 2 a_4 (a_3.map api_Home.c), .arr true 39 5 r.length (r.map api_Inst.c), .arr true 3 1 a_6.length (a_6.map (cI .i64)), .arr true 74 2 a_7.length (a_7.map emit_jump.c)] []
theorem emit_writer_number_4.ev {a_1 : Int} {a_2 : Int} {a_3 : List api_Home} {a_4 : Nat} {a_5 : List api_Inst} {a_6 : List Int} {a_7 : List emit_jump} {r : List api_Inst} (H : emit_writer_number_4.m a_1 a_2 a_3 a_4 a_5 a_6 a_7 = some r) : Ev Try.prog 44 [.ref 0 0, vi a_1, vi a_2] [.box [.sl 0 1 a_4 0 a_4, sL 2 a_5, sL 3 a_6, sL 4 a_7], .arr true 79 2 a_4 (a_3.map api_Home.c), .arr true 39 5 a_5.length (a_5.map api_Inst.c), .arr true 3 1 a_6.length (a_6.map (cI .i64)), .arr true 74 2 a_7.length (a_7.map emit_jump.c)] [] (emit_writer_number_4.o a_1 a_2 a_3 a_4 a_5 a_6 a_7 r) := by
 unfold emit_writer_number_4.m at H
 obtain ⟨o_8, e_9, H⟩ := bdE H
 have j_10 : Rq emit_writer_number_4.F 5 [0, 0] ⟨[(0, .ref 0 0), (1, vi a_1), (2, vi a_2)], [.box [.sl 0 1 a_4 0 a_4, sL 2 a_5, sL 3 a_6, sL 4 a_7], .arr true 79 2 a_4 (a_3.map api_Home.c), .arr true 39 5 a_5.length (a_5.map api_Inst.c), .arr true 3 1 a_6.length (a_6.map (cI .i64)), .arr true 74 2 a_7.length (a_7.map emit_jump.c)], []⟩ ((fun _ => .normal : Bool → Ex) o_8) ((fun o_8 => ⟨[(0, .ref 0 0), (1, vi a_1), (2, vi a_2), (11, .v (.bool o_8))], [.box [.sl 0 1 a_4 0 a_4, sL 2 a_5, sL 3 a_6, sL 4 a_7], .arr true 79 2 a_4 (a_3.map api_Home.c), .arr true 39 5 a_5.length (a_5.map api_Inst.c), .arr true 3 1 a_6.length (a_6.map (cI .i64)), .arr true 74 2 a_7.length (a_7.map emit_jump.c)], []⟩ : Bool → ASt) o_8) := by
  clear H
  have H := e_9
  clear e_9
  rcases ic H with ⟨h_11, H⟩ | ⟨h_11, H⟩
  ·obtain rfl := sj H
   exact fn [br h_11, pT]
  ·obtain rfl := sj H
   exact fn [br h_11, pF]
 rcases ie H with ⟨h_12, H⟩ | ⟨h_12, H⟩
 ·obtain ⟨r_13, e_14, H⟩ := bdE H
  obtain rfl := sj H
  exact emit_writer_number_4.F.run tb mixed [sg_ 0 j_10, br h_12, ca [0, 1, 2, 3, 4] (emit_writer_add_12.ev e_14)] rfl (by kernel_rfl)
 ·obtain ⟨o_15, e_16, H⟩ := bdE H
  have j_17 : Rq emit_writer_number_4.F 5 [1, 0, 0] ⟨[(0, .ref 0 0), (1, vi a_1), (2, vi a_2)], [.box [.sl 0 1 a_4 0 a_4, sL 2 a_5, sL 3 a_6, sL 4 a_7], .arr true 79 2 a_4 (a_3.map api_Home.c), .arr true 39 5 a_5.length (a_5.map api_Inst.c), .arr true 3 1 a_6.length (a_6.map (cI .i64)), .arr true 74 2 a_7.length (a_7.map emit_jump.c)], []⟩ ((fun _ => .normal : Bool → Ex) o_15) ((fun o_15 => ⟨[(0, .ref 0 0), (1, vi a_1), (2, vi a_2), (21, .v (.bool o_15))], [.box [.sl 0 1 a_4 0 a_4, sL 2 a_5, sL 3 a_6, sL 4 a_7], .arr true 79 2 a_4 (a_3.map api_Home.c), .arr true 39 5 a_5.length (a_5.map api_Inst.c), .arr true 3 1 a_6.length (a_6.map (cI .i64)), .arr true 74 2 a_7.length (a_7.map emit_jump.c)], []⟩ : Bool → ASt) o_15) := by
   clear H
   have H := e_16
   clear e_16
   rcases ic H with ⟨h_18, H⟩ | ⟨h_18, H⟩
   ·obtain rfl := sj H
    exact fn [br h_18, pT]
   ·obtain rfl := sj H
    exact fn [br h_18, pF]
  rcases ie H with ⟨h_19, H⟩ | ⟨h_19, H⟩
  ·let v_20 : Int := a_2 / 2 ^ (min (32 : Int).toNat 64)
   replace H := ltD H
   obtain ⟨r_21, e_22, H⟩ := bdE H
   obtain ⟨r_23, e_24, H⟩ := bdE H
   let v_25 : Int := a_2 / 2 ^ (min (16 : Int).toNat 64)
   replace H := ltD H
   let v_26 : Int := bits .and .i64 v_25 (65535 : Int)
   replace H := ltD H
   obtain ⟨r_27, e_28, H⟩ := bdE H
   let v_29 : Int := bits .and .i64 a_2 (65535 : Int)
   replace H := ltD H
   obtain ⟨r_30, e_31, H⟩ := bdE H
   obtain rfl := sj H
   exact emit_writer_number_4.F.run tb mixed [sg_ 0 j_10, br h_12, sg_ 2 j_17, br h_19, pf (by decide : 0 ≤ (32 : Int)), ca [0, 1, 2, 3, 4] (emit_writer_number32_4.ev e_22), ca [0, 1, 2, 3, 4] (emit_writer_add_12.ev e_24), pf (by decide : 0 ≤ (16 : Int)), ca [0, 1, 2, 3, 4] (emit_writer_add_12.ev e_28), ca [0, 1, 2, 3, 4] (emit_writer_add_12.ev e_31)] rfl (by kernel_rfl)
  ·obtain ⟨r_32, e_33, H⟩ := bdE H
   obtain rfl := sj H
   exact emit_writer_number_4.F.run tb mixed [sg_ 0 j_10, br h_12, sg_ 2 j_17, br h_19, ca [0, 1, 2, 3, 4] (emit_writer_number32_4.ev e_33)] rfl (by kernel_rfl)
noncomputable def emit_writer_keep_4.F : FI Try.prog 46 := fi Try.f46 20 Try.call46 Try.func46
def emit_writer_keep_4.m (a_1 : Int) (a_2 : List api_Home) (a_3 : Nat) (a_4 : List api_Inst) (a_5 : List Int) (a_6 : List emit_jump) : Option (List api_Inst) :=
 if 0 ≤ a_1 ∧ a_1 < (a_3 : Int) then (if 0 ≤ a_1 ∧ a_1 < (a_2.length : Int) then (letC (gi a_2 a_1) fun v_9 => if v_9.Reg < 0 then (letC (wr .i64 ((8 : Int) * v_9.Slot)) fun v_11 => (emit_writer_add_12.m 11 11 1 0 v_11 a_2 a_3 a_4 a_5 a_6).bind fun r_12 => some r_12) else (some a_4)) else none) else none
noncomputable def emit_writer_keep_4.o (a_1 : Int) (a_2 : List api_Home) (a_3 : Nat) (a_4 : List api_Inst) (a_5 : List Int) (a_6 : List emit_jump) (r : List api_Inst) : Out := .ret (.tup []) [.box [.sl 0 1 a_3 0 a_3, sL 2 r, sL 3 a_5, sL 4 a_6], .arr true 79 2 a_3 (a_2.map api_Home.c), .arr true 39 5 r.length (r.map api_Inst.c), .arr true 3 1 a_5.length (a_5.map (cI .i64)), .arr true 74 2 a_6.length (a_6.map emit_jump.c)] []
theorem emit_writer_keep_4.ev {a_1 : Int} {a_2 : List api_Home} {a_3 : Nat} {a_4 : List api_Inst} {a_5 : List Int} {a_6 : List emit_jump} {r : List api_Inst} (H : emit_writer_keep_4.m a_1 a_2 a_3 a_4 a_5 a_6 = some r) : Ev Try.prog 46 [.ref 0 0, vi a_1] [.box [.sl 0 1 a_3 0 a_3, sL 2 a_4, sL 3 a_5, sL 4 a_6], .arr true 79 2 a_3 (a_2.map api_Home.c), .arr true 39 5 a_4.length (a_4.map api_Inst.c), .arr true 3 1 a_5.length (a_5.map (cI .i64)), .arr true 74 2 a_6.length (a_6.map emit_jump.c)] [] (emit_writer_keep_4.o a_1 a_2 a_3 a_4 a_5 a_6 r) := by
 unfold emit_writer_keep_4.m at H
 obtain ⟨g_7, H⟩ := gdE H
 obtain ⟨g_8, H⟩ := gdE H
 let v_9 : api_Home := gi a_2 a_1
 replace H := ltD H
 rcases ic H with ⟨h_10, H⟩ | ⟨h_10, H⟩
 ·let v_11 : Int := wr .i64 ((8 : Int) * v_9.Slot)
  replace H := ltD H
  obtain ⟨r_12, e_13, H⟩ := bdE H
  obtain rfl := sj H
  exact emit_writer_keep_4.F.run tb mixed [pf g_7, el api_Home.c g_8, br h_10, ca [0, 1, 2, 3, 4] (emit_writer_add_12.ev e_13)] rfl (by kernel_rfl)
 ·obtain rfl := sj H
  exact emit_writer_keep_4.F.run tb mixed [pf g_7, el api_Home.c g_8, br h_10] rfl (by kernel_rfl)
noncomputable def emit_writer_use_8.F : FI Try.prog 50 := fi Try.f50 28 Try.call50 Try.func50
def emit_writer_use_8.m (a_1 : Int) (a_2 : Int) (a_3 : List api_Home) (a_4 : Nat) (a_5 : List api_Inst) (a_6 : List Int) (a_7 : List emit_jump) : Option ((List api_Inst) × Int) :=
 if 0 ≤ a_1 ∧ a_1 < (a_4 : Int) then (if 0 ≤ a_1 ∧ a_1 < (a_3.length : Int) then (letC (gi a_3 a_1) fun v_10 => if v_10.Reg ≥ 0 then (letC (wr .i64 ((14 : Int) + v_10.Reg)) fun v_12 => some (a_5, v_12)) else (letC (wr .i64 ((8 : Int) * v_10.Slot)) fun v_13 => (emit_writer_add_12.m 10 a_2 1 0 v_13 a_3 a_4 a_5 a_6 a_7).bind fun r_14 => some (r_14, a_2))) else none) else none
noncomputable def emit_writer_use_8.o (a_1 : Int) (a_2 : Int) (a_3 : List api_Home) (a_4 : Nat) (a_5 : List api_Inst) (a_6 : List Int) (a_7 : List emit_jump) (r : (List api_Inst) × Int) : Out := .ret (vi r.2) [.box [.sl 0 1 a_4 0 a_4, sL 2 r.1, sL 3 a_6, sL 4 a_7], .arr true 79 2 a_4 (a_3.map api_Home.c), .arr true 39 5 r.1.length (r.1.map api_Inst.c), .arr true 3 1 a_6.length (a_6.map (cI .i64)), .arr true 74 2 a_7.length (a_7.map emit_jump.c)] []
theorem emit_writer_use_8.ev {a_1 : Int} {a_2 : Int} {a_3 : List api_Home} {a_4 : Nat} {a_5 : List api_Inst} {a_6 : List Int} {a_7 : List emit_jump} {r : (List api_Inst) × Int} (H : emit_writer_use_8.m a_1 a_2 a_3 a_4 a_5 a_6 a_7 = some r) : Ev Try.prog 50 [.ref 0 0, vi a_1, vi a_2] [.box [.sl 0 1 a_4 0 a_4, sL 2 a_5, sL 3 a_6, sL 4 a_7], .arr true 79 2 a_4 (a_3.map api_Home.c), .arr true 39 5 a_5.length (a_5.map api_Inst.c), .arr true 3 1 a_6.length (a_6.map (cI .i64)), .arr true 74 2 a_7.length (a_7.map emit_jump.c)] [] (emit_writer_use_8.o a_1 a_2 a_3 a_4 a_5 a_6 a_7 r) := by
 unfold emit_writer_use_8.m at H
 obtain ⟨g_8, H⟩ := gdE H
 obtain ⟨g_9, H⟩ := gdE H
 let v_10 : api_Home := gi a_3 a_1
 replace H := ltD H
 rcases ic H with ⟨h_11, H⟩ | ⟨h_11, H⟩
 ·let v_12 : Int := wr .i64 ((14 : Int) + v_10.Reg)
  replace H := ltD H
  obtain rfl := sj H
  exact emit_writer_use_8.F.run tb mixed [pf g_8, el api_Home.c g_9, br h_11] rfl (by kernel_rfl)
 ·let v_13 : Int := wr .i64 ((8 : Int) * v_10.Slot)
  replace H := ltD H
  obtain ⟨r_14, e_15, H⟩ := bdE H
  obtain rfl := sj H
  exact emit_writer_use_8.F.run tb mixed [pf g_8, el api_Home.c g_9, br h_11, ca [0, 1, 2, 3, 4] (emit_writer_add_12.ev e_15)] rfl (by kernel_rfl)
noncomputable def emit_writer_call_8.F : FI Try.prog 52 := fi Try.f52 9 Try.call52 Try.func52
def emit_writer_call_8.m (a_1 : Int) (a_2 : List api_Home) (a_3 : Nat) (a_4 : List api_Inst) (a_5 : List Int) (a_6 : List emit_jump) : Option (List api_Inst) :=
 (emit_writer_add_12.m 1 0 0 0 a_1 a_2 a_3 a_4 a_5 a_6).bind fun r_7 => (emit_writer_add_12.m 23 0 0 0 0 a_2 a_3 r_7 a_5 a_6).bind fun r_9 => some r_9
noncomputable def emit_writer_call_8.o (a_1 : Int) (a_2 : List api_Home) (a_3 : Nat) (a_4 : List api_Inst) (a_5 : List Int) (a_6 : List emit_jump) (r : List api_Inst) : Out := .ret (.tup []) [.box [.sl 0 1 a_3 0 a_3, sL 2 r, sL 3 a_5, sL 4 a_6], .arr true 79 2 a_3 (a_2.map api_Home.c), .arr true 39 5 r.length (r.map api_Inst.c), .arr true 3 1 a_5.length (a_5.map (cI .i64)), .arr true 74 2 a_6.length (a_6.map emit_jump.c)] []
theorem emit_writer_call_8.ev {a_1 : Int} {a_2 : List api_Home} {a_3 : Nat} {a_4 : List api_Inst} {a_5 : List Int} {a_6 : List emit_jump} {r : List api_Inst} (H : emit_writer_call_8.m a_1 a_2 a_3 a_4 a_5 a_6 = some r) : Ev Try.prog 52 [.ref 0 0, vi a_1] [.box [.sl 0 1 a_3 0 a_3, sL 2 a_4, sL 3 a_5, sL 4 a_6], .arr true 79 2 a_3 (a_2.map api_Home.c), .arr true 39 5 a_4.length (a_4.map api_Inst.c), .arr true 3 1 a_5.length (a_5.map (cI .i64)), .arr true 74 2 a_6.length (a_6.map emit_jump.c)] [] (emit_writer_call_8.o a_1 a_2 a_3 a_4 a_5 a_6 r) := by
 unfold emit_writer_call_8.m at H
 obtain ⟨r_7, e_8, H⟩ := bdE H
 obtain ⟨r_9, e_10, H⟩ := bdE H
 obtain rfl := sj H
 exact emit_writer_call_8.F.run tb mixed [ca [0, 1, 2, 3, 4] (emit_writer_add_12.ev e_8), ca [0, 1, 2, 3, 4] (emit_writer_add_12.ev e_10)] rfl (by kernel_rfl)
noncomputable def emit_writer_reckon_7.F : FI Try.prog 47 := fi Try.f47 60 Try.call47 Try.func47
def emit_writer_reckon_7.m (a_1 : api_Ins) (a_2 : List api_Home) (a_3 : Nat) (a_4 : List api_Inst) (a_5 : List Int) (a_6 : List emit_jump) : Option (List api_Inst) :=
 (emit_writer_use_8.m a_1.A 11 a_2 a_3 a_4 a_5 a_6).bind fun r_7 => (emit_writer_use_8.m a_1.B 10 a_2 a_3 r_7.1 a_5 a_6).bind fun r_9 => (emit_writer_target_8.m a_1.D a_2 a_3 r_9.1 a_5 a_6).bind fun r_11 => (if a_1.Op = 2 then ((emit_writer_add_12.m 6 r_11 r_7.2 r_9.2 0 a_2 a_3 r_9.1 a_5 a_6).bind fun r_17 => some (r_17 : List api_Inst)) else (if a_1.Op = 3 then ((emit_writer_add_12.m 7 r_11 r_9.2 r_7.2 0 a_2 a_3 r_9.1 a_5 a_6).bind fun r_20 => some (r_20 : List api_Inst)) else (if a_1.Op = 4 then ((emit_writer_add_12.m 8 r_11 r_7.2 r_9.2 0 a_2 a_3 r_9.1 a_5 a_6).bind fun r_23 => some (r_23 : List api_Inst)) else (if a_1.Op = 5 then ((emit_writer_add_12.m 17 0 r_9.2 0 0 a_2 a_3 r_9.1 a_5 a_6).bind fun r_26 => (emit_writer_add_12.m 18 3 0 0 12 a_2 a_3 r_26 a_5 a_6).bind fun r_28 => (emit_writer_call_8.m 2 a_2 a_3 r_28 a_5 a_6).bind fun r_30 => (emit_writer_add_12.m 9 r_11 r_7.2 r_9.2 0 a_2 a_3 r_30 a_5 a_6).bind fun r_32 => some (r_32 : List api_Inst)) else (some (r_9.1 : List api_Inst))))) : Option (List api_Inst)).bind fun o_13 => (emit_writer_keep_4.m a_1.D a_2 a_3 o_13 a_5 a_6).bind fun r_34 => some r_34
noncomputable def emit_writer_reckon_7.o (a_1 : api_Ins) (a_2 : List api_Home) (a_3 : Nat) (a_4 : List api_Inst) (a_5 : List Int) (a_6 : List emit_jump) (r : List api_Inst) : Out := .ret (.tup []) [.box [.sl 0 1 a_3 0 a_3, sL 2 r, sL 3 a_5, sL 4 a_6], .arr true 79 2 a_3 (a_2.map api_Home.c), .arr true 39 5 r.length (r.map api_Inst.c), .arr true 3 1 a_5.length (a_5.map (cI .i64)), .arr true 74 2 a_6.length (a_6.map emit_jump.c)] []
theorem emit_writer_reckon_7.ev {a_1 : api_Ins} {a_2 : List api_Home} {a_3 : Nat} {a_4 : List api_Inst} {a_5 : List Int} {a_6 : List emit_jump} {r : List api_Inst} (H : emit_writer_reckon_7.m a_1 a_2 a_3 a_4 a_5 a_6 = some r) : Ev Try.prog 47 [.ref 0 0, .agg (api_Ins.c a_1)] [.box [.sl 0 1 a_3 0 a_3, sL 2 a_4, sL 3 a_5, sL 4 a_6], .arr true 79 2 a_3 (a_2.map api_Home.c), .arr true 39 5 a_4.length (a_4.map api_Inst.c), .arr true 3 1 a_5.length (a_5.map (cI .i64)), .arr true 74 2 a_6.length (a_6.map emit_jump.c)] [] (emit_writer_reckon_7.o a_1 a_2 a_3 a_4 a_5 a_6 r) := by
 unfold emit_writer_reckon_7.m at H
 obtain ⟨r_7, e_8, H⟩ := bdE H
 obtain ⟨r_9, e_10, H⟩ := bdE H
 obtain ⟨r_11, e_12, H⟩ := bdE H
 obtain ⟨o_13, e_14, H⟩ := bdE H
 have j_15 : Rq emit_writer_reckon_7.F 5 [1, 1, 1, 0, 1] ⟨[(0, .ref 0 0), (3, .ref 5 0), (4, vi r_7.2), (5, vi r_9.2), (6, vi r_11), (20, vi a_1.Op)], [.box [.sl 0 1 a_3 0 a_3, sL 2 r_9.1, sL 3 a_5, sL 4 a_6], .arr true 79 2 a_3 (a_2.map api_Home.c), .arr true 39 5 r_9.1.length (r_9.1.map api_Inst.c), .arr true 3 1 a_5.length (a_5.map (cI .i64)), .arr true 74 2 a_6.length (a_6.map emit_jump.c), .box (api_Ins.c a_1)], []⟩ ((fun _ => .normal : (List api_Inst) → Ex) o_13) ((fun o_13 => ⟨[(0, .ref 0 0), (3, .ref 5 0)], [.box [.sl 0 1 a_3 0 a_3, sL 2 o_13, sL 3 a_5, sL 4 a_6], .arr true 79 2 a_3 (a_2.map api_Home.c), .arr true 39 5 o_13.length (o_13.map api_Inst.c), .arr true 3 1 a_5.length (a_5.map (cI .i64)), .arr true 74 2 a_6.length (a_6.map emit_jump.c), .box (api_Ins.c a_1)], []⟩ : (List api_Inst) → ASt) o_13) := by
  clear H
  have H := e_14
  clear e_14
  rcases ic H with ⟨h_16, H⟩ | ⟨h_16, H⟩
  ·obtain ⟨r_17, e_18, H⟩ := bdE H
   obtain rfl := sj H
   exact fn [br h_16, ca [0, 1, 2, 3, 4] (emit_writer_add_12.ev e_18)]
  ·rcases ic H with ⟨h_19, H⟩ | ⟨h_19, H⟩
   ·obtain ⟨r_20, e_21, H⟩ := bdE H
    obtain rfl := sj H
    exact fn [br h_16, br h_19, ca [0, 1, 2, 3, 4] (emit_writer_add_12.ev e_21)]
   ·rcases ic H with ⟨h_22, H⟩ | ⟨h_22, H⟩
    ·obtain ⟨r_23, e_24, H⟩ := bdE H
     obtain rfl := sj H
     exact fn [br h_16, br h_19, br h_22, ca [0, 1, 2, 3, 4] (emit_writer_add_12.ev e_24)]
    ·rcases ic H with ⟨h_25, H⟩ | ⟨h_25, H⟩
     ·obtain ⟨r_26, e_27, H⟩ := bdE H
      obtain ⟨r_28, e_29, H⟩ := bdE H
      obtain ⟨r_30, e_31, H⟩ := bdE H
      obtain ⟨r_32, e_33, H⟩ := bdE H
      obtain rfl := sj H
      exact fn [br h_16, br h_19, br h_22, br h_25, ca [0, 1, 2, 3, 4] (emit_writer_add_12.ev e_27), ca [0, 1, 2, 3, 4] (emit_writer_add_12.ev e_29), ca [0, 1, 2, 3, 4] (emit_writer_call_8.ev e_31), ca [0, 1, 2, 3, 4] (emit_writer_add_12.ev e_33)]
     ·obtain rfl := sj H
      exact fn [br h_16, br h_19, br h_22, br h_25]
 obtain ⟨r_34, e_35, H⟩ := bdE H
 obtain rfl := sj H
 exact emit_writer_reckon_7.F.run tb mixed [kp [1, 3, 4] [.arr true 79 2 a_3 (a_2.map api_Home.c), .arr true 3 1 a_5.length (a_5.map (cI .i64)), .arr true 74 2 a_6.length (a_6.map emit_jump.c)] (ca [0, 1, 2, 3, 4] (emit_writer_use_8.ev e_8)), kp [1, 3, 4] [.arr true 79 2 a_3 (a_2.map api_Home.c), .arr true 3 1 a_5.length (a_5.map (cI .i64)), .arr true 74 2 a_6.length (a_6.map emit_jump.c)] (ca [0, 1, 2, 3, 4] (emit_writer_use_8.ev e_10)), ca [0, 1, 2, 3, 4] (emit_writer_target_8.ev e_12), sb_ j_15, ca [0, 1, 2, 3, 4] (emit_writer_keep_4.ev e_35)] rfl (by kernel_rfl)
noncomputable def emit_writer_decided_4.F : FI Try.prog 49 := fi Try.f49 10 Try.call49 Try.func49
def emit_writer_decided_4.m (a_1 : Int) (a_2 : List api_Home) (a_3 : Nat) (a_4 : List api_Inst) (a_5 : List Int) (a_6 : List emit_jump) : Option (List api_Inst) :=
 (emit_writer_add_12.m 16 0 a_1 a_1 0 a_2 a_3 a_4 a_5 a_6).bind fun r_7 => (emit_writer_add_12.m 18 3 0 0 4 a_2 a_3 r_7 a_5 a_6).bind fun r_9 => some r_9
noncomputable def emit_writer_decided_4.o (a_1 : Int) (a_2 : List api_Home) (a_3 : Nat) (a_4 : List api_Inst) (a_5 : List Int) (a_6 : List emit_jump) (r : List api_Inst) : Out := .ret (.tup []) [.box [.sl 0 1 a_3 0 a_3, sL 2 r, sL 3 a_5, sL 4 a_6], .arr true 79 2 a_3 (a_2.map api_Home.c), .arr true 39 5 r.length (r.map api_Inst.c), .arr true 3 1 a_5.length (a_5.map (cI .i64)), .arr true 74 2 a_6.length (a_6.map emit_jump.c)] []
theorem emit_writer_decided_4.ev {a_1 : Int} {a_2 : List api_Home} {a_3 : Nat} {a_4 : List api_Inst} {a_5 : List Int} {a_6 : List emit_jump} {r : List api_Inst} (H : emit_writer_decided_4.m a_1 a_2 a_3 a_4 a_5 a_6 = some r) : Ev Try.prog 49 [.ref 0 0, vi a_1] [.box [.sl 0 1 a_3 0 a_3, sL 2 a_4, sL 3 a_5, sL 4 a_6], .arr true 79 2 a_3 (a_2.map api_Home.c), .arr true 39 5 a_4.length (a_4.map api_Inst.c), .arr true 3 1 a_5.length (a_5.map (cI .i64)), .arr true 74 2 a_6.length (a_6.map emit_jump.c)] [] (emit_writer_decided_4.o a_1 a_2 a_3 a_4 a_5 a_6 r) := by
 unfold emit_writer_decided_4.m at H
 obtain ⟨r_7, e_8, H⟩ := bdE H
 obtain ⟨r_9, e_10, H⟩ := bdE H
 obtain rfl := sj H
 exact emit_writer_decided_4.F.run tb mixed [ca [0, 1, 2, 3, 4] (emit_writer_add_12.ev e_8), ca [0, 1, 2, 3, 4] (emit_writer_add_12.ev e_10)] rfl (by kernel_rfl)
noncomputable def emit_writer_bounds_5.F : FI Try.prog 51 := fi Try.f51 24 Try.call51 Try.func51
def emit_writer_bounds_5.m (a_1 : Int) (a_2 : Int) (a_3 : List api_Home) (a_4 : Nat) (a_5 : List api_Inst) (a_6 : List Int) (a_7 : List emit_jump) : Option (List api_Inst) :=
 (emit_writer_add_12.m 17 0 a_1 0 0 a_3 a_4 a_5 a_6 a_7).bind fun r_8 => (emit_writer_add_12.m 18 1 0 0 12 a_3 a_4 r_8 a_6 a_7).bind fun r_10 => (emit_writer_call_8.m 3 a_3 a_4 r_10 a_6 a_7).bind fun r_12 => (emit_writer_add_12.m 17 0 a_1 0 a_2 a_3 a_4 r_12 a_6 a_7).bind fun r_14 => (emit_writer_add_12.m 18 0 0 0 12 a_3 a_4 r_14 a_6 a_7).bind fun r_16 => (emit_writer_call_8.m 3 a_3 a_4 r_16 a_6 a_7).bind fun r_18 => (emit_writer_add_12.m 5 12 a_1 0 3 a_3 a_4 r_18 a_6 a_7).bind fun r_20 => some r_20
noncomputable def emit_writer_bounds_5.o (a_1 : Int) (a_2 : Int) (a_3 : List api_Home) (a_4 : Nat) (a_5 : List api_Inst) (a_6 : List Int) (a_7 : List emit_jump) (r : List api_Inst) : Out := .ret (.tup []) [.box [.sl 0 1 a_4 0 a_4, sL 2 r, sL 3 a_6, sL 4 a_7], .arr true 79 2 a_4 (a_3.map api_Home.c), .arr true 39 5 r.length (r.map api_Inst.c), .arr true 3 1 a_6.length (a_6.map (cI .i64)), .arr true 74 2 a_7.length (a_7.map emit_jump.c)] []
theorem emit_writer_bounds_5.ev {a_1 : Int} {a_2 : Int} {a_3 : List api_Home} {a_4 : Nat} {a_5 : List api_Inst} {a_6 : List Int} {a_7 : List emit_jump} {r : List api_Inst} (H : emit_writer_bounds_5.m a_1 a_2 a_3 a_4 a_5 a_6 a_7 = some r) : Ev Try.prog 51 [.ref 0 0, vi a_1, vi a_2] [.box [.sl 0 1 a_4 0 a_4, sL 2 a_5, sL 3 a_6, sL 4 a_7], .arr true 79 2 a_4 (a_3.map api_Home.c), .arr true 39 5 a_5.length (a_5.map api_Inst.c), .arr true 3 1 a_6.length (a_6.map (cI .i64)), .arr true 74 2 a_7.length (a_7.map emit_jump.c)] [] (emit_writer_bounds_5.o a_1 a_2 a_3 a_4 a_5 a_6 a_7 r) := by
 unfold emit_writer_bounds_5.m at H
 obtain ⟨r_8, e_9, H⟩ := bdE H
 obtain ⟨r_10, e_11, H⟩ := bdE H
 obtain ⟨r_12, e_13, H⟩ := bdE H
 obtain ⟨r_14, e_15, H⟩ := bdE H
 obtain ⟨r_16, e_17, H⟩ := bdE H
 obtain ⟨r_18, e_19, H⟩ := bdE H
 obtain ⟨r_20, e_21, H⟩ := bdE H
 obtain rfl := sj H
 exact emit_writer_bounds_5.F.run tb mixed [ca [0, 1, 2, 3, 4] (emit_writer_add_12.ev e_9), ca [0, 1, 2, 3, 4] (emit_writer_add_12.ev e_11), ca [0, 1, 2, 3, 4] (emit_writer_call_8.ev e_13), ca [0, 1, 2, 3, 4] (emit_writer_add_12.ev e_15), ca [0, 1, 2, 3, 4] (emit_writer_add_12.ev e_17), ca [0, 1, 2, 3, 4] (emit_writer_call_8.ev e_19), ca [0, 1, 2, 3, 4] (emit_writer_add_12.ev e_21)] rfl (by kernel_rfl)
noncomputable def emit_writer_leave_4.F : FI Try.prog 53 := fi Try.f53 25 Try.call53 Try.func53
def emit_writer_leave_4.m (a_1 : Int) (a_2 : Int) (a_3 : List api_Home) (a_4 : Nat) (a_5 : List api_Inst) (a_6 : List Int) (a_7 : List emit_jump) : Option ((List api_Inst) × (List emit_jump)) :=
 if (a_7.length + ([(emit_jump.mk (a_5.length : Int) a_2)] : List emit_jump).length) * 16 ≤ 140737488355328 then (letC (a_7 ++ ([(emit_jump.mk (a_5.length : Int) a_2)] : List emit_jump)) fun v_9 => (emit_writer_add_12.m 18 a_1 0 0 0 a_3 a_4 a_5 a_6 v_9).bind fun r_10 => some (r_10, v_9)) else none
noncomputable def emit_writer_leave_4.o (a_1 : Int) (a_2 : Int) (a_3 : List api_Home) (a_4 : Nat) (a_5 : List api_Inst) (a_6 : List Int) (a_7 : List emit_jump) (r : (List api_Inst) × (List emit_jump)) : Out := .ret (.tup []) [.box [.sl 0 1 a_4 0 a_4, sL 2 r.1, sL 3 a_6, sL 4 r.2], .arr true 79 2 a_4 (a_3.map api_Home.c), .arr true 39 5 r.1.length (r.1.map api_Inst.c), .arr true 3 1 a_6.length (a_6.map (cI .i64)), .arr true 74 2 r.2.length (r.2.map emit_jump.c)] []
theorem emit_writer_leave_4.ev {a_1 : Int} {a_2 : Int} {a_3 : List api_Home} {a_4 : Nat} {a_5 : List api_Inst} {a_6 : List Int} {a_7 : List emit_jump} {r : (List api_Inst) × (List emit_jump)} (H : emit_writer_leave_4.m a_1 a_2 a_3 a_4 a_5 a_6 a_7 = some r) : Ev Try.prog 53 [.ref 0 0, vi a_1, vi a_2] [.box [.sl 0 1 a_4 0 a_4, sL 2 a_5, sL 3 a_6, sL 4 a_7], .arr true 79 2 a_4 (a_3.map api_Home.c), .arr true 39 5 a_5.length (a_5.map api_Inst.c), .arr true 3 1 a_6.length (a_6.map (cI .i64)), .arr true 74 2 a_7.length (a_7.map emit_jump.c)] [] (emit_writer_leave_4.o a_1 a_2 a_3 a_4 a_5 a_6 a_7 r) := by
 unfold emit_writer_leave_4.m at H
 obtain ⟨g_8, H⟩ := gdE H
 let v_9 : List emit_jump := a_7 ++ ([(emit_jump.mk (a_5.length : Int) a_2)] : List emit_jump)
 replace H := ltD H
 obtain ⟨r_10, e_11, H⟩ := bdE H
 obtain rfl := sj H
 exact emit_writer_leave_4.F.run tb mixed [ap emit_jump.c 16 false a_7 ([(emit_jump.mk (a_5.length : Int) a_2)] : List emit_jump) g_8 (fun h => by cases h), ca [0, 1, 2, 3, 4] (emit_writer_add_12.ev e_11)] rfl (by kernel_rfl)
noncomputable def emit_writer_sync_5.F : FI Try.prog 87 := fi Try.f87 4 Try.call87 Try.func87
def emit_writer_sync_5.m (a_1 : List api_Home) (a_2 : Nat) (a_3 : List api_Inst) (a_4 : List Int) (a_5 : List emit_jump) : Option (List api_Inst) :=
 (emit_writer_add_12.m 20 0 0 0 0 a_1 a_2 a_3 a_4 a_5).bind fun r_6 => some r_6
noncomputable def emit_writer_sync_5.o (a_1 : List api_Home) (a_2 : Nat) (a_3 : List api_Inst) (a_4 : List Int) (a_5 : List emit_jump) (r : List api_Inst) : Out := .ret (.tup []) [.box [.sl 0 1 a_2 0 a_2, sL 2 r, sL 3 a_4, sL 4 a_5], .arr true 79 2 a_2 (a_1.map api_Home.c), .arr true 39 5 r.length (r.map api_Inst.c), .arr true 3 1 a_4.length (a_4.map (cI .i64)), .arr true 74 2 a_5.length (a_5.map emit_jump.c)] []
theorem emit_writer_sync_5.ev {a_1 : List api_Home} {a_2 : Nat} {a_3 : List api_Inst} {a_4 : List Int} {a_5 : List emit_jump} {r : List api_Inst} (H : emit_writer_sync_5.m a_1 a_2 a_3 a_4 a_5 = some r) : Ev Try.prog 87 [.ref 0 0] [.box [.sl 0 1 a_2 0 a_2, sL 2 a_3, sL 3 a_4, sL 4 a_5], .arr true 79 2 a_2 (a_1.map api_Home.c), .arr true 39 5 a_3.length (a_3.map api_Inst.c), .arr true 3 1 a_4.length (a_4.map (cI .i64)), .arr true 74 2 a_5.length (a_5.map emit_jump.c)] [] (emit_writer_sync_5.o a_1 a_2 a_3 a_4 a_5 r) := by
 unfold emit_writer_sync_5.m at H
 obtain ⟨r_6, e_7, H⟩ := bdE H
 obtain rfl := sj H
 exact emit_writer_sync_5.F.run tb mixed [ca [0, 1, 2, 3, 4] (emit_writer_add_12.ev e_7)] rfl (by kernel_rfl)
noncomputable def emit_writer_atomic_7.F : FI Try.prog 54 := fi Try.f54 154 Try.call54 Try.func54
def emit_writer_atomic_7.m (a_1 : api_Ins) (a_2 : List api_Home) (a_3 : Nat) (a_4 : List api_Inst) (a_5 : List Int) (a_6 : List emit_jump) : Option ((List api_Inst) × (List emit_jump)) :=
 if a_1.Op = 8 then ((emit_writer_target_8.m a_1.D a_2 a_3 a_4 a_5 a_6).bind fun r_8 => (emit_writer_sync_5.m a_2 a_3 a_4 a_5 a_6).bind fun r_10 => letC (wr .i64 ((8 : Int) * a_1.Loc)) fun v_12 => (emit_writer_add_12.m 10 r_8 2 0 v_12 a_2 a_3 r_10 a_5 a_6).bind fun r_13 => (emit_writer_sync_5.m a_2 a_3 r_13 a_5 a_6).bind fun r_15 => (emit_writer_keep_4.m a_1.D a_2 a_3 r_15 a_5 a_6).bind fun r_17 => some (r_17, a_6)) else (if a_1.Op = 9 then ((emit_writer_use_8.m a_1.A 10 a_2 a_3 a_4 a_5 a_6).bind fun r_20 => (emit_writer_sync_5.m a_2 a_3 r_20.1 a_5 a_6).bind fun r_22 => letC (wr .i64 ((8 : Int) * a_1.Loc)) fun v_24 => (emit_writer_add_12.m 11 r_20.2 2 0 v_24 a_2 a_3 r_22 a_5 a_6).bind fun r_25 => (emit_writer_sync_5.m a_2 a_3 r_25 a_5 a_6).bind fun r_27 => some (r_27, a_6)) else ((if a_1.Op = 10 then (some (true : Bool)) else (some ((decide (a_1.Op = 11)) : Bool)) : Option Bool).bind fun o_29 => if o_29 = true then ((emit_writer_use_8.m a_1.A 10 a_2 a_3 a_4 a_5 a_6).bind fun r_34 => letC (wr .i64 ((8 : Int) * a_1.Loc)) fun v_36 => (emit_writer_add_12.m 1 12 0 0 v_36 a_2 a_3 r_34.1 a_5 a_6).bind fun r_37 => (emit_writer_sync_5.m a_2 a_3 r_37 a_5 a_6).bind fun r_39 => (emit_writer_add_12.m 14 11 2 12 0 a_2 a_3 r_39 a_5 a_6).bind fun r_41 => (if a_1.Op = 11 then ((emit_writer_add_12.m 6 9 11 r_34.2 0 a_2 a_3 r_41 a_5 a_6).bind fun r_47 => some ((r_47, 9) : (List api_Inst) × Int)) else (some ((r_41, r_34.2) : (List api_Inst) × Int)) : Option ((List api_Inst) × Int)).bind fun o_43 => (emit_writer_add_12.m 15 o_43.2 2 12 0 a_2 a_3 o_43.1 a_5 a_6).bind fun r_49 => (if a_1.Op = 11 then (some ((-12) : Int)) else (some ((-8) : Int)) : Option Int).bind fun o_51 => (emit_writer_add_12.m 18 3 0 0 o_51 a_2 a_3 r_49 a_5 a_6).bind fun r_55 => (emit_writer_sync_5.m a_2 a_3 r_55 a_5 a_6).bind fun r_57 => if 0 ≤ a_1.D ∧ a_1.D < (a_3 : Int) then (if 0 ≤ a_1.D ∧ a_1.D < (a_2.length : Int) then (letC (gi a_2 a_1.D) fun v_61 => if v_61.Reg ≥ 0 then (letC (wr .i64 ((14 : Int) + v_61.Reg)) fun v_63 => (emit_writer_add_12.m 1 v_63 11 0 0 a_2 a_3 r_57 a_5 a_6).bind fun r_64 => (emit_writer_keep_4.m a_1.D a_2 a_3 r_64 a_5 a_6).bind fun r_66 => some (r_66, a_6)) else ((emit_writer_keep_4.m a_1.D a_2 a_3 r_57 a_5 a_6).bind fun r_68 => some (r_68, a_6))) else none) else none) else ((emit_writer_use_8.m a_1.A 10 a_2 a_3 a_4 a_5 a_6).bind fun r_70 => (emit_writer_use_8.m a_1.B 9 a_2 a_3 r_70.1 a_5 a_6).bind fun r_72 => letC (wr .i64 ((8 : Int) * a_1.Loc)) fun v_74 => (emit_writer_add_12.m 1 12 0 0 v_74 a_2 a_3 r_72.1 a_5 a_6).bind fun r_75 => (emit_writer_sync_5.m a_2 a_3 r_75 a_5 a_6).bind fun r_77 => (emit_writer_add_12.m 14 11 2 12 0 a_2 a_3 r_77 a_5 a_6).bind fun r_79 => (emit_writer_add_12.m 16 0 11 r_70.2 0 a_2 a_3 r_79 a_5 a_6).bind fun r_81 => (emit_writer_add_12.m 18 3 0 0 20 a_2 a_3 r_81 a_5 a_6).bind fun r_83 => (emit_writer_add_12.m 15 r_72.2 2 12 0 a_2 a_3 r_83 a_5 a_6).bind fun r_85 => (emit_writer_add_12.m 18 3 0 0 (-16) a_2 a_3 r_85 a_5 a_6).bind fun r_87 => (emit_writer_sync_5.m a_2 a_3 r_87 a_5 a_6).bind fun r_89 => (emit_writer_add_12.m 19 0 0 0 12 a_2 a_3 r_89 a_5 a_6).bind fun r_91 => (emit_writer_sync_5.m a_2 a_3 r_91 a_5 a_6).bind fun r_93 => if (a_6.length + ([(emit_jump.mk (r_93.length : Int) a_1.To)] : List emit_jump).length) * 16 ≤ 140737488355328 then (letC (a_6 ++ ([(emit_jump.mk (r_93.length : Int) a_1.To)] : List emit_jump)) fun v_96 => (emit_writer_add_12.m 19 0 0 0 0 a_2 a_3 r_93 a_5 v_96).bind fun r_97 => some (r_97, v_96)) else none)))
noncomputable def emit_writer_atomic_7.o (a_1 : api_Ins) (a_2 : List api_Home) (a_3 : Nat) (a_4 : List api_Inst) (a_5 : List Int) (a_6 : List emit_jump) (r : (List api_Inst) × (List emit_jump)) : Out := .ret (.tup []) [.box [.sl 0 1 a_3 0 a_3, sL 2 r.1, sL 3 a_5, sL 4 r.2], .arr true 79 2 a_3 (a_2.map api_Home.c), .arr true 39 5 r.1.length (r.1.map api_Inst.c), .arr true 3 1 a_5.length (a_5.map (cI .i64)), .arr true 74 2 r.2.length (r.2.map emit_jump.c)] []
theorem emit_writer_atomic_7.ev {a_1 : api_Ins} {a_2 : List api_Home} {a_3 : Nat} {a_4 : List api_Inst} {a_5 : List Int} {a_6 : List emit_jump} {r : (List api_Inst) × (List emit_jump)} (H : emit_writer_atomic_7.m a_1 a_2 a_3 a_4 a_5 a_6 = some r) : Ev Try.prog 54 [.ref 0 0, .agg (api_Ins.c a_1)] [.box [.sl 0 1 a_3 0 a_3, sL 2 a_4, sL 3 a_5, sL 4 a_6], .arr true 79 2 a_3 (a_2.map api_Home.c), .arr true 39 5 a_4.length (a_4.map api_Inst.c), .arr true 3 1 a_5.length (a_5.map (cI .i64)), .arr true 74 2 a_6.length (a_6.map emit_jump.c)] [] (emit_writer_atomic_7.o a_1 a_2 a_3 a_4 a_5 a_6 r) := by
 unfold emit_writer_atomic_7.m at H
 rcases ic H with ⟨h_7, H⟩ | ⟨h_7, H⟩
 ·obtain ⟨r_8, e_9, H⟩ := bdE H
  obtain ⟨r_10, e_11, H⟩ := bdE H
  let v_12 : Int := wr .i64 ((8 : Int) * a_1.Loc)
  replace H := ltD H
  obtain ⟨r_13, e_14, H⟩ := bdE H
  obtain ⟨r_15, e_16, H⟩ := bdE H
  obtain ⟨r_17, e_18, H⟩ := bdE H
  obtain rfl := sj H
  exact emit_writer_atomic_7.F.run tb mixed [br h_7, ca [0, 1, 2, 3, 4] (emit_writer_target_8.ev e_9), ca [0, 1, 2, 3, 4] (emit_writer_sync_5.ev e_11), ca [0, 1, 2, 3, 4] (emit_writer_add_12.ev e_14), ca [0, 1, 2, 3, 4] (emit_writer_sync_5.ev e_16), ca [0, 1, 2, 3, 4] (emit_writer_keep_4.ev e_18)] rfl (by kernel_rfl)
 ·rcases ic H with ⟨h_19, H⟩ | ⟨h_19, H⟩
  ·obtain ⟨r_20, e_21, H⟩ := bdE H
   obtain ⟨r_22, e_23, H⟩ := bdE H
   let v_24 : Int := wr .i64 ((8 : Int) * a_1.Loc)
   replace H := ltD H
   obtain ⟨r_25, e_26, H⟩ := bdE H
   obtain ⟨r_27, e_28, H⟩ := bdE H
   obtain rfl := sj H
   exact emit_writer_atomic_7.F.run tb mixed [br h_7, br h_19, ca [0, 1, 2, 3, 4] (emit_writer_use_8.ev e_21), ca [0, 1, 2, 3, 4] (emit_writer_sync_5.ev e_23), ca [0, 1, 2, 3, 4] (emit_writer_add_12.ev e_26), ca [0, 1, 2, 3, 4] (emit_writer_sync_5.ev e_28)] rfl (by kernel_rfl)
  ·obtain ⟨o_29, e_30, H⟩ := bdE H
   have j_31 : Rq emit_writer_atomic_7.F 5 [1, 1, 0, 1, 1, 1, 1, 0, 1] ⟨[(0, .ref 0 0), (3, .ref 5 0), (12, vi a_1.Op), (101, .v (.bool (decide (a_1.Op = 10))))], [.box [.sl 0 1 a_3 0 a_3, sL 2 a_4, sL 3 a_5, sL 4 a_6], .arr true 79 2 a_3 (a_2.map api_Home.c), .arr true 39 5 a_4.length (a_4.map api_Inst.c), .arr true 3 1 a_5.length (a_5.map (cI .i64)), .arr true 74 2 a_6.length (a_6.map emit_jump.c), .box (api_Ins.c a_1)], []⟩ ((fun _ => .normal : Bool → Ex) o_29) ((fun o_29 => ⟨[(0, .ref 0 0), (3, .ref 5 0), (101, .v (.bool o_29))], [.box [.sl 0 1 a_3 0 a_3, sL 2 a_4, sL 3 a_5, sL 4 a_6], .arr true 79 2 a_3 (a_2.map api_Home.c), .arr true 39 5 a_4.length (a_4.map api_Inst.c), .arr true 3 1 a_5.length (a_5.map (cI .i64)), .arr true 74 2 a_6.length (a_6.map emit_jump.c), .box (api_Ins.c a_1)], []⟩ : Bool → ASt) o_29) := by
    clear H
    have H := e_30
    clear e_30
    rcases ic H with ⟨h_32, H⟩ | ⟨h_32, H⟩
    ·obtain rfl := sj H
     exact fn [br h_32]
    ·obtain rfl := sj H
     exact fn [br h_32]
   rcases ie H with ⟨h_33, H⟩ | ⟨h_33, H⟩
   ·obtain ⟨r_34, e_35, H⟩ := bdE H
    let v_36 : Int := wr .i64 ((8 : Int) * a_1.Loc)
    replace H := ltD H
    obtain ⟨r_37, e_38, H⟩ := bdE H
    obtain ⟨r_39, e_40, H⟩ := bdE H
    obtain ⟨r_41, e_42, H⟩ := bdE H
    obtain ⟨o_43, e_44, H⟩ := bdE H
    have j_45 : Rq emit_writer_atomic_7.F 5 [1, 1, 0, 1, 1, 1, 1, 1, 0, 1, 1, 1, 1, 0, 1] ⟨[(0, .ref 0 0), (3, .ref 5 0), (6, vi r_34.2), (119, .v (.bool (decide (a_1.Op = 11))))], [.box [.sl 0 1 a_3 0 a_3, sL 2 r_41, sL 3 a_5, sL 4 a_6], .arr true 79 2 a_3 (a_2.map api_Home.c), .arr true 39 5 r_41.length (r_41.map api_Inst.c), .arr true 3 1 a_5.length (a_5.map (cI .i64)), .arr true 74 2 a_6.length (a_6.map emit_jump.c), .box (api_Ins.c a_1)], []⟩ ((fun _ => .normal : ((List api_Inst) × Int) → Ex) o_43) ((fun o_43 => ⟨[(0, .ref 0 0), (3, .ref 5 0), (6, vi o_43.2)], [.box [.sl 0 1 a_3 0 a_3, sL 2 o_43.1, sL 3 a_5, sL 4 a_6], .arr true 79 2 a_3 (a_2.map api_Home.c), .arr true 39 5 o_43.1.length (o_43.1.map api_Inst.c), .arr true 3 1 a_5.length (a_5.map (cI .i64)), .arr true 74 2 a_6.length (a_6.map emit_jump.c), .box (api_Ins.c a_1)], []⟩ : ((List api_Inst) × Int) → ASt) o_43) := by
     clear H
     have H := e_44
     clear e_44
     rcases ic H with ⟨h_46, H⟩ | ⟨h_46, H⟩
     ·obtain ⟨r_47, e_48, H⟩ := bdE H
      obtain rfl := sj H
      exact fn [br h_46, ca [0, 1, 2, 3, 4] (emit_writer_add_12.ev e_48)]
     ·obtain rfl := sj H
      exact fn [br h_46]
    obtain ⟨r_49, e_50, H⟩ := bdE H
    obtain ⟨o_51, e_52, H⟩ := bdE H
    have j_53 : Rq emit_writer_atomic_7.F 5 [1, 1, 0, 1, 1, 1, 1, 1, 0, 1, 1, 1, 1, 1, 1, 1, 0, 1] ⟨[(0, .ref 0 0), (3, .ref 5 0), (7, vi (-8)), (128, .v (.bool (decide (a_1.Op = 11))))], [.box [.sl 0 1 a_3 0 a_3, sL 2 r_49, sL 3 a_5, sL 4 a_6], .arr true 79 2 a_3 (a_2.map api_Home.c), .arr true 39 5 r_49.length (r_49.map api_Inst.c), .arr true 3 1 a_5.length (a_5.map (cI .i64)), .arr true 74 2 a_6.length (a_6.map emit_jump.c), .box (api_Ins.c a_1)], []⟩ ((fun _ => .normal : Int → Ex) o_51) ((fun o_51 => ⟨[(0, .ref 0 0), (3, .ref 5 0), (7, vi o_51)], [.box [.sl 0 1 a_3 0 a_3, sL 2 r_49, sL 3 a_5, sL 4 a_6], .arr true 79 2 a_3 (a_2.map api_Home.c), .arr true 39 5 r_49.length (r_49.map api_Inst.c), .arr true 3 1 a_5.length (a_5.map (cI .i64)), .arr true 74 2 a_6.length (a_6.map emit_jump.c), .box (api_Ins.c a_1)], []⟩ : Int → ASt) o_51) := by
     clear H
     have H := e_52
     clear e_52
     rcases ic H with ⟨h_54, H⟩ | ⟨h_54, H⟩
     ·obtain rfl := sj H
      exact fn [br h_54]
     ·obtain rfl := sj H
      exact fn [br h_54]
    obtain ⟨r_55, e_56, H⟩ := bdE H
    obtain ⟨r_57, e_58, H⟩ := bdE H
    obtain ⟨g_59, H⟩ := gdE H
    obtain ⟨g_60, H⟩ := gdE H
    let v_61 : api_Home := gi a_2 a_1.D
    replace H := ltD H
    rcases ic H with ⟨h_62, H⟩ | ⟨h_62, H⟩
    ·let v_63 : Int := wr .i64 ((14 : Int) + v_61.Reg)
     replace H := ltD H
     obtain ⟨r_64, e_65, H⟩ := bdE H
     obtain ⟨r_66, e_67, H⟩ := bdE H
     obtain rfl := sj H
     exact emit_writer_atomic_7.F.run tb mixed [br h_7, br h_19, sc_ j_31, br h_33, ca [0, 1, 2, 3, 4] (emit_writer_use_8.ev e_35), ca [0, 1, 2, 3, 4] (emit_writer_add_12.ev e_38), ca [0, 1, 2, 3, 4] (emit_writer_sync_5.ev e_40), ca [0, 1, 2, 3, 4] (emit_writer_add_12.ev e_42), sc_ j_45, ca [0, 1, 2, 3, 4] (emit_writer_add_12.ev e_50), sc_ j_53, ca [0, 1, 2, 3, 4] (emit_writer_add_12.ev e_56), ca [0, 1, 2, 3, 4] (emit_writer_sync_5.ev e_58), pf g_59, el api_Home.c g_60, br h_62, ca [0, 1, 2, 3, 4] (emit_writer_add_12.ev e_65), ca [0, 1, 2, 3, 4] (emit_writer_keep_4.ev e_67)] rfl (by kernel_rfl)
    ·obtain ⟨r_68, e_69, H⟩ := bdE H
     obtain rfl := sj H
     exact emit_writer_atomic_7.F.run tb mixed [br h_7, br h_19, sc_ j_31, br h_33, ca [0, 1, 2, 3, 4] (emit_writer_use_8.ev e_35), ca [0, 1, 2, 3, 4] (emit_writer_add_12.ev e_38), ca [0, 1, 2, 3, 4] (emit_writer_sync_5.ev e_40), ca [0, 1, 2, 3, 4] (emit_writer_add_12.ev e_42), sc_ j_45, ca [0, 1, 2, 3, 4] (emit_writer_add_12.ev e_50), sc_ j_53, ca [0, 1, 2, 3, 4] (emit_writer_add_12.ev e_56), ca [0, 1, 2, 3, 4] (emit_writer_sync_5.ev e_58), pf g_59, el api_Home.c g_60, br h_62, ca [0, 1, 2, 3, 4] (emit_writer_keep_4.ev e_69)] rfl (by kernel_rfl)
   ·obtain ⟨r_70, e_71, H⟩ := bdE H
    obtain ⟨r_72, e_73, H⟩ := bdE H
    let v_74 : Int := wr .i64 ((8 : Int) * a_1.Loc)
    replace H := ltD H
    obtain ⟨r_75, e_76, H⟩ := bdE H
    obtain ⟨r_77, e_78, H⟩ := bdE H
    obtain ⟨r_79, e_80, H⟩ := bdE H
    obtain ⟨r_81, e_82, H⟩ := bdE H
    obtain ⟨r_83, e_84, H⟩ := bdE H
    obtain ⟨r_85, e_86, H⟩ := bdE H
    obtain ⟨r_87, e_88, H⟩ := bdE H
    obtain ⟨r_89, e_90, H⟩ := bdE H
    obtain ⟨r_91, e_92, H⟩ := bdE H
    obtain ⟨r_93, e_94, H⟩ := bdE H
    obtain ⟨g_95, H⟩ := gdE H
    let v_96 : List emit_jump := a_6 ++ ([(emit_jump.mk (r_93.length : Int) a_1.To)] : List emit_jump)
    replace H := ltD H
    obtain ⟨r_97, e_98, H⟩ := bdE H
    obtain rfl := sj H
    exact emit_writer_atomic_7.F.run tb mixed [br h_7, br h_19, sc_ j_31, br h_33, kp [1, 3, 4] [.arr true 79 2 a_3 (a_2.map api_Home.c), .arr true 3 1 a_5.length (a_5.map (cI .i64)), .arr true 74 2 a_6.length (a_6.map emit_jump.c)] (ca [0, 1, 2, 3, 4] (emit_writer_use_8.ev e_71)), kp [1, 3, 4] [.arr true 79 2 a_3 (a_2.map api_Home.c), .arr true 3 1 a_5.length (a_5.map (cI .i64)), .arr true 74 2 a_6.length (a_6.map emit_jump.c)] (ca [0, 1, 2, 3, 4] (emit_writer_use_8.ev e_73)), ca [0, 1, 2, 3, 4] (emit_writer_add_12.ev e_76), ca [0, 1, 2, 3, 4] (emit_writer_sync_5.ev e_78), ca [0, 1, 2, 3, 4] (emit_writer_add_12.ev e_80), ca [0, 1, 2, 3, 4] (emit_writer_add_12.ev e_82), ca [0, 1, 2, 3, 4] (emit_writer_add_12.ev e_84), ca [0, 1, 2, 3, 4] (emit_writer_add_12.ev e_86), ca [0, 1, 2, 3, 4] (emit_writer_add_12.ev e_88), ca [0, 1, 2, 3, 4] (emit_writer_sync_5.ev e_90), ca [0, 1, 2, 3, 4] (emit_writer_add_12.ev e_92), ca [0, 1, 2, 3, 4] (emit_writer_sync_5.ev e_94), ap emit_jump.c 16 false a_6 ([(emit_jump.mk (r_93.length : Int) a_1.To)] : List emit_jump) g_95 (fun h => by cases h), ca [0, 1, 2, 3, 4] (emit_writer_add_12.ev e_98)] rfl (by kernel_rfl)
end Go.Proofs.Ytbhekpcimmaijaa
