/- Functions of the program as plain Lean functions, and that the calls do what they say: written by w2.py. -/
import Derived.Test.YtcnchjlomcafeaaProg
import Derived.Test.YtcnchjlomcafeaaRun
set_option linter.unusedVariables false
set_option linter.unusedSimpArgs false
set_option linter.unusedSectionVars false
namespace Go.Proofs.Ytcnchjlomcafeaa.W
open Go Go.RowKit Go.Proofs.Ytcnchjlomcafeaa.B
attribute [local irreducible] Go.wpList Go.Code.wp Go.Region.wanted Go.yielded
theorem mixed : Try.prog.follows .mixedOrders = true := by kernel_rfl
structure api_Event where
  Kind : Int
  Loc : Int
  Val : Int
  Pair : Int
  Addr : Int
  Data : Int
  Ctrl : Int
  Fenced : Int
  deriving DecidableEq, Inhabited
def api_Event_E : Enc api_Event := flatE (fun x => [.int .i64 (x.Kind), .int .i64 (x.Loc), .int .i64 (x.Val), .int .i64 (x.Pair), .int .u64 (x.Addr), .int .u64 (x.Data), .int .u64 (x.Ctrl), .int .u64 (x.Fenced)]) 8 (by decide) (fun _ => rfl) (fun x u hu => by simp at hu; rcases hu with rfl | rfl | rfl | rfl | rfl | rfl | rfl | rfl <;> rfl)
theorem api_Event_F : Flat api_Event_E := fun h => h
structure api_Run where
  Events : List api_Event
  Status : Int
  deriving DecidableEq, Inhabited
def api_Run_E : Enc api_Run := ⟨2, fun F w x cs => ∃ (A0 : Option Addr) (c0 : Nat), cs = [.slice A0 x.Events.length c0, .int .i64 (x.Status)] ∧ RdS api_Event_E F w A0 c0 x.Events, by decide, fun h => by obtain ⟨A0, c0, rfl, _⟩ := h; rfl, fun h u hu => by
    obtain ⟨A0, c0, rfl, _⟩ := h
    simp at hu; rcases hu with rfl | rfl <;> rfl,
  fun h u => by
    obtain ⟨A0, c0, rfl, h0⟩ := h
    exact ⟨A0, c0, rfl, h0.up u⟩⟩
structure api_Inst where
  Op : Int
  T : Int
  A : Int
  B : Int
  Imm : Int
  deriving DecidableEq, Inhabited
def api_Inst_E : Enc api_Inst := flatE (fun x => [.int .i64 (x.Op), .int .i64 (x.T), .int .i64 (x.A), .int .i64 (x.B), .int .i64 (x.Imm)]) 5 (by decide) (fun _ => rfl) (fun x u hu => by simp at hu; rcases hu with rfl | rfl | rfl | rfl | rfl <;> rfl)
theorem api_Inst_F : Flat api_Inst_E := fun h => h
structure thread_cell where
  n : Int
  hang : Int
  deriving DecidableEq, Inhabited
def thread_cell_E : Enc thread_cell := flatE (fun x => [.int .i64 (x.n), .int .u64 (x.hang)]) 2 (by decide) (fun _ => rfl) (fun x u hu => by simp at hu; rcases hu with rfl | rfl <;> rfl)
theorem thread_cell_F : Flat thread_cell_E := fun h => h
structure thread_thread where
  code : List api_Inst
  locs : Int
  base : Int
  answers : List Int
  regs : Vector thread_cell 32
  stack : Vector thread_cell 400
  less : Bool
  same : Bool
  held : Int
  ctrl : Int
  fenced : Int
  hold : Int
  event : Int
  out : List api_Event
  deriving DecidableEq, Inhabited
structure selvageref16_Cell where
  N : Int
  Hang : List Int
  deriving DecidableEq, Inhabited
def selvageref16_Cell_E : Enc selvageref16_Cell := ⟨2, fun F w x cs => ∃ (A0 : Option Addr) (c0 : Nat), cs = [.int .i64 (x.N), .slice A0 x.Hang.length c0] ∧ RdS (intE .i64) F w A0 c0 x.Hang, by decide, fun h => by obtain ⟨A0, c0, rfl, _⟩ := h; rfl, fun h u hu => by
    obtain ⟨A0, c0, rfl, _⟩ := h
    simp at hu; rcases hu with rfl | rfl <;> rfl,
  fun h u => by
    obtain ⟨A0, c0, rfl, h0⟩ := h
    exact ⟨A0, c0, rfl, h0.up u⟩⟩
structure selvageref16_state where
  regs : Vector selvageref16_Cell 32
  stack : Vector selvageref16_Cell 400
  cmp : selvageref16_Cell
  ctrl : List Int
  fenced : List Int
  hold : Int
  held : Int
  events : List api_Event
  answers : List Int
  locs : Int
  base : Int
  deriving DecidableEq, Inhabited
structure api_Act where
  Kind : Int
  Loc : Int
  Old : Int
  New : Int
  deriving DecidableEq, Inhabited
def api_Act_E : Enc api_Act := flatE (fun x => [.int .i64 (x.Kind), .int .i64 (x.Loc), .int .i64 (x.Old), .int .i64 (x.New)]) 4 (by decide) (fun _ => rfl) (fun x u hu => by simp at hu; rcases hu with rfl | rfl | rfl | rfl <;> rfl)
theorem api_Act_F : Flat api_Act_E := fun h => h
structure api_Loc where
  Atomic : Bool
  Init : Int
  deriving DecidableEq, Inhabited
def api_Loc_E : Enc api_Loc := flatE (fun x => [.bool (x.Atomic), .int .i64 (x.Init)]) 2 (by decide) (fun _ => rfl) (fun x u hu => by simp at hu; rcases hu with rfl | rfl <;> rfl)
theorem api_Loc_F : Flat api_Loc_E := fun h => h
structure selvageref15_word where
  w : Int
  bits : Int
  deriving DecidableEq, Inhabited
def selvageref15_word_E : Enc selvageref15_word := flatE (fun x => [.int .u32 (x.w), .int .i64 (x.bits)]) 2 (by decide) (fun _ => rfl) (fun x u hu => by simp at hu; rcases hu with rfl | rfl <;> rfl)
theorem selvageref15_word_F : Flat selvageref15_word_E := fun h => h
def tb : List (TE Try.prog) := [
  ⟨2, _, _, _, Try.runUnderlying2, Try.sizeOf2, Try.isAgg2, none, fun q h => by cases h⟩,
  ⟨3, _, _, _, Try.runUnderlying3, Try.sizeOf3, Try.isAgg3, none, fun q h => by cases h⟩,
  ⟨4, _, _, _, Try.runUnderlying4, Try.sizeOf4, Try.isAgg4, none, fun q h => by cases h⟩,
  ⟨9, _, _, _, Try.runUnderlying9, Try.sizeOf9, Try.isAgg9, none, fun q h => by cases h⟩,
  ⟨21, _, _, _, Try.runUnderlying21, Try.sizeOf21, Try.isAgg21, none, fun q h => by cases h⟩,
  ⟨22, _, _, _, Try.runUnderlying22, Try.sizeOf22, Try.isAgg22, none, fun q h => by cases h⟩,
  ⟨23, _, _, _, Try.runUnderlying23, Try.sizeOf23, Try.isAgg23, none, fun q h => by cases h⟩,
  ⟨26, _, _, _, Try.runUnderlying26, Try.sizeOf26, Try.isAgg26, none, fun q h => by cases h⟩,
  ⟨28, _, _, _, Try.runUnderlying28, Try.sizeOf28, Try.isAgg28, some (#[.slice none 0 0, .int .i64 0], #[(0, 1), (1, 1)]), fun q h => by cases h; exact BL.mk (zv := .agg #[.slice none 0 0, .int .i64 0]) (by intro w; kernel_rfl) rfl Try.runUnderlying28 (by intro w; kernel_rfl)⟩,
  ⟨31, _, _, _, Try.runUnderlying31, Try.sizeOf31, Try.isAgg31, none, fun q h => by cases h⟩,
  ⟨33, _, _, _, Try.runUnderlying33, Try.sizeOf33, Try.isAgg33, some (#[.int .i64 0, .int .i64 0, .int .i64 0, .int .i64 0, .int .u64 0, .int .u64 0, .int .u64 0, .int .u64 0], #[(0, 1), (1, 1), (2, 1), (3, 1), (4, 1), (5, 1), (6, 1), (7, 1)]), fun q h => by cases h; exact BL.mk (zv := .agg #[.int .i64 0, .int .i64 0, .int .i64 0, .int .i64 0, .int .u64 0, .int .u64 0, .int .u64 0, .int .u64 0]) (by intro w; kernel_rfl) rfl Try.runUnderlying33 (by intro w; kernel_rfl)⟩,
  ⟨34, _, _, _, Try.runUnderlying34, Try.sizeOf34, Try.isAgg34, none, fun q h => by cases h⟩,
  ⟨37, _, _, _, Try.runUnderlying37, Try.sizeOf37, Try.isAgg37, none, fun q h => by cases h⟩,
  ⟨39, _, _, _, Try.runUnderlying39, Try.sizeOf39, Try.isAgg39, none, fun q h => by cases h⟩,
  ⟨42, _, _, _, Try.runUnderlying42, Try.sizeOf42, Try.isAgg42, none, fun q h => by cases h⟩,
  ⟨44, _, _, _, Try.runUnderlying44, Try.sizeOf44, Try.isAgg44, some (#[.int .i64 0, .int .i64 0, .int .i64 0, .int .i64 0, .int .i64 0], #[(0, 1), (1, 1), (2, 1), (3, 1), (4, 1)]), fun q h => by cases h; exact BL.mk (zv := .agg #[.int .i64 0, .int .i64 0, .int .i64 0, .int .i64 0, .int .i64 0]) (by intro w; kernel_rfl) rfl Try.runUnderlying44 (by intro w; kernel_rfl)⟩,
  ⟨47, _, _, _, Try.runUnderlying47, Try.sizeOf47, Try.isAgg47, none, fun q h => by cases h⟩,
  ⟨53, _, _, _, Try.runUnderlying53, Try.sizeOf53, Try.isAgg53, none, fun q h => by cases h⟩,
  ⟨55, _, _, _, Try.runUnderlying55, Try.sizeOf55, Try.isAgg55, some (#[.int .i64 0, .int .u64 0], #[(0, 1), (1, 1)]), fun q h => by cases h; exact BL.mk (zv := .agg #[.int .i64 0, .int .u64 0]) (by intro w; kernel_rfl) rfl Try.runUnderlying55 (by intro w; kernel_rfl)⟩,
  ⟨56, _, _, _, Try.runUnderlying56, Try.sizeOf56, Try.isAgg56, none, fun q h => by cases h⟩,
  ⟨57, _, _, _, Try.runUnderlying57, Try.sizeOf57, Try.isAgg57, none, fun q h => by cases h⟩,
  ⟨59, _, _, _, Try.runUnderlying59, Try.sizeOf59, Try.isAgg59, none, fun q h => by cases h⟩,
  ⟨65, _, _, _, Try.runUnderlying65, Try.sizeOf65, Try.isAgg65, none, fun q h => by cases h⟩,
  ⟨67, _, _, _, Try.runUnderlying67, Try.sizeOf67, Try.isAgg67, some (#[.int .i64 0, .slice none 0 0], #[(0, 1), (1, 1)]), fun q h => by cases h; exact BL.mk (zv := .agg #[.int .i64 0, .slice none 0 0]) (by intro w; kernel_rfl) rfl Try.runUnderlying67 (by intro w; kernel_rfl)⟩,
  ⟨68, _, _, _, Try.runUnderlying68, Try.sizeOf68, Try.isAgg68, none, fun q h => by cases h⟩,
  ⟨69, _, _, _, Try.runUnderlying69, Try.sizeOf69, Try.isAgg69, none, fun q h => by cases h⟩,
  ⟨71, _, _, _, Try.runUnderlying71, Try.sizeOf71, Try.isAgg71, none, fun q h => by cases h⟩,
  ⟨77, _, _, _, Try.runUnderlying77, Try.sizeOf77, Try.isAgg77, some (#[.int .i64 0, .int .i64 0, .int .i64 0, .int .i64 0], #[(0, 1), (1, 1), (2, 1), (3, 1)]), fun q h => by cases h; exact BL.mk (zv := .agg #[.int .i64 0, .int .i64 0, .int .i64 0, .int .i64 0]) (by intro w; kernel_rfl) rfl Try.runUnderlying77 (by intro w; kernel_rfl)⟩,
  ⟨103, _, _, _, Try.runUnderlying103, Try.sizeOf103, Try.isAgg103, some (#[.int .u32 0, .int .i64 0], #[(0, 1), (1, 1)]), fun q h => by cases h; exact BL.mk (zv := .agg #[.int .u32 0, .int .i64 0]) (by intro w; kernel_rfl) rfl Try.runUnderlying103 (by intro w; kernel_rfl)⟩,
  ⟨113, _, _, _, Try.runUnderlying113, Try.sizeOf113, Try.isAgg113, none, fun q h => by cases h⟩]
end Go.Proofs.Ytcnchjlomcafeaa.W
