/- Functions of the program as plain Lean functions, and that the calls do what they say: written by w2.py. -/
import Derived.Test.YtcnchjlomcafeaaProg
import Derived.Test.YtcnchjlomcafeaaDefer
set_option linter.unusedVariables false
set_option linter.unusedSimpArgs false
set_option linter.unusedSectionVars false
namespace Go.Proofs.Ytcnchjlomcafeaa.W
open Go Go.RowKit Go.Proofs.Ytcnchjlomcafeaa.B
attribute [local irreducible] Go.wpList Go.Code.wp Go.Region.wanted Go.yielded
theorem mixed : Try.prog.follows .mixedOrders = true := by kernel_rfl
structure api_Event where
  Kind : Int
  Loc : Int
  Val : Int
  Pair : Int
  Addr : Int
  Data : Int
  Ctrl : Int
  Fenced : Int
  deriving DecidableEq, Inhabited
def api_Event_E : Enc api_Event := flatE (fun x => [.int .i64 (x.Kind), .int .i64 (x.Loc), .int .i64 (x.Val), .int .i64 (x.Pair), .int .u64 (x.Addr), .int .u64 (x.Data), .int .u64 (x.Ctrl), .int .u64 (x.Fenced)]) 8 (by decide) (fun _ => rfl) (fun x u hu => by simp at hu; rcases hu with rfl | rfl | rfl | rfl | rfl | rfl | rfl | rfl <;> rfl)
theorem api_Event_F : Flat api_Event_E := fun h => h
structure api_Run where
  Events : List api_Event
  Status : Int
  deriving DecidableEq, Inhabited
def api_Run_E : Enc api_Run := ⟨2, fun F w x cs => ∃ (A0 : Option Addr) (c0 : Nat), cs = [.slice A0 x.Events.length c0, .int .i64 (x.Status)] ∧ RdS api_Event_E F w A0 c0 x.Events, by decide, fun h => by obtain ⟨A0, c0, rfl, _⟩ := h; rfl, fun h u hu => by
    obtain ⟨A0, c0, rfl, _⟩ := h
    simp at hu; rcases hu with rfl | rfl <;> rfl,
  fun h u => by
    obtain ⟨A0, c0, rfl, h0⟩ := h
    exact ⟨A0, c0, rfl, h0.up u⟩⟩
structure api_Inst where
  Op : Int
  T : Int
  A : Int
  B : Int
  Imm : Int
  deriving DecidableEq, Inhabited
def api_Inst_E : Enc api_Inst := flatE (fun x => [.int .i64 (x.Op), .int .i64 (x.T), .int .i64 (x.A), .int .i64 (x.B), .int .i64 (x.Imm)]) 5 (by decide) (fun _ => rfl) (fun x u hu => by simp at hu; rcases hu with rfl | rfl | rfl | rfl | rfl <;> rfl)
theorem api_Inst_F : Flat api_Inst_E := fun h => h
structure thread_cell where
  n : Int
  hang : Int
  deriving DecidableEq, Inhabited
def thread_cell_E : Enc thread_cell := flatE (fun x => [.int .i64 (x.n), .int .u64 (x.hang)]) 2 (by decide) (fun _ => rfl) (fun x u hu => by simp at hu; rcases hu with rfl | rfl <;> rfl)
theorem thread_cell_F : Flat thread_cell_E := fun h => h
structure thread_thread where
  code : List api_Inst
  locs : Int
  base : Int
  answers : List Int
  regs : Vector thread_cell 32
  stack : Vector thread_cell 400
  less : Bool
  same : Bool
  held : Int
  ctrl : Int
  fenced : Int
  hold : Int
  event : Int
  out : List api_Event
  deriving DecidableEq, Inhabited
structure selvageref16_Cell where
  N : Int
  Hang : List Int
  deriving DecidableEq, Inhabited
def selvageref16_Cell_E : Enc selvageref16_Cell := ⟨2, fun F w x cs => ∃ (A0 : Option Addr) (c0 : Nat), cs = [.int .i64 (x.N), .slice A0 x.Hang.length c0] ∧ RdS (intE .i64) F w A0 c0 x.Hang, by decide, fun h => by obtain ⟨A0, c0, rfl, _⟩ := h; rfl, fun h u hu => by
    obtain ⟨A0, c0, rfl, _⟩ := h
    simp at hu; rcases hu with rfl | rfl <;> rfl,
  fun h u => by
    obtain ⟨A0, c0, rfl, h0⟩ := h
    exact ⟨A0, c0, rfl, h0.up u⟩⟩
structure selvageref16_state where
  regs : Vector selvageref16_Cell 32
  stack : Vector selvageref16_Cell 400
  cmp : selvageref16_Cell
  ctrl : List Int
  fenced : List Int
  hold : Int
  held : Int
  events : List api_Event
  answers : List Int
  locs : Int
  base : Int
  deriving DecidableEq, Inhabited
structure api_Act where
  Kind : Int
  Loc : Int
  Old : Int
  New : Int
  deriving DecidableEq, Inhabited
def api_Act_E : Enc api_Act := flatE (fun x => [.int .i64 (x.Kind), .int .i64 (x.Loc), .int .i64 (x.Old), .int .i64 (x.New)]) 4 (by decide) (fun _ => rfl) (fun x u hu => by simp at hu; rcases hu with rfl | rfl | rfl | rfl <;> rfl)
theorem api_Act_F : Flat api_Act_E := fun h => h
structure api_Loc where
  Atomic : Bool
  Init : Int
  deriving DecidableEq, Inhabited
def api_Loc_E : Enc api_Loc := flatE (fun x => [.bool (x.Atomic), .int .i64 (x.Init)]) 2 (by decide) (fun _ => rfl) (fun x u hu => by simp at hu; rcases hu with rfl | rfl <;> rfl)
theorem api_Loc_F : Flat api_Loc_E := fun h => h
structure selvageref15_word where
  w : Int
  bits : Int
  deriving DecidableEq, Inhabited
def selvageref15_word_E : Enc selvageref15_word := flatE (fun x => [.int .u32 (x.w), .int .i64 (x.bits)]) 2 (by decide) (fun _ => rfl) (fun x u hu => by simp at hu; rcases hu with rfl | rfl <;> rfl)
theorem selvageref15_word_F : Flat selvageref15_word_E := fun h => h
end Go.Proofs.Ytcnchjlomcafeaa.W
