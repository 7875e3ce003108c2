/-
  No cell of these rows narrows 'for every input' (looked for: loops, veiled, ifaces, maps, wideKeys, modest, calm, conditions, laid).
  DERIVED. THE GIVEN ROWS OF THIS SEAT. 4 by the template 'for every input the law returns true; each argument reads behind the call as it read before'; 0 by the template 'total and deterministic' (their statements: YtbhekpcimmaijaaTotals.lean).
  GIVEN WITH THE SEED: the statements are not yours to turn. If you find one false, say at which input.
  Laid BY PROGRAM, IN A SANDBOX (cutbox-rows.mjs): the forced cells as the released guide's own fill.sh prints them over the translation 09d137f675951786… (all of the seat's roots in one cut). By AI agents, Wed Nov 11 2026. No macro, syntax, notation, axiom, sorry.
-/
import Derived.Test.YtbhekpcimmaijaaChecked
import GoSem.Claim
import GoSem.ClaimJoined
import GoSem.ClaimMapViews
import Derived.JoinedTies
import Derived.KernelRfl
namespace Go.Proofs.Ytbhekpcimmaijaa
/- THE CELL 'sum', in the pinned program and in every row, IS THE sha256 OF THE DUMP (.gsa) THAT YtbhekpcimmaijaaProg.lean LOADS. Nothing in Lean hashes anything: it is a label: what it is worth is what the hold of that sum in a sandbox is worth. -/
noncomputable def Try.pinned : Pinned := { name := "ytbhekpcimmaijaa", sum := "09d137f6759517864e789cb1b124cbf34183f8b105915a38d29abdd341d4e224", checked := Try.checked }
namespace Rows
def none {H : Type} : Left H := { results := [], args := [] }

/-- 'selvagelaw17.EmitWords': WHATEVER THE INPUT: true; the input reads as it did. -/
def emitWordsSpec : ChangeSpec := { name := "emitWords", fn := fun _ => fun
  | [d1, d2, d3] => { results := [.lit (.bool true)], args := [d1, d2, d3] }
  | _ => none }
def emitWordsRow : OpenClaim := { program := "ytbhekpcimmaijaa", sum := "09d137f6759517864e789cb1b124cbf34183f8b105915a38d29abdd341d4e224", func := "selvage/selvagelaw17.EmitWords", spec := "emitWords", inPlace := ["math.Float64bits"], unfollowed := true, recurses := true, apart := false }
def EmitWordsSaid : Prop := emitWordsRow.holds Try.pinned (OpenSpec.ofChange emitWordsSpec)

/-- ITS FALSE NEIGHBOUR: 'it returns false'. Refute it at one input. -/
def emitWordsWrong : ChangeSpec := { name := "emitWords", fn := fun _ => fun
  | [d1, d2, d3] => { results := [.lit (.bool false)], args := [d1, d2, d3] }
  | _ => none }
def EmitWordsWrongFalsely : Prop := emitWordsRow.holds Try.pinned (OpenSpec.ofChange emitWordsWrong)

/-- 'selvagelaw17.EmitDecided': WHATEVER THE INPUT: true; the input reads as it did. -/
def emitDecidedSpec : ChangeSpec := { name := "emitDecided", fn := fun _ => fun
  | [d1, d2, d3, d4] => { results := [.lit (.bool true)], args := [d1, d2, d3, d4] }
  | _ => none }
def emitDecidedRow : OpenClaim := { program := "ytbhekpcimmaijaa", sum := "09d137f6759517864e789cb1b124cbf34183f8b105915a38d29abdd341d4e224", func := "selvage/selvagelaw17.EmitDecided", spec := "emitDecided", inPlace := ["math.Float64bits"], unfollowed := true, recurses := true, apart := false }
def EmitDecidedSaid : Prop := emitDecidedRow.holds Try.pinned (OpenSpec.ofChange emitDecidedSpec)

/-- ITS FALSE NEIGHBOUR: 'it returns false'. Refute it at one input. -/
def emitDecidedWrong : ChangeSpec := { name := "emitDecided", fn := fun _ => fun
  | [d1, d2, d3, d4] => { results := [.lit (.bool false)], args := [d1, d2, d3, d4] }
  | _ => none }
def EmitDecidedWrongFalsely : Prop := emitDecidedRow.holds Try.pinned (OpenSpec.ofChange emitDecidedWrong)

/-- 'selvagelaw17.EmitInside': WHATEVER THE INPUT: true; the input reads as it did. -/
def emitInsideSpec : ChangeSpec := { name := "emitInside", fn := fun _ => fun
  | [d1, d2, d3, d4, d5] => { results := [.lit (.bool true)], args := [d1, d2, d3, d4, d5] }
  | _ => none }
def emitInsideRow : OpenClaim := { program := "ytbhekpcimmaijaa", sum := "09d137f6759517864e789cb1b124cbf34183f8b105915a38d29abdd341d4e224", func := "selvage/selvagelaw17.EmitInside", spec := "emitInside", inPlace := ["math.Float64bits"], unfollowed := true, recurses := true, apart := false }
def EmitInsideSaid : Prop := emitInsideRow.holds Try.pinned (OpenSpec.ofChange emitInsideSpec)

/-- ITS FALSE NEIGHBOUR: 'it returns false'. Refute it at one input. -/
def emitInsideWrong : ChangeSpec := { name := "emitInside", fn := fun _ => fun
  | [d1, d2, d3, d4, d5] => { results := [.lit (.bool false)], args := [d1, d2, d3, d4, d5] }
  | _ => none }
def EmitInsideWrongFalsely : Prop := emitInsideRow.holds Try.pinned (OpenSpec.ofChange emitInsideWrong)

/-- 'selvagelaw17.EmitRuns': WHATEVER THE INPUT: true; the input reads as it did. -/
def emitRunsSpec : ChangeSpec := { name := "emitRuns", fn := fun _ => fun
  | [d1, d2, d3, d4, d5] => { results := [.lit (.bool true)], args := [d1, d2, d3, d4, d5] }
  | _ => none }
def emitRunsRow : OpenClaim := { program := "ytbhekpcimmaijaa", sum := "09d137f6759517864e789cb1b124cbf34183f8b105915a38d29abdd341d4e224", func := "selvage/selvagelaw17.EmitRuns", spec := "emitRuns", inPlace := ["math.Float64bits"], unfollowed := true, recurses := true, apart := false }
def EmitRunsSaid : Prop := emitRunsRow.holds Try.pinned (OpenSpec.ofChange emitRunsSpec)

/-- ITS FALSE NEIGHBOUR: 'it returns false'. Refute it at one input. -/
def emitRunsWrong : ChangeSpec := { name := "emitRuns", fn := fun _ => fun
  | [d1, d2, d3, d4, d5] => { results := [.lit (.bool false)], args := [d1, d2, d3, d4, d5] }
  | _ => none }
def EmitRunsWrongFalsely : Prop := emitRunsRow.holds Try.pinned (OpenSpec.ofChange emitRunsWrong)

/- THE SECOND FORM. 'bulk': how many values and letters a reading holds, each counted each time it is reached (what is shared counts as often as it is met; a slice's spare places count too). A statement '..UptoSaid' is the law's where the arguments, and the package variables that the reading takes, are together of bulk at most 1048576: NARROWER than '..Said'. Prove '..Said' where nothing that the law and all that it calls make is longer than what came in: it says more and counts as full. Else prove '..UptoSaid'. A law counts once. -/
mutual
def uptoBulk {H : Type} : DataW H → Nat
  | .lit (.string bytes) => bytes.length + 1
  | .lit _ => 1
  | .nil => 1
  | .ptr d => uptoBulk d + 1
  | .slice elems spare => uptoBulkAll elems + uptoBulkAll spare + 1
  | .agg parts => uptoBulkAll parts + 1
  | .iface _ d => uptoBulk d + 1
  | .map entries => uptoBulkEntries entries + 1
  | .held _ => 1
def uptoBulkAll {H : Type} : List (DataW H) → Nat
  | [] => 0
  | d :: r => uptoBulk d + uptoBulkAll r
def uptoBulkEntries {H : Type} : List (Lit × DataW H) → Nat
  | [] => 0
  | x :: r => uptoBulkEntry x + uptoBulkEntries r
def uptoBulkEntry {H : Type} : Lit × DataW H → Nat
  | (.string bytes, d) => bytes.length + uptoBulk d + 1
  | (_, d) => uptoBulk d + 1
 end
def uptoSmall : (H : Type) → List (DataW H) → Bool := fun _ ds => decide (uptoBulkAll ds ≤ 1048576)
def OpenSpec.upto (s : _root_.Go.ChangeSpec) : _root_.Go.OpenSpec := { _root_.Go.OpenSpec.ofChange s with cond := some uptoSmall }

/-- 'selvagelaw17.EmitWords', WHERE WHAT IT READS IS OF BULK AT MOST 1048576: true; the input reads as it did. -/
def emitWordsUptoRow : OpenClaim := { program := "ytbhekpcimmaijaa", sum := "09d137f6759517864e789cb1b124cbf34183f8b105915a38d29abdd341d4e224", func := "selvage/selvagelaw17.EmitWords", spec := "emitWords", inPlace := ["math.Float64bits"], unfollowed := true, recurses := true, apart := false, narrowed := true }
def EmitWordsUptoSaid : Prop := emitWordsUptoRow.holds Try.pinned (OpenSpec.upto emitWordsSpec)

/-- 'selvagelaw17.EmitDecided', WHERE WHAT IT READS IS OF BULK AT MOST 1048576: true; the input reads as it did. -/
def emitDecidedUptoRow : OpenClaim := { program := "ytbhekpcimmaijaa", sum := "09d137f6759517864e789cb1b124cbf34183f8b105915a38d29abdd341d4e224", func := "selvage/selvagelaw17.EmitDecided", spec := "emitDecided", inPlace := ["math.Float64bits"], unfollowed := true, recurses := true, apart := false, narrowed := true }
def EmitDecidedUptoSaid : Prop := emitDecidedUptoRow.holds Try.pinned (OpenSpec.upto emitDecidedSpec)

/-- 'selvagelaw17.EmitInside', WHERE WHAT IT READS IS OF BULK AT MOST 1048576: true; the input reads as it did. -/
def emitInsideUptoRow : OpenClaim := { program := "ytbhekpcimmaijaa", sum := "09d137f6759517864e789cb1b124cbf34183f8b105915a38d29abdd341d4e224", func := "selvage/selvagelaw17.EmitInside", spec := "emitInside", inPlace := ["math.Float64bits"], unfollowed := true, recurses := true, apart := false, narrowed := true }
def EmitInsideUptoSaid : Prop := emitInsideUptoRow.holds Try.pinned (OpenSpec.upto emitInsideSpec)

/-- 'selvagelaw17.EmitRuns', WHERE WHAT IT READS IS OF BULK AT MOST 1048576: true; the input reads as it did. -/
def emitRunsUptoRow : OpenClaim := { program := "ytbhekpcimmaijaa", sum := "09d137f6759517864e789cb1b124cbf34183f8b105915a38d29abdd341d4e224", func := "selvage/selvagelaw17.EmitRuns", spec := "emitRuns", inPlace := ["math.Float64bits"], unfollowed := true, recurses := true, apart := false, narrowed := true }
def EmitRunsUptoSaid : Prop := emitRunsUptoRow.holds Try.pinned (OpenSpec.upto emitRunsSpec)

end Rows
end Go.Proofs.Ytbhekpcimmaijaa
